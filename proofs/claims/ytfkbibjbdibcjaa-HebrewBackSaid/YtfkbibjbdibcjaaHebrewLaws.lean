/- The walks of the statements on the Hebrew calendar: each hands back true. -/
import Derived.Test.YtfkbibjbdibcjaaHebrewDate
import Derived.Test.YtfkbibjbdibcjaaHebrewRefDay
import Derived.Test.YtfkbibjbdibcjaaHebrewRefDate
import Derived.Test.YtfkbibjbdibcjaaHebrewAwake
namespace Go.Proofs.Ytfkbibjbdibcjaa
open Go.RowKit


set_option maxHeartbeats 400000 in
theorem hebDate_told (n y m d e : Int) (w : World) (h : Heb.Told n y m d e) :
    Calls Try.prog 39 #[.int .i64 n] w fun r w' => r = .returned (.tuple #[.agg #[.int .i64 y, .int .i64 m, .int .i64 d], .int .i64 e]) ∧ Below w.heap.size w w' := by
  rcases h with ⟨h1, h2, h, rfl⟩ | ⟨h, rfl, rfl, rfl, rfl⟩
  · exact hebDate_in n y m d w h1 h2 h
  · exact hebDate_out n w h

set_option maxHeartbeats 400000 in
theorem rDate3_told (n y m d e : Int) (w : World) (h : Heb.Told n y m d e) :
    Calls Try.prog 25 #[.int .i64 3, .int .i64 n] w fun r w' => r = .returned (.tuple #[.agg #[.int .i64 y, .int .i64 m, .int .i64 d], .int .i64 e]) ∧ Below w.heap.size w w' := by
  rcases h with ⟨h1, h2, h, rfl⟩ | ⟨h, rfl, rfl, rfl, rfl⟩
  · exact rDate3_in n y m d w h1 h2 h
  · exact rDate3_out n w h

set_option maxHeartbeats 400000 in
theorem hebrewDays_walk (y m d : Int) (w : World) :
    Calls Try.prog 15 #[.agg #[.int .i64 y, .int .i64 m, .int .i64 d]] w fun e w' => e = .returned (.bool true) ∧ Below w.heap.size w w' := by
  go_enter Try.func15, Try.ntmps15
  go_wp2_with fail
  refine (hebAwake_any _).mono ?_
  rintro e w1 ⟨rfl, hb1⟩
  obtain ⟨hc1, hf1⟩ := belowSame hb1
  go_wp2_with fail
  refine (hebFrom_any _ _ _ _).mono ?_
  rintro e w2 ⟨rfl, hb2⟩
  have hz1 : w.heap.size < w1.heap.size := by have := hb1.size; simp at this; omega
  obtain ⟨hc2, hf2⟩ := belowSame hb2
  go_wp2_with fail
  refine (rDay3_any _ _ _ _).mono ?_
  rintro e w3 ⟨rfl, hb3⟩
  go_wp2_with fail
  go_ret
  exact ⟨by simp, ((((Below.refl _ _).alloc (Nat.le_refl _) _).trans (hb1.mono (by simp))).trans (hb2.mono (by omega))).trans (hb3.mono (by have := hb2.size; omega))⟩

set_option maxHeartbeats 400000 in
theorem hebrewDates_walk (n : Int) (w : World) :
    Calls Try.prog 16 #[.int .i64 n] w fun e w' => e = .returned (.bool true) ∧ Below w.heap.size w w' := by
  obtain ⟨y, m, d, r, h⟩ := Heb.told n
  go_enter Try.func16, Try.ntmps16
  go_wp2_with fail
  refine (hebAwake_any _).mono ?_
  rintro e w1 ⟨rfl, hb1⟩
  go_wp2_with fail
  refine (hebDate_told n y m d r _ h).mono ?_
  rintro e w2 ⟨rfl, hb2⟩
  go_wp2_with fail
  refine (rDate3_told n y m d r _ h).mono ?_
  rintro e w3 ⟨rfl, hb3⟩
  obtain ⟨hc3, hf3⟩ := belowSame hb3
  have hz3 : w2.heap.size < w3.heap.size := by have := hb3.size; simp at this; omega
  go_wp2_with fail
  go_ret
  have z1 := hb1.size
  have z2 := hb2.size
  exact ⟨by simp, (((hb1.trans (hb2.mono z1)).alloc (by omega) _).trans (hb3.mono (by simp; omega))).alloc (by omega) _⟩

set_option maxHeartbeats 1000000 in
theorem hebrewBack_in_bad (n y m d y' m' d' : Int) (w : World) (h1 : 1 ≤ n) (h2 : n ≤ 3652059) (h : Heb.Is n y' m' d') (he : Heb.dayE y m d = 2) (hn : Heb.dayN y m d = 0) :
    Calls Try.prog 18 #[.int .i64 n, .agg #[.int .i64 y, .int .i64 m, .int .i64 d]] w fun e w' => e = .returned (.bool true) ∧ Below w.heap.size w w' := by
  have HT := Lib.hid (show Heb.Told n y' m' d' 0 from Or.inl ⟨h1, h2, h, rfl⟩)
  have HF := Lib.hid (Heb.from_told h h1 h2)
  have HO := Lib.hid (isDay_yes h1 h2)
  clear h
  have HG := Lib.hid (show Heb.Told (Heb.dayN y m d) 0 0 0 2 from Or.inr ⟨by omega, rfl, rfl, rfl, rfl⟩)
  have HE := Lib.hid he
  clear he hn
  go_enter Try.func18, Try.ntmps18
  go_wp2_with fail
  refine (hebAwake_any _).mono ?_
  rintro e w1 ⟨rfl, hb1⟩
  obtain ⟨hc1, hf1⟩ := belowSame hb1
  have hz1 : w.heap.size < w1.heap.size := by have := hb1.size; simp at this; omega
  go_wp2_with fail
  refine (hebDate_told n _ _ _ _ _ HT.out).mono ?_
  rintro e w2 ⟨rfl, hb2⟩
  obtain ⟨hc2, hf2⟩ := belowSame hb2
  have hz2 : w1.heap.size ≤ w2.heap.size := hb2.size
  have hy2 : w.heap.size < w2.heap.size := by omega
  have hx2 : w.heap.size < w2.heap.size + 1 := by omega
  go_wp2_with fail
  refine (hebFrom_any _ _ _ _).mono ?_
  rw [HF.out.1, HF.out.2]
  rintro e w3 ⟨rfl, hb3⟩
  obtain ⟨hc3, hf3⟩ := belowSame hb3
  have hz3 : w2.heap.size < w3.heap.size := by have := hb3.size; simp at this; omega
  have hy3 : w.heap.size < w3.heap.size := by omega
  go_wp2_with fail
  refine (rIn_any _ _).mono ?_
  rw [HO.out]
  rintro e w' ⟨rfl, rfl⟩
  go_wp2_with fail
  refine (hebFrom_any _ _ _ _).mono ?_
  rw [HE.out]
  rintro e w4 ⟨rfl, hb4⟩
  obtain ⟨hc4, hf4⟩ := belowSame hb4
  have hz4 : w3.heap.size ≤ w4.heap.size := hb4.size
  have hy4 : w.heap.size < w4.heap.size := by omega
  go_wp2_with fail
  refine (hebDate_told _ _ _ _ _ _ HG.out).mono ?_
  rintro e w5 ⟨rfl, hb5⟩
  obtain ⟨hc5, hf5⟩ := belowSame hb5
  have hz5 : w4.heap.size ≤ w5.heap.size := hb5.size
  have hy5 : w.heap.size < w5.heap.size := by omega
  have hx5 : w.heap.size < w5.heap.size + 1 := by omega
  go_wp2_with fail
  go_ret
  exact ⟨by first | rfl | simp, (((((((Below.refl _ _).alloc (Nat.le_refl _) _).trans (hb1.mono (by simp))).trans (hb2.mono (by omega))).alloc (by omega) _).trans (hb3.mono (by simp; omega))).trans (hb4.mono (by omega))).trans (hb5.mono (by omega)) |>.alloc (by omega) _⟩

set_option maxHeartbeats 1000000 in
theorem hebrewBack_in_good (n y m d y' m' d' : Int) (w : World) (h1 : 1 ≤ n) (h2 : n ≤ 3652059) (h : Heb.Is n y' m' d') (he : Heb.dayE y m d = 0) (g1 : 1 ≤ Heb.dayN y m d) (g2 : Heb.dayN y m d ≤ 3652059) (g : Heb.Is (Heb.dayN y m d) y m d) :
    Calls Try.prog 18 #[.int .i64 n, .agg #[.int .i64 y, .int .i64 m, .int .i64 d]] w fun e w' => e = .returned (.bool true) ∧ Below w.heap.size w w' := by
  have HT := Lib.hid (show Heb.Told n y' m' d' 0 from Or.inl ⟨h1, h2, h, rfl⟩)
  have HF := Lib.hid (Heb.from_told h h1 h2)
  have HO := Lib.hid (isDay_yes h1 h2)
  clear h
  have HG := Lib.hid (show Heb.Told (Heb.dayN y m d) y m d 0 from Or.inl ⟨g1, g2, g, rfl⟩)
  have HE := Lib.hid he
  clear he g g1 g2
  go_enter Try.func18, Try.ntmps18
  go_wp2_with fail
  refine (hebAwake_any _).mono ?_
  rintro e w1 ⟨rfl, hb1⟩
  obtain ⟨hc1, hf1⟩ := belowSame hb1
  have hz1 : w.heap.size < w1.heap.size := by have := hb1.size; simp at this; omega
  go_wp2_with fail
  refine (hebDate_told n _ _ _ _ _ HT.out).mono ?_
  rintro e w2 ⟨rfl, hb2⟩
  obtain ⟨hc2, hf2⟩ := belowSame hb2
  have hz2 : w1.heap.size ≤ w2.heap.size := hb2.size
  have hy2 : w.heap.size < w2.heap.size := by omega
  have hx2 : w.heap.size < w2.heap.size + 1 := by omega
  go_wp2_with fail
  refine (hebFrom_any _ _ _ _).mono ?_
  rw [HF.out.1, HF.out.2]
  rintro e w3 ⟨rfl, hb3⟩
  obtain ⟨hc3, hf3⟩ := belowSame hb3
  have hz3 : w2.heap.size < w3.heap.size := by have := hb3.size; simp at this; omega
  have hy3 : w.heap.size < w3.heap.size := by omega
  go_wp2_with fail
  refine (rIn_any _ _).mono ?_
  rw [HO.out]
  rintro e w' ⟨rfl, rfl⟩
  go_wp2_with fail
  refine (hebFrom_any _ _ _ _).mono ?_
  rw [HE.out]
  rintro e w4 ⟨rfl, hb4⟩
  obtain ⟨hc4, hf4⟩ := belowSame hb4
  have hz4 : w3.heap.size ≤ w4.heap.size := hb4.size
  have hy4 : w.heap.size < w4.heap.size := by omega
  go_wp2_with fail
  refine (hebDate_told _ _ _ _ _ _ HG.out).mono ?_
  rintro e w5 ⟨rfl, hb5⟩
  obtain ⟨hc5, hf5⟩ := belowSame hb5
  have hz5 : w4.heap.size ≤ w5.heap.size := hb5.size
  have hy5 : w.heap.size < w5.heap.size := by omega
  have hx5 : w.heap.size < w5.heap.size + 1 := by omega
  go_wp2_with fail
  go_ret
  exact ⟨by first | rfl | simp, (((((((Below.refl _ _).alloc (Nat.le_refl _) _).trans (hb1.mono (by simp))).trans (hb2.mono (by omega))).alloc (by omega) _).trans (hb3.mono (by simp; omega))).trans (hb4.mono (by omega))).trans (hb5.mono (by omega)) |>.alloc (by omega) _⟩

set_option maxHeartbeats 1000000 in
theorem hebrewBack_out_bad (n y m d : Int) (w : World) (h : n < 1 ∨ 3652059 < n) (he : Heb.dayE y m d = 2) (hn : Heb.dayN y m d = 0) :
    Calls Try.prog 18 #[.int .i64 n, .agg #[.int .i64 y, .int .i64 m, .int .i64 d]] w fun e w' => e = .returned (.bool true) ∧ Below w.heap.size w w' := by
  have HT := Lib.hid (show Heb.Told n 0 0 0 2 from Or.inr ⟨h, rfl, rfl, rfl, rfl⟩)
  have HF := Lib.hid Heb.zero_told
  have HO := Lib.hid (isDay_no h)
  clear h
  have HG := Lib.hid (show Heb.Told (Heb.dayN y m d) 0 0 0 2 from Or.inr ⟨by omega, rfl, rfl, rfl, rfl⟩)
  have HE := Lib.hid he
  clear he hn
  go_enter Try.func18, Try.ntmps18
  go_wp2_with fail
  refine (hebAwake_any _).mono ?_
  rintro e w1 ⟨rfl, hb1⟩
  obtain ⟨hc1, hf1⟩ := belowSame hb1
  have hz1 : w.heap.size < w1.heap.size := by have := hb1.size; simp at this; omega
  go_wp2_with fail
  refine (hebDate_told n _ _ _ _ _ HT.out).mono ?_
  rintro e w2 ⟨rfl, hb2⟩
  obtain ⟨hc2, hf2⟩ := belowSame hb2
  have hz2 : w1.heap.size ≤ w2.heap.size := hb2.size
  have hy2 : w.heap.size < w2.heap.size := by omega
  have hx2 : w.heap.size < w2.heap.size + 1 := by omega
  go_wp2_with fail
  refine (hebFrom_any _ _ _ _).mono ?_
  rw [HF.out.1, HF.out.2]
  rintro e w3 ⟨rfl, hb3⟩
  obtain ⟨hc3, hf3⟩ := belowSame hb3
  have hz3 : w2.heap.size < w3.heap.size := by have := hb3.size; simp at this; omega
  have hy3 : w.heap.size < w3.heap.size := by omega
  go_wp2_with fail
  refine (rIn_any _ _).mono ?_
  rw [HO.out]
  rintro e w' ⟨rfl, rfl⟩
  go_wp2_with fail
  refine (hebFrom_any _ _ _ _).mono ?_
  rw [HE.out]
  rintro e w4 ⟨rfl, hb4⟩
  obtain ⟨hc4, hf4⟩ := belowSame hb4
  have hz4 : w3.heap.size ≤ w4.heap.size := hb4.size
  have hy4 : w.heap.size < w4.heap.size := by omega
  go_wp2_with fail
  refine (hebDate_told _ _ _ _ _ _ HG.out).mono ?_
  rintro e w5 ⟨rfl, hb5⟩
  obtain ⟨hc5, hf5⟩ := belowSame hb5
  have hz5 : w4.heap.size ≤ w5.heap.size := hb5.size
  have hy5 : w.heap.size < w5.heap.size := by omega
  have hx5 : w.heap.size < w5.heap.size + 1 := by omega
  go_wp2_with fail
  go_ret
  exact ⟨by first | rfl | simp, (((((((Below.refl _ _).alloc (Nat.le_refl _) _).trans (hb1.mono (by simp))).trans (hb2.mono (by omega))).alloc (by omega) _).trans (hb3.mono (by simp; omega))).trans (hb4.mono (by omega))).trans (hb5.mono (by omega)) |>.alloc (by omega) _⟩

set_option maxHeartbeats 1000000 in
theorem hebrewBack_out_good (n y m d : Int) (w : World) (h : n < 1 ∨ 3652059 < n) (he : Heb.dayE y m d = 0) (g1 : 1 ≤ Heb.dayN y m d) (g2 : Heb.dayN y m d ≤ 3652059) (g : Heb.Is (Heb.dayN y m d) y m d) :
    Calls Try.prog 18 #[.int .i64 n, .agg #[.int .i64 y, .int .i64 m, .int .i64 d]] w fun e w' => e = .returned (.bool true) ∧ Below w.heap.size w w' := by
  have HT := Lib.hid (show Heb.Told n 0 0 0 2 from Or.inr ⟨h, rfl, rfl, rfl, rfl⟩)
  have HF := Lib.hid Heb.zero_told
  have HO := Lib.hid (isDay_no h)
  clear h
  have HG := Lib.hid (show Heb.Told (Heb.dayN y m d) y m d 0 from Or.inl ⟨g1, g2, g, rfl⟩)
  have HE := Lib.hid he
  clear he g g1 g2
  go_enter Try.func18, Try.ntmps18
  go_wp2_with fail
  refine (hebAwake_any _).mono ?_
  rintro e w1 ⟨rfl, hb1⟩
  obtain ⟨hc1, hf1⟩ := belowSame hb1
  have hz1 : w.heap.size < w1.heap.size := by have := hb1.size; simp at this; omega
  go_wp2_with fail
  refine (hebDate_told n _ _ _ _ _ HT.out).mono ?_
  rintro e w2 ⟨rfl, hb2⟩
  obtain ⟨hc2, hf2⟩ := belowSame hb2
  have hz2 : w1.heap.size ≤ w2.heap.size := hb2.size
  have hy2 : w.heap.size < w2.heap.size := by omega
  have hx2 : w.heap.size < w2.heap.size + 1 := by omega
  go_wp2_with fail
  refine (hebFrom_any _ _ _ _).mono ?_
  rw [HF.out.1, HF.out.2]
  rintro e w3 ⟨rfl, hb3⟩
  obtain ⟨hc3, hf3⟩ := belowSame hb3
  have hz3 : w2.heap.size < w3.heap.size := by have := hb3.size; simp at this; omega
  have hy3 : w.heap.size < w3.heap.size := by omega
  go_wp2_with fail
  refine (rIn_any _ _).mono ?_
  rw [HO.out]
  rintro e w' ⟨rfl, rfl⟩
  go_wp2_with fail
  refine (hebFrom_any _ _ _ _).mono ?_
  rw [HE.out]
  rintro e w4 ⟨rfl, hb4⟩
  obtain ⟨hc4, hf4⟩ := belowSame hb4
  have hz4 : w3.heap.size ≤ w4.heap.size := hb4.size
  have hy4 : w.heap.size < w4.heap.size := by omega
  go_wp2_with fail
  refine (hebDate_told _ _ _ _ _ _ HG.out).mono ?_
  rintro e w5 ⟨rfl, hb5⟩
  obtain ⟨hc5, hf5⟩ := belowSame hb5
  have hz5 : w4.heap.size ≤ w5.heap.size := hb5.size
  have hy5 : w.heap.size < w5.heap.size := by omega
  have hx5 : w.heap.size < w5.heap.size + 1 := by omega
  go_wp2_with fail
  go_ret
  exact ⟨by first | rfl | simp, (((((((Below.refl _ _).alloc (Nat.le_refl _) _).trans (hb1.mono (by simp))).trans (hb2.mono (by omega))).alloc (by omega) _).trans (hb3.mono (by simp; omega))).trans (hb4.mono (by omega))).trans (hb5.mono (by omega)) |>.alloc (by omega) _⟩


theorem hebrewBack_walk (n y m d : Int) (w : World) :
    Calls Try.prog 18 #[.int .i64 n, .agg #[.int .i64 y, .int .i64 m, .int .i64 d]] w fun e w' => e = .returned (.bool true) ∧ Below w.heap.size w w' := by
  obtain ⟨y', m', d', r', h⟩ := Heb.told n
  rcases h with ⟨h1, h2, h, rfl⟩ | ⟨h, rfl, rfl, rfl, rfl⟩
  · rcases Heb.back_told y m d with ⟨he, hn⟩ | ⟨he, g1, g2, g⟩
    · exact hebrewBack_in_bad n y m d y' m' d' w h1 h2 h he hn
    · exact hebrewBack_in_good n y m d y' m' d' w h1 h2 h he g1 g2 g
  · rcases Heb.back_told y m d with ⟨he, hn⟩ | ⟨he, g1, g2, g⟩
    · exact hebrewBack_out_bad n y m d w h he hn
    · exact hebrewBack_out_good n y m d w h he g1 g2 g

set_option maxHeartbeats 400000 in
theorem hebrewNext_out (n : Int) (w : World) (h : n < 1 ∨ 3652059 ≤ n) :
    Calls Try.prog 17 #[.int .i64 n] w fun e w' => e = .returned (.bool true) ∧ Below w.heap.size w w' := by
  by_cases h1 : n < 1
  · clear h
    have g1 : decide (n < 1) = true := decide_eq_true h1
    go_enter Try.func17, Try.ntmps17
    go_wp2_with fail
    refine (hebAwake_any _).mono ?_
    rintro e w1 ⟨rfl, hb1⟩
    go_wp2_with fail
    refine (hebAwake_any _).mono ?_
    rintro e w2 ⟨rfl, hb2⟩
    go_wp2_with fail
    go_ret
    exact ⟨rfl, hb1.trans (hb2.mono hb1.size)⟩
  · have g1 : decide (n < 1) = false := decide_eq_false h1
    have h2 : 3652059 ≤ n := by omega
    clear h
    have g2 : decide (3652059 ≤ n) = true := decide_eq_true h2
    go_enter Try.func17, Try.ntmps17
    go_wp2_with fail
    refine (hebAwake_any _).mono ?_
    rintro e w1 ⟨rfl, hb1⟩
    go_wp2_with fail
    refine (hebAwake_any _).mono ?_
    rintro e w2 ⟨rfl, hb2⟩
    go_wp2_with fail
    go_ret
    exact ⟨rfl, hb1.trans (hb2.mono hb1.size)⟩

set_option maxHeartbeats 1000000 in
theorem hebrewNext_same (n y m d : Int) (w : World) (h1 : 1 ≤ n) (h2 : n < 3652059) (hA : Heb.Is n y m d) (hB : Heb.Is (n + 1) y m (d + 1)) :
    Calls Try.prog 17 #[.int .i64 n] w fun e w' => e = .returned (.bool true) ∧ Below w.heap.size w w' := by
  have g1 : decide (n < 1) = false := decide_eq_false (by omega)
  have g2 : decide (3652059 ≤ n) = false := decide_eq_false (by omega)
  have HA := Lib.hid (show Heb.Told n y m d 0 from Or.inl ⟨h1, by omega, hA, rfl⟩)
  have HB := Lib.hid (show Heb.Told (n + 1) y m (d + 1) 0 from Or.inl ⟨by omega, by omega, hB, rfl⟩)
  have hd1 := hA.d1
  have hd2 : d ≤ 400 := by have := hA.dm; have := Heb.len_in y m; omega
  clear hA hB
  go_enter Try.func17, Try.ntmps17
  go_wp2_with fail
  refine (hebAwake_any _).mono ?_
  rintro e w1 ⟨rfl, hb1⟩
  have hz1 := hb1.size
  go_wp2_with fail
  refine (hebDate_told _ _ _ _ _ _ HA.out).mono ?_
  rintro e w2 ⟨rfl, hb2⟩
  have hz2 := hb2.size
  go_wp2_with fail
  refine (hebDate_told _ _ _ _ _ _ HB.out).mono ?_
  rintro e w3 ⟨rfl, hb3⟩
  obtain ⟨hc3, hf3⟩ := belowSame hb3
  have hz3 : w2.heap.size < w3.heap.size := by have := hb3.size; simp at this; omega
  go_wp2_with fail
  go_quiet (fail)
  go_wp2
  go_ret
  exact ⟨by first | rfl | simp, drawnBelow ((((hb1.trans (hb2.mono hz1)).alloc (by omega) _).trans (hb3.mono (by simp; omega))).alloc (by omega) _) _⟩

set_option maxHeartbeats 1000000 in
theorem hebrewNext_turn_y (n y m d y' m' : Int) (w : World) (h1 : 1 ≤ n) (h2 : n < 3652059) (hA : Heb.Is n y m d) (hB : Heb.Is (n + 1) y' m' 1) (hne : y ≠ y') (hl : d = Heb.len y m) :
    Calls Try.prog 17 #[.int .i64 n] w fun e w' => e = .returned (.bool true) ∧ Below w.heap.size w w' := by
  have g1 : decide (n < 1) = false := decide_eq_false (by omega)
  have g2 : decide (3652059 ≤ n) = false := decide_eq_false (by omega)
  have HA := Lib.hid (show Heb.Told n y m d 0 from Or.inl ⟨h1, by omega, hA, rfl⟩)
  have HB := Lib.hid (show Heb.Told (n + 1) y' m' 1 0 from Or.inl ⟨by omega, by omega, hB, rfl⟩)
  have hd1 := hA.d1
  have hd2 : d ≤ 400 := by have := hA.dm; have := Heb.len_in y m; omega
  have hyr := hA.near h1 (by omega)
  have HL := Lib.hid hl.symm
  clear hl
  have e1 : (y == y') = false := beq_eq_false_iff_ne.mpr hne
  clear hne
  clear hA hB
  go_enter Try.func17, Try.ntmps17
  go_wp2_with fail
  refine (hebAwake_any _).mono ?_
  rintro e w1 ⟨rfl, hb1⟩
  have hz1 := hb1.size
  go_wp2_with fail
  refine (hebDate_told _ _ _ _ _ _ HA.out).mono ?_
  rintro e w2 ⟨rfl, hb2⟩
  have hz2 := hb2.size
  go_wp2_with fail
  refine (hebDate_told _ _ _ _ _ _ HB.out).mono ?_
  rintro e w3 ⟨rfl, hb3⟩
  obtain ⟨hc3, hf3⟩ := belowSame hb3
  have hz3 : w2.heap.size < w3.heap.size := by have := hb3.size; simp at this; omega
  go_wp2_with fail
  go_quiet ((go_at_call 23; exact stillFirst ((rLength3_any y m _ (by omega) (by omega)).mono (by rw [HL.out]; exact fun _ _ h => h))))
  go_wp2
  go_ret
  exact ⟨by first | rfl | simp, drawnBelow ((((hb1.trans (hb2.mono hz1)).alloc (by omega) _).trans (hb3.mono (by simp; omega))).alloc (by omega) _) _⟩

set_option maxHeartbeats 1000000 in
theorem hebrewNext_turn_m (n y m d y' m' : Int) (w : World) (h1 : 1 ≤ n) (h2 : n < 3652059) (hA : Heb.Is n y m d) (hB : Heb.Is (n + 1) y' m' 1) (hyy : y = y') (hne : m ≠ m') (hl : d = Heb.len y m) :
    Calls Try.prog 17 #[.int .i64 n] w fun e w' => e = .returned (.bool true) ∧ Below w.heap.size w w' := by
  have g1 : decide (n < 1) = false := decide_eq_false (by omega)
  have g2 : decide (3652059 ≤ n) = false := decide_eq_false (by omega)
  have HA := Lib.hid (show Heb.Told n y m d 0 from Or.inl ⟨h1, by omega, hA, rfl⟩)
  have HB := Lib.hid (show Heb.Told (n + 1) y' m' 1 0 from Or.inl ⟨by omega, by omega, hB, rfl⟩)
  have hd1 := hA.d1
  have hd2 : d ≤ 400 := by have := hA.dm; have := Heb.len_in y m; omega
  have hyr := hA.near h1 (by omega)
  have HL := Lib.hid hl.symm
  clear hl
  subst hyy
  have e1 : (m == m') = false := beq_eq_false_iff_ne.mpr hne
  clear hne
  clear hA hB
  go_enter Try.func17, Try.ntmps17
  go_wp2_with fail
  refine (hebAwake_any _).mono ?_
  rintro e w1 ⟨rfl, hb1⟩
  have hz1 := hb1.size
  go_wp2_with fail
  refine (hebDate_told _ _ _ _ _ _ HA.out).mono ?_
  rintro e w2 ⟨rfl, hb2⟩
  have hz2 := hb2.size
  go_wp2_with fail
  refine (hebDate_told _ _ _ _ _ _ HB.out).mono ?_
  rintro e w3 ⟨rfl, hb3⟩
  obtain ⟨hc3, hf3⟩ := belowSame hb3
  have hz3 : w2.heap.size < w3.heap.size := by have := hb3.size; simp at this; omega
  go_wp2_with fail
  go_quiet ((go_at_call 23; exact stillFirst ((rLength3_any y m _ (by omega) (by omega)).mono (by rw [HL.out]; exact fun _ _ h => h))))
  go_wp2
  go_ret
  exact ⟨by first | rfl | simp, drawnBelow ((((hb1.trans (hb2.mono hz1)).alloc (by omega) _).trans (hb3.mono (by simp; omega))).alloc (by omega) _) _⟩

theorem hebrewNext_turn (n y m d y' m' : Int) (w : World) (h1 : 1 ≤ n) (h2 : n < 3652059) (hA : Heb.Is n y m d) (hB : Heb.Is (n + 1) y' m' 1) (hne : ¬ (y = y' ∧ m = m')) (hl : d = Heb.len y m) :
    Calls Try.prog 17 #[.int .i64 n] w fun e w' => e = .returned (.bool true) ∧ Below w.heap.size w w' := by
  by_cases hy : y = y'
  · exact hebrewNext_turn_m n y m d y' m' w h1 h2 hA hB hy (fun hm => hne ⟨hy, hm⟩) hl
  · exact hebrewNext_turn_y n y m d y' m' w h1 h2 hA hB hy hl

theorem hebrewNext_walk (n : Int) (w : World) :
    Calls Try.prog 17 #[.int .i64 n] w fun e w' => e = .returned (.bool true) ∧ Below w.heap.size w w' := by
  by_cases h0 : 1 ≤ n ∧ n < 3652059
  · obtain ⟨y, m, d, hA⟩ := Heb.found n (by omega) (by omega)
    obtain ⟨y', m', d', hB⟩ := Heb.found (n + 1) (by omega) (by omega)
    rcases Heb.next_told hA hB with ⟨rfl, rfl, rfl⟩ | ⟨hne, rfl, hl⟩
    · exact hebrewNext_same n y m d w h0.1 h0.2 hA hB
    · exact hebrewNext_turn n y m d y' m' w h0.1 h0.2 hA hB hne hl
  · exact hebrewNext_out n w (by omega)

end Go.Proofs.Ytfkbibjbdibcjaa
