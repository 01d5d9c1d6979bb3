/- The walks of the reference's hebrewDate, and of its Date at calendar 3: a search for the year, then for the month. -/
import Derived.Test.YtfkbibjbdibcjaaHebrewRef
namespace Go.Proofs.Ytfkbibjbdibcjaa
open Go.RowKit

theorem Heb.Is.miss {n y m d k : Int} (h : Heb.Is n y m d) (h1 : 1 ≤ k) (h2 : k ≤ Heb.last y) (h3 : k ≠ m) (h4 : 0 ≤ n - Heb.day y k 1) : Heb.hm y k ≤ n - Heb.day y k 1 := by
  by_cases g : n - Heb.day y k 1 < Heb.hm y k
  · have he := h.eq; have := h.d1; have := h.dh
    unfold Heb.day at g h4
    exact absurd (Heb.month_of (y := y) (n := n - Heb.fst y) h1 h2 h.m1 h.ml (by omega) (by omega) (by omega) (by omega)) h3
  · omega
theorem Heb.Is.hit {n y m d : Int} (h : Heb.Is n y m d) : 0 ≤ n - Heb.day y m 1 ∧ n - Heb.day y m 1 < Heb.hm y m ∧ n - Heb.day y m 1 + 1 = d := by
  have := h.eq; have := h.d1; have := h.dh
  unfold Heb.day; omega
theorem Heb.day_in {y k : Int} (h0 : 0 ≤ y) (h1 : y ≤ 20001) (h2 : 1 ≤ k) (h3 : k ≤ Heb.last y) : -1400000 ≤ Heb.day y k 1 ∧ Heb.day y k 1 ≤ 7000500 := by
  have := Heb.fst_in (y := y) (by omega) (by omega)
  have := Heb.cum_small h2 h3
  unfold Heb.day; omega

set_option maxHeartbeats 2000000 in
theorem rHebDate_any (n y m d : Int) (w : World) (h1 : 1 ≤ n) (h2 : n ≤ 3652059) (h : Heb.Is n y m d) :
    Calls Try.prog 51 #[.int .i64 y, .int .i64 n] w fun e w' => e = .returned (.agg #[.int .i64 y, .int .i64 m, .int .i64 d]) ∧ Below w.heap.size w w' := by
  have HI := Lib.hid h
  have hy := h.near h1 h2
  have hm1 := h.m1
  have hml := h.ml
  have hl : Heb.last y ≤ 13 := by have := Heb.last_in y; omega
  clear h
  go_enter Try.func51, Try.ntmps51
  go_wp2_with fail
  go_loop [5] (fun p => ∃ k : Int, 1 ≤ k ∧ k ≤ m ∧ p = .int .i64 k) (fun p => (20 - intOf p).toNat)
  case atStart => exact ⟨1, by omega, hm1, rfl⟩
  case round =>
    obtain ⟨k, hk1, hk2, rfl⟩ := hrel
    have hd := Heb.day_in (y := y) (k := k) (by omega) (by omega) hk1 (by omega)
    have hh := Heb.hm_in y k
    by_cases hlt : k < m
    · by_cases h0 : 0 ≤ n - Heb.day y k 1
      · have hmiss := HI.out.miss hk1 (by omega) (by omega) h0
        go_wp2_with (first | (go_at_call 37; refine (rMonths3_any _ _ (by omega) (by omega)).mono ?_; rintro e w' ⟨rfl, rfl⟩) | (go_at_call 65; refine (rHebrew_any _ _ _ _ (by omega) (by omega) (by omega) (by omega) (by omega) (by omega)).mono ?_; rintro e w' ⟨rfl, rfl⟩) | (go_at_call 45; refine (rHebMonth_any _ _ _ (by omega) (by omega) (by omega) (by omega)).mono ?_; rintro e w' ⟨rfl, rfl⟩))
        go_round
        case rel => exact ⟨k + 1, by omega, by omega, by go_num⟩
        case measure => simp [intOf]; omega
      · go_wp2_with (first | (go_at_call 37; refine (rMonths3_any _ _ (by omega) (by omega)).mono ?_; rintro e w' ⟨rfl, rfl⟩) | (go_at_call 65; refine (rHebrew_any _ _ _ _ (by omega) (by omega) (by omega) (by omega) (by omega) (by omega)).mono ?_; rintro e w' ⟨rfl, rfl⟩) | (go_at_call 45; refine (rHebMonth_any _ _ _ (by omega) (by omega) (by omega) (by omega)).mono ?_; rintro e w' ⟨rfl, rfl⟩))
        go_round
        case rel => exact ⟨k + 1, by omega, by omega, by go_num⟩
        case measure => simp [intOf]; omega
    · obtain rfl : k = m := by omega
      have hh0 := HI.out.hit.1
      have hh1 := HI.out.hit.2.1
      have HD := Lib.hid HI.out.hit.2.2
      clear hlt
      go_wp2_with (first | (go_at_call 37; refine (rMonths3_any _ _ (by omega) (by omega)).mono ?_; rintro e w' ⟨rfl, rfl⟩) | (go_at_call 65; refine (rHebrew_any _ _ _ _ (by omega) (by omega) (by omega) (by omega) (by omega) (by omega)).mono ?_; rintro e w' ⟨rfl, rfl⟩) | (go_at_call 45; refine (rHebMonth_any _ _ _ (by omega) (by omega) (by omega) (by omega)).mono ?_; rintro e w' ⟨rfl, rfl⟩))
      rw [HD.out]
      exact bodyPost_ret (v := .agg #[.int .i64 y, .int .i64 k, .int .i64 d]) (by simp [results, Try.results51, go_sem]) rfl ⟨rfl, (Below.refl _ _).alloc (Nat.le_refl _) _⟩

set_option maxHeartbeats 400000 in
theorem rDate3_out (n : Int) (w : World) (h : n < 1 ∨ 3652059 < n) :
    Calls Try.prog 25 #[.int .i64 3, .int .i64 n] w fun e w' => e = .returned (.tuple #[.agg #[.int .i64 0, .int .i64 0, .int .i64 0], .int .i64 2]) ∧ Below w.heap.size w w' := by
  have HO := Lib.hid (isDay_no h)
  clear h
  go_enter Try.func25, Try.ntmps25
  go_wp2_with (go_at_call 26; refine (rIn_any _ _).mono ?_; rw [HO.out]; rintro e w' ⟨rfl, rfl⟩)
  exact bodyPost_ret (v := .tuple #[.agg #[.int .i64 0, .int .i64 0, .int .i64 0], .int .i64 2]) (by simp [results, Try.results25, go_sem]) rfl ⟨rfl, (Below.refl _ _).alloc (Nat.le_refl _) _⟩

theorem Heb.half_in {a b : Int} (h : a + 1 < b) : a < (a + b) / 2 ∧ (a + b) / 2 < b := by omega

set_option maxHeartbeats 4000000 in
theorem rDate3_in (n y m d : Int) (w : World) (h1 : 1 ≤ n) (h2 : n ≤ 3652059) (h : Heb.Is n y m d) :
    Calls Try.prog 25 #[.int .i64 3, .int .i64 n] w fun e w' => e = .returned (.tuple #[.agg #[.int .i64 y, .int .i64 m, .int .i64 d], .int .i64 0]) ∧ Below w.heap.size w w' := by
  have HO := Lib.hid (isDay_yes h1 h2)
  have HS := Lib.hid (Heb.span n h1 h2)
  have HI := Lib.hid h
  have hy := h.near h1 h2
  clear h
  go_enter Try.func25, Try.ntmps25
  go_wp2_with (first | (go_at_call 26; refine (rIn_any _ _).mono ?_; rw [HO.out]; rintro e w' ⟨rfl, rfl⟩) | (go_at_call 49; refine (rLeast3_any _).mono ?_; rintro e w' ⟨rfl, rfl⟩))
  go_loop [6, 7] (fun p q => ∃ a b : Int, 3000 ≤ a ∧ b ≤ 15000 ∧ a < b ∧ Heb.fst a ≤ n ∧ n < Heb.fst b ∧ p = .int .i64 a ∧ q = .int .i64 b) (fun p q => (intOf q - intOf p).toNat)
  case atStart => exact ⟨3000, 15000, by omega, by omega, by omega, HS.out.1, HS.out.2, rfl, rfl⟩
  case round =>
    obtain ⟨a, b, ha, hb, hab, hfa, hfb, rfl, rfl⟩ := hrel
    by_cases hlt : a + 1 < b
    · have hm := Heb.half_in hlt
      by_cases hle : Heb.fst ((a + b) / 2) ≤ n
      all_goals
        go_wp2_with (first | (go_at_call 47; refine (rNext3_any _ _ (by omega) (by omega)).mono ?_; rintro e w' ⟨rfl, rfl⟩) | (go_at_call 50; refine (rfloor_any _ _ _ (by omega) (by omega) (by omega) (by omega)).mono ?_; rintro e w' ⟨rfl, rfl⟩) | (go_at_call 46; refine (rBegins3_any _ _ (by omega) (by omega)).mono ?_; rintro e w' ⟨rfl, rfl⟩))
        go_round
        case rel => first | exact ⟨_, _, by omega, by omega, by omega, hle, hfb, rfl, rfl⟩ | exact ⟨_, _, by omega, by omega, by omega, hfa, by omega, rfl, rfl⟩
        case measure => simp [intOf]; omega
    · have hbb : b = a + 1 := by omega
      subst hbb
      have HY := Lib.hid (Heb.year_of hfa hfb HI.out.from_y HI.out.to_y)
      clear hfa hfb hlt hab
      go_wp2_with (first | (go_at_call 47; refine (rNext3_any _ _ (by omega) (by omega)).mono ?_; rintro e w' ⟨rfl, rfl⟩))
      refine (rHebDate_any n a m d _ h1 h2 (by have q := HI.out; rw [← HY.out] at q; exact q)).mono ?_
      rintro e w1 ⟨rfl, hb1⟩
      obtain ⟨hc1, hf1⟩ := belowSame hb1
      have hz1 : w.heap.size < w1.heap.size := by have := hb1.size; simp at this; omega
      go_wp2_with fail
      have hay := HY.out
      subst hay
      exact bodyPost_ret (v := .tuple #[.agg #[.int .i64 a, .int .i64 m, .int .i64 d], .int .i64 0]) (by simp [results, Try.results25, go_sem, hc1]) rfl ⟨rfl, (((((Below.refl _ _).alloc (Nat.le_refl _) _).trans (hb1.mono (by simp))).setCell (Nat.le_refl _) _).setCell (Nat.le_refl _) _).setCell (Nat.le_refl _) _⟩
end Go.Proofs.Ytfkbibjbdibcjaa
