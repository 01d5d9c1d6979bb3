/- The walk of FromHebrew. -/
import Derived.Test.YtfkbibjbdibcjaaHebrewWalks2
namespace Go.Proofs.Ytfkbibjbdibcjaa
open Go.RowKit

theorem Heb.pos_lt {y k m : Int} (h1 : 1 ≤ k) (h2 : k ≤ Heb.last y) (h3 : 1 ≤ m) (h4 : m ≤ Heb.last y) (h : Heb.pos k ≤ Heb.pos m) (hne : k ≠ m) :
    k ≠ 6 ∧ Heb.pos (Heb.nxt y k) ≤ Heb.pos m ∧ Heb.pos k < Heb.pos (Heb.nxt y k) ∧ Heb.pos m ≤ 12 := by
  have hl := Heb.last_in y
  have hlt : Heb.pos k < Heb.pos m := by
    by_cases e : Heb.pos k = Heb.pos m
    · exact absurd (Heb.pos_inj h1 (by omega) h3 (by omega) e) hne
    · omega
  have hb := Heb.pos_between h1 h2 h3 h4 hlt
  exact ⟨hb.1, hb.2, Heb.pos_nxt h1 h2 hb.1, (Heb.pos_in h3 (by omega)).2⟩
theorem Heb.pos_7 {m : Int} (h1 : 1 ≤ m) : Heb.pos 7 ≤ Heb.pos m := by unfold Heb.pos; rw [if_pos (by omega)]; split <;> omega

set_option maxHeartbeats 2000000 in
theorem hebFrom_good (y m d : Int) (w : World) (h2 : 1 ≤ d) (h3 : d ≤ Heb.lenR y m) :
    Calls Try.prog 38 #[.agg #[.int .i64 y, .int .i64 m, .int .i64 d]] w fun e w' => e = .returned (.tuple #[.int .i64 (Heb.dayN y m d), .int .i64 (Heb.dayE y m d)]) ∧ Below w.heap.size w w' := by
  obtain ⟨hr, hm1, hml, he⟩ := Heb.lenR_pos (y := y) (m := m) (by omega)
  have hin := Heb.right_in hr
  have hhm := Heb.lenR_in y m
  have hf := Heb.fst_in (y := y) (by omega) (by omega)
  have hla := Heb.last_in y
  have hl1 : 12 ≤ Heb.last y := by omega
  have hl2 : Heb.last y ≤ 13 := by omega
  have HR := Lib.hid hr
  clear hr he hla
  have g2 : decide (d < 1) = false := decide_eq_false (by omega)
  have g3 : decide (Heb.lenR y m < d) = false := decide_eq_false (by omega)
  go_enter Try.func38, Try.ntmps38
  go_wp2
  go_quiet ((go_at_call 35; exact stillFirst (hebLength_any _ _ _)))
  go_wp2
  go_quiet ((go_at_call 58; exact stillLater (hebBegins_any _ _ (by omega) (by omega))))
  go_wp2
  rw [World.drewN_drewN]
  go_loop [4, 5] (fun n i => ∃ k : Int, 1 ≤ k ∧ k ≤ Heb.last y ∧ Heb.pos k ≤ Heb.pos m ∧ i = .int .i64 k ∧ n = .int .i64 (Heb.fst y + d - 1 + Heb.cum y k)) (fun _ i => (20 - Heb.pos (intOf i)).toNat)
  case atStart => exact ⟨7, by omega, by omega, Heb.pos_7 hm1, rfl, by rw [Heb.cum_7]; go_num⟩
  case round =>
    obtain ⟨k, hk1, hk2, hk3, rfl, rfl⟩ := hrel
    have hc := Heb.cum_small hk1 hk2
    have hk := Heb.hm_in y k
    by_cases hlt : k = m
    · subst hlt
      clear hk3
      by_cases hd : 1 ≤ Heb.fst y + d - 1 + Heb.cum y k ∧ Heb.fst y + d - 1 + Heb.cum y k ≤ 3652059
      · have HO := Lib.hid (isDay_yes hd.1 hd.2)
        have HB := Lib.hid (Heb.day_good h2 h3 hd.1 hd.2)
        clear hd
        go_wp2_with (go_at_call 42; refine (of_any _ _).mono ?_; rw [HO.out]; rintro e w' ⟨rfl, rfl⟩)
        go_ret2
        exact ⟨ret_two HB.out.1 HB.out.2, drawnBelow ((Below.refl _ _).alloc (Nat.le_refl _) _) _⟩
      · have HO := Lib.hid (isDay_no (n := Heb.fst y + d - 1 + Heb.cum y k) (by omega))
        have HB := Lib.hid (Heb.day_bad (y := y) (m := k) (d := d) (by unfold Heb.bad Heb.day; omega))
        clear hd
        go_wp2_with (go_at_call 42; refine (of_any _ _).mono ?_; rw [HO.out]; rintro e w' ⟨rfl, rfl⟩)
        go_ret2
        exact ⟨ret_two HB.out.1 HB.out.2, drawnBelow ((Below.refl _ _).alloc (Nat.le_refl _) _) _⟩
    · have HP := Lib.hid (Heb.pos_lt hk1 hk2 hm1 hml hk3 hlt)
      have HC := Lib.hid (Heb.cum_next hk1 hk2 HP.out.1)
      have HI := Lib.hid (Heb.nxt_in hk1 hk2)
      have g : (k != m) = true := bne_iff_ne.mpr hlt
      clear hlt hk3
      go_wp2_with (first | (go_at_call 35; refine (hebLength_hm _ _ _ HR.out (by omega) (by omega)).mono ?_; rintro e w' ⟨rfl, rfl⟩) | (go_at_call 70; refine (hebNext_any _ _ _ (by omega) (by omega) (by omega) (by omega)).mono ?_; rintro e w' ⟨rfl, rfl⟩))
      go_round
      case rel => exact ⟨_, HI.out.1, HI.out.2, HP.out.2.1, rfl, by rw [HC.out]; go_num⟩
      case measure => have := HP.out; simp [intOf]; omega

set_option maxHeartbeats 1000000 in
theorem hebFrom_early (y m d : Int) (w : World) (h : d < 1) :
    Calls Try.prog 38 #[.agg #[.int .i64 y, .int .i64 m, .int .i64 d]] w fun e w' => e = .returned (.tuple #[.int .i64 (Heb.dayN y m d), .int .i64 (Heb.dayE y m d)]) ∧ Below w.heap.size w w' := by
  have HB := Lib.hid (Heb.day_bad (y := y) (m := m) (d := d) (Or.inl h))
  have g2 : decide (d < 1) = true := decide_eq_true (by omega)
  go_enter Try.func38, Try.ntmps38
  go_wp2
  go_quiet (fail)
  go_wp2
  go_ret2
  exact ⟨ret_two HB.out.1 HB.out.2, drawnBelow ((Below.refl _ _).alloc (Nat.le_refl _) _) _⟩

set_option maxHeartbeats 1000000 in
theorem hebFrom_long (y m d : Int) (w : World) (h2 : 1 ≤ d) (h3 : Heb.lenR y m < d) :
    Calls Try.prog 38 #[.agg #[.int .i64 y, .int .i64 m, .int .i64 d]] w fun e w' => e = .returned (.tuple #[.int .i64 (Heb.dayN y m d), .int .i64 (Heb.dayE y m d)]) ∧ Below w.heap.size w w' := by
  have HB := Lib.hid (Heb.day_bad (y := y) (m := m) (d := d) (Or.inr (Or.inl h3)))
  have g2 : decide (d < 1) = false := decide_eq_false (by omega)
  have g3 : decide (Heb.lenR y m < d) = true := decide_eq_true h3
  go_enter Try.func38, Try.ntmps38
  go_wp2
  go_quiet ((go_at_call 35; exact stillFirst (hebLength_any _ _ _)))
  go_wp2
  go_ret2
  exact ⟨ret_two HB.out.1 HB.out.2, drawnBelow ((Below.refl _ _).alloc (Nat.le_refl _) _) _⟩

theorem hebFrom_any (y m d : Int) (w : World) :
    Calls Try.prog 38 #[.agg #[.int .i64 y, .int .i64 m, .int .i64 d]] w fun e w' => e = .returned (.tuple #[.int .i64 (Heb.dayN y m d), .int .i64 (Heb.dayE y m d)]) ∧ Below w.heap.size w w' := by
  by_cases c : d < 1
  · exact hebFrom_early y m d w c
  · by_cases h3 : d ≤ Heb.lenR y m
    · exact hebFrom_good y m d w (by omega) h3
    · exact hebFrom_long y m d w (by omega) (by omega)

end Go.Proofs.Ytfkbibjbdibcjaa
