/- The walk of FromIslamic. -/
import Derived.Test.YtfkbibjbdibcjaaIslamWalks
namespace Go.Proofs.Ytfkbibjbdibcjaa
open Go.RowKit

set_option maxHeartbeats 4000000 in
theorem islFrom_good (y m d : Int) (w : World) (h0 : -10000 ≤ y) (h1 : y ≤ 20000) (h2 : 1 ≤ d) (h3 : d ≤ Isl.len y m) :
    Calls Try.prog 20 #[.agg #[.int .i64 y, .int .i64 m, .int .i64 d]] w fun e w' => e = .returned (.tuple #[.int .i64 (Isl.dayN y m d), .int .i64 (Isl.dayE y m d)]) ∧ Below w.heap.size w w' := by
  have hm := Isl.len_pos (y := y) (m := m) (by omega)
  have hl := Isl.len_in y m
  have hf := Isl.fst_in (y := y) (by omega) (by omega)
  go_enter Try.func20, Try.ntmps20
  go_wp2
  go_quiet ((go_at_call 40; exact stillFirst (islLength_any _ _ _ (by omega) (by omega))))
  go_wp2
  go_quiet ((go_at_call 41; exact stillLater (islFirst_any _ _ (by omega) (by omega))))
  go_wp2
  rw [World.drewN_drewN]
  go_loop [4, 5] (fun n i => ∃ k : Int, 1 ≤ k ∧ k ≤ m ∧ i = .int .i64 k ∧ n = .int .i64 (Isl.fst y + d - 1 + Isl.cum k)) (fun _ i => (m - intOf i).toNat)
  case atStart => exact ⟨1, by omega, by omega, rfl, by rw [Isl.cum_one]; go_num⟩
  case round =>
    obtain ⟨k, hk1, hk2, rfl, rfl⟩ := hrel
    have hc := Isl.cum_in hk1 (by omega : k ≤ 13)
    have hk := Isl.len_in y k
    by_cases hlt : k < m
    · have HN := Lib.hid (Isl.cum_next (y := y) hk1 (by omega : k ≤ 11))
      go_wp2_with (go_at_call 40; refine (islLength_any _ _ _ (by omega) (by omega)).mono ?_; rintro e w' ⟨rfl, rfl⟩)
      go_round
      case rel => exact ⟨k + 1, by omega, by omega, by go_num, by rw [HN.out]; go_num⟩
      case measure => simp [intOf]; omega
    · obtain rfl : k = m := by omega
      by_cases hd : 1 ≤ Isl.fst y + d - 1 + Isl.cum k ∧ Isl.fst y + d - 1 + Isl.cum k ≤ 3652059
      · have HO := Lib.hid (isDay_yes hd.1 hd.2)
        have HB := Lib.hid (Isl.day_good h0 h1 h2 h3 hd.1 hd.2)
        clear hd
        go_wp2_with (go_at_call 42; refine (of_any _ _).mono ?_; rw [HO.out]; rintro e w' ⟨rfl, rfl⟩)
        go_ret2
        exact ⟨ret_two HB.out.1 HB.out.2, drawnBelow ((Below.refl _ _).alloc (Nat.le_refl _) _) _⟩
      · have HO := Lib.hid (isDay_no (n := Isl.fst y + d - 1 + Isl.cum k) (by omega))
        have HB := Lib.hid (Isl.day_bad (y := y) (m := k) (d := d) (by unfold Isl.bad Isl.day; omega))
        clear hd
        go_wp2_with (go_at_call 42; refine (of_any _ _).mono ?_; rw [HO.out]; rintro e w' ⟨rfl, rfl⟩)
        go_ret2
        exact ⟨ret_two HB.out.1 HB.out.2, drawnBelow ((Below.refl _ _).alloc (Nat.le_refl _) _) _⟩

set_option maxHeartbeats 400000 in
theorem islFrom_long (y m d : Int) (w : World) (h0 : -10000 ≤ y) (h1 : y ≤ 20000) (h2 : 1 ≤ d) (h3 : Isl.len y m < d) :
    Calls Try.prog 20 #[.agg #[.int .i64 y, .int .i64 m, .int .i64 d]] w fun e w' => e = .returned (.tuple #[.int .i64 (Isl.dayN y m d), .int .i64 (Isl.dayE y m d)]) ∧ Below w.heap.size w w' := by
  have HB := Lib.hid (Isl.day_bad (y := y) (m := m) (d := d) (by unfold Isl.bad; omega))
  have g0 : decide (y < -10000) = false := decide_eq_false (by omega)
  have g1 : decide (20000 < y) = false := decide_eq_false (by omega)
  have g2 : decide (d < 1) = false := decide_eq_false (by omega)
  have g3 : decide (Isl.len y m < d) = true := decide_eq_true h3
  go_enter Try.func20, Try.ntmps20
  go_wp2
  go_quiet ((go_at_call 40; exact stillFirst (islLength_any _ _ _ (by omega) (by omega))))
  go_wp2
  go_ret2
  exact ⟨ret_two HB.out.1 HB.out.2, drawnBelow ((Below.refl _ _).alloc (Nat.le_refl _) _) _⟩

set_option maxHeartbeats 400000 in
theorem islFrom_low (y m d : Int) (w : World) (h : y < -10000) :
    Calls Try.prog 20 #[.agg #[.int .i64 y, .int .i64 m, .int .i64 d]] w fun e w' => e = .returned (.tuple #[.int .i64 (Isl.dayN y m d), .int .i64 (Isl.dayE y m d)]) ∧ Below w.heap.size w w' := by
  have HB := Lib.hid (Isl.day_bad (y := y) (m := m) (d := d) (by unfold Isl.bad; omega))
  have g0 : decide (y < -10000) = true := decide_eq_true h
  go_enter Try.func20, Try.ntmps20
  go_wp2
  go_quiet (fail)
  go_wp2
  go_ret2
  exact ⟨ret_two HB.out.1 HB.out.2, drawnBelow ((Below.refl _ _).alloc (Nat.le_refl _) _) _⟩

set_option maxHeartbeats 400000 in
theorem islFrom_high (y m d : Int) (w : World) (h : 20000 < y) :
    Calls Try.prog 20 #[.agg #[.int .i64 y, .int .i64 m, .int .i64 d]] w fun e w' => e = .returned (.tuple #[.int .i64 (Isl.dayN y m d), .int .i64 (Isl.dayE y m d)]) ∧ Below w.heap.size w w' := by
  have HB := Lib.hid (Isl.day_bad (y := y) (m := m) (d := d) (by unfold Isl.bad; omega))
  have g0 : decide (y < -10000) = false := decide_eq_false (by omega)
  have g1 : decide (20000 < y) = true := decide_eq_true h
  go_enter Try.func20, Try.ntmps20
  go_wp2
  go_quiet (fail)
  go_wp2
  go_ret2
  exact ⟨ret_two HB.out.1 HB.out.2, drawnBelow ((Below.refl _ _).alloc (Nat.le_refl _) _) _⟩

set_option maxHeartbeats 400000 in
theorem islFrom_early (y m d : Int) (w : World) (h0 : -10000 ≤ y) (h1 : y ≤ 20000) (h : d < 1) :
    Calls Try.prog 20 #[.agg #[.int .i64 y, .int .i64 m, .int .i64 d]] w fun e w' => e = .returned (.tuple #[.int .i64 (Isl.dayN y m d), .int .i64 (Isl.dayE y m d)]) ∧ Below w.heap.size w w' := by
  have HB := Lib.hid (Isl.day_bad (y := y) (m := m) (d := d) (by unfold Isl.bad; omega))
  have g0 : decide (y < -10000) = false := decide_eq_false (by omega)
  have g1 : decide (20000 < y) = false := decide_eq_false (by omega)
  have g2 : decide (d < 1) = true := decide_eq_true h
  go_enter Try.func20, Try.ntmps20
  go_wp2
  go_quiet (fail)
  go_wp2
  go_ret2
  exact ⟨ret_two HB.out.1 HB.out.2, drawnBelow ((Below.refl _ _).alloc (Nat.le_refl _) _) _⟩

theorem islFrom_any (y m d : Int) (w : World) :
    Calls Try.prog 20 #[.agg #[.int .i64 y, .int .i64 m, .int .i64 d]] w fun e w' => e = .returned (.tuple #[.int .i64 (Isl.dayN y m d), .int .i64 (Isl.dayE y m d)]) ∧ Below w.heap.size w w' := by
  by_cases a : y < -10000
  · exact islFrom_low y m d w a
  · by_cases b : 20000 < y
    · exact islFrom_high y m d w b
    · by_cases c : d < 1
      · exact islFrom_early y m d w (by omega) (by omega) c
      · by_cases h3 : d ≤ Isl.len y m
        · exact islFrom_good y m d w (by omega) (by omega) (by omega) h3
        · exact islFrom_long y m d w (by omega) (by omega) (by omega) (by omega)

end Go.Proofs.Ytfkbibjbdibcjaa
