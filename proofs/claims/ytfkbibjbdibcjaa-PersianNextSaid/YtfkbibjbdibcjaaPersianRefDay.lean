/- The walk of the reference's Day at calendar 5. -/
import Derived.Test.YtfkbibjbdibcjaaPersianRef
namespace Go.Proofs.Ytfkbibjbdibcjaa
open Go.RowKit

set_option maxHeartbeats 1000000 in
theorem rDay5_low (y m d : Int) (w : World) (h : y < -10000) :
    Calls Try.prog 21 #[.int .i64 5, .agg #[.int .i64 y, .int .i64 m, .int .i64 d]] w fun e w' => e = .returned (.tuple #[.int .i64 (Pers.dayN y m d), .int .i64 (Pers.dayE y m d)]) ∧ Below w.heap.size w w' := by
  have HB := Lib.hid (Pers.day_bad (y := y) (m := m) (d := d) (Or.inl (Pers.right_no (by omega))))
  have g0 : decide (y < -10000) = true := decide_eq_true (by omega)
  go_enter Try.func21, Try.ntmps21
  go_wp2_with (go_at_call 43; refine (rYears5_any _).mono ?_; rintro e w' ⟨rfl, rfl⟩)
  go_quiet (fail)
  go_wp2
  go_ret2
  exact ⟨ret_two HB.out.1 HB.out.2, drawnBelow ((Below.refl _ _).alloc (Nat.le_refl _) _) _⟩

set_option maxHeartbeats 1000000 in
theorem rDay5_high (y m d : Int) (w : World) (h : 20000 < y) :
    Calls Try.prog 21 #[.int .i64 5, .agg #[.int .i64 y, .int .i64 m, .int .i64 d]] w fun e w' => e = .returned (.tuple #[.int .i64 (Pers.dayN y m d), .int .i64 (Pers.dayE y m d)]) ∧ Below w.heap.size w w' := by
  have HB := Lib.hid (Pers.day_bad (y := y) (m := m) (d := d) (Or.inl (Pers.right_no (by omega))))
  have g0 : decide (y < -10000) = false := decide_eq_false (by omega)
  have g1 : decide (20000 < y) = true := decide_eq_true (by omega)
  go_enter Try.func21, Try.ntmps21
  go_wp2_with (go_at_call 43; refine (rYears5_any _).mono ?_; rintro e w' ⟨rfl, rfl⟩)
  go_quiet (fail)
  go_wp2
  go_ret2
  exact ⟨ret_two HB.out.1 HB.out.2, drawnBelow ((Below.refl _ _).alloc (Nat.le_refl _) _) _⟩

set_option maxHeartbeats 1000000 in
theorem rDay5_zero (y m d : Int) (w : World) (h : y = 0) :
    Calls Try.prog 21 #[.int .i64 5, .agg #[.int .i64 y, .int .i64 m, .int .i64 d]] w fun e w' => e = .returned (.tuple #[.int .i64 (Pers.dayN y m d), .int .i64 (Pers.dayE y m d)]) ∧ Below w.heap.size w w' := by
  have HB := Lib.hid (Pers.day_bad (y := y) (m := m) (d := d) (Or.inl (Pers.right_no (by omega))))
  subst h
  go_enter Try.func21, Try.ntmps21
  go_wp2_with (go_at_call 43; refine (rYears5_any _).mono ?_; rintro e w' ⟨rfl, rfl⟩)
  go_quiet (fail)
  go_wp2
  go_ret2
  exact ⟨ret_two HB.out.1 HB.out.2, drawnBelow ((Below.refl _ _).alloc (Nat.le_refl _) _) _⟩

set_option maxHeartbeats 1000000 in
theorem rDay5_early (y m d : Int) (w : World) (h0 : -10000 ≤ y) (h1 : y ≤ 20000) (hz : y ≠ 0) (h : d < 1) :
    Calls Try.prog 21 #[.int .i64 5, .agg #[.int .i64 y, .int .i64 m, .int .i64 d]] w fun e w' => e = .returned (.tuple #[.int .i64 (Pers.dayN y m d), .int .i64 (Pers.dayE y m d)]) ∧ Below w.heap.size w w' := by
  have HB := Lib.hid (Pers.day_bad (y := y) (m := m) (d := d) (Or.inr (Or.inl h)))
  have gz : (y == 0) = false := beq_eq_false_iff_ne.mpr hz
  clear hz
  have g0 : decide (y < -10000) = false := decide_eq_false (by omega)
  have g1 : decide (20000 < y) = false := decide_eq_false (by omega)
  have g2 : decide (d < 1) = true := decide_eq_true (by omega)
  go_enter Try.func21, Try.ntmps21
  go_wp2_with (go_at_call 43; refine (rYears5_any _).mono ?_; rintro e w' ⟨rfl, rfl⟩)
  go_quiet (fail)
  go_wp2
  go_ret2
  exact ⟨ret_two HB.out.1 HB.out.2, drawnBelow ((Below.refl _ _).alloc (Nat.le_refl _) _) _⟩

set_option maxHeartbeats 1000000 in
theorem rDay5_long (y m d : Int) (w : World) (h0 : -10000 ≤ y) (h1 : y ≤ 20000) (hz : y ≠ 0) (h2 : 1 ≤ d) (h3 : Pers.len y m < d) :
    Calls Try.prog 21 #[.int .i64 5, .agg #[.int .i64 y, .int .i64 m, .int .i64 d]] w fun e w' => e = .returned (.tuple #[.int .i64 (Pers.dayN y m d), .int .i64 (Pers.dayE y m d)]) ∧ Below w.heap.size w w' := by
  have HB := Lib.hid (Pers.day_bad (y := y) (m := m) (d := d) (Or.inr (Or.inr (Or.inl h3))))
  have gz : (y == 0) = false := beq_eq_false_iff_ne.mpr hz
  clear hz
  have g0 : decide (y < -10000) = false := decide_eq_false (by omega)
  have g1 : decide (20000 < y) = false := decide_eq_false (by omega)
  have g2 : decide (d < 1) = false := decide_eq_false (by omega)
  have g3 : decide (Pers.len y m < d) = true := decide_eq_true (by omega)
  go_enter Try.func21, Try.ntmps21
  go_wp2_with (go_at_call 43; refine (rYears5_any _).mono ?_; rintro e w' ⟨rfl, rfl⟩)
  go_quiet ((go_at_call 23; exact stillFirst (rLength5_any _ _ _ (by omega) (by omega))))
  go_wp2
  go_ret2
  exact ⟨ret_two HB.out.1 HB.out.2, drawnBelow ((Below.refl _ _).alloc (Nat.le_refl _) _) _⟩

set_option maxHeartbeats 1000000 in
theorem rDay5_good (y m d : Int) (w : World) (h0 : -10000 ≤ y) (h1 : y ≤ 20000) (hz : y ≠ 0) (h2 : 1 ≤ d) (h3 : d ≤ Pers.len y m) (h4 : 1 ≤ Pers.day y m d) (h5 : Pers.day y m d ≤ 3652059) :
    Calls Try.prog 21 #[.int .i64 5, .agg #[.int .i64 y, .int .i64 m, .int .i64 d]] w fun e w' => e = .returned (.tuple #[.int .i64 (Pers.dayN y m d), .int .i64 (Pers.dayE y m d)]) ∧ Below w.heap.size w w' := by
  have HO := Lib.hid (isDay_yes h4 h5)
  have HB := Lib.hid (Pers.day_fine (Pers.right_yes h0 h1 hz) h2 h3 h4 h5)
  have gz : (y == 0) = false := beq_eq_false_iff_ne.mpr hz
  clear hz
  have g0 : decide (y < -10000) = false := decide_eq_false (by omega)
  have g1 : decide (20000 < y) = false := decide_eq_false (by omega)
  have g2 : decide (d < 1) = false := decide_eq_false (by omega)
  have g3 : decide (Pers.len y m < d) = false := decide_eq_false (by omega)
  have hm := Pers.len_pos (y := y) (m := m) (by omega)
  have hl := Pers.len_in y m
  go_enter Try.func21, Try.ntmps21
  go_wp2_with (go_at_call 43; refine (rYears5_any _).mono ?_; rintro e w' ⟨rfl, rfl⟩)
  go_quiet ((go_at_call 23; exact stillFirst (rLength5_any _ _ _ (by omega) (by omega))))
  go_wp2_with (first | (go_at_call 36; refine (rFixed5_any _ _ _ _ (by omega) (by omega) (by omega) (by omega) (by omega) (by omega)).mono ?_; rintro e w' ⟨rfl, rfl⟩) | (go_at_call 26; refine (rIn_any _ _).mono ?_; rw [HO.out]; rintro e w' ⟨rfl, rfl⟩))
  go_ret2
  exact ⟨ret_two HB.out.1 HB.out.2, drawnBelow ((Below.refl _ _).alloc (Nat.le_refl _) _) _⟩

set_option maxHeartbeats 1000000 in
theorem rDay5_off (y m d : Int) (w : World) (h0 : -10000 ≤ y) (h1 : y ≤ 20000) (hz : y ≠ 0) (h2 : 1 ≤ d) (h3 : d ≤ Pers.len y m) (h4 : Pers.day y m d < 1 ∨ 3652059 < Pers.day y m d) :
    Calls Try.prog 21 #[.int .i64 5, .agg #[.int .i64 y, .int .i64 m, .int .i64 d]] w fun e w' => e = .returned (.tuple #[.int .i64 (Pers.dayN y m d), .int .i64 (Pers.dayE y m d)]) ∧ Below w.heap.size w w' := by
  have HB := Lib.hid (Pers.day_bad (y := y) (m := m) (d := d) (Or.inr (Or.inr (Or.inr h4))))
  have gz : (y == 0) = false := beq_eq_false_iff_ne.mpr hz
  clear hz
  have g0 : decide (y < -10000) = false := decide_eq_false (by omega)
  have g1 : decide (20000 < y) = false := decide_eq_false (by omega)
  have g2 : decide (d < 1) = false := decide_eq_false (by omega)
  have g3 : decide (Pers.len y m < d) = false := decide_eq_false (by omega)
  have hm := Pers.len_pos (y := y) (m := m) (by omega)
  have hl := Pers.len_in y m
  have HO := Lib.hid (isDay_no h4)
  clear h4
  go_enter Try.func21, Try.ntmps21
  go_wp2_with (go_at_call 43; refine (rYears5_any _).mono ?_; rintro e w' ⟨rfl, rfl⟩)
  go_quiet ((go_at_call 23; exact stillFirst (rLength5_any _ _ _ (by omega) (by omega))))
  go_wp2_with (first | (go_at_call 36; refine (rFixed5_any _ _ _ _ (by omega) (by omega) (by omega) (by omega) (by omega) (by omega)).mono ?_; rintro e w' ⟨rfl, rfl⟩) | (go_at_call 26; refine (rIn_any _ _).mono ?_; rw [HO.out]; rintro e w' ⟨rfl, rfl⟩))
  go_ret2
  exact ⟨ret_two HB.out.1 HB.out.2, drawnBelow ((Below.refl _ _).alloc (Nat.le_refl _) _) _⟩

theorem rDay5_any (y m d : Int) (w : World) :
    Calls Try.prog 21 #[.int .i64 5, .agg #[.int .i64 y, .int .i64 m, .int .i64 d]] w fun e w' => e = .returned (.tuple #[.int .i64 (Pers.dayN y m d), .int .i64 (Pers.dayE y m d)]) ∧ Below w.heap.size w w' := by
  by_cases a : y < -10000
  · exact rDay5_low y m d w a
  · by_cases b : 20000 < y
    · exact rDay5_high y m d w b
    · by_cases z : y = 0
      · exact rDay5_zero y m d w z
      · by_cases c : d < 1
        · exact rDay5_early y m d w (by omega) (by omega) z c
        · by_cases h3 : d ≤ Pers.len y m
          · by_cases h4 : 1 ≤ Pers.day y m d ∧ Pers.day y m d ≤ 3652059
            · exact rDay5_good y m d w (by omega) (by omega) z (by omega) h3 h4.1 h4.2
            · exact rDay5_off y m d w (by omega) (by omega) z (by omega) h3 (by omega)
          · exact rDay5_long y m d w (by omega) (by omega) z (by omega) (by omega)

end Go.Proofs.Ytfkbibjbdibcjaa
