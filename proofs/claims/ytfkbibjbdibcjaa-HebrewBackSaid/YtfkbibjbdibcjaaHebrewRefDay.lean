/- The walk of the reference's Day at calendar 3. -/
import Derived.Test.YtfkbibjbdibcjaaHebrewRef
namespace Go.Proofs.Ytfkbibjbdibcjaa
open Go.RowKit

theorem Heb.bad_year {y m d : Int} (h : y < 1 ∨ 20000 < y) : Heb.bad y m d := by
  have := Heb.lenR_no (y := y) (m := m) (Heb.right_no h)
  unfold Heb.bad; omega

set_option maxHeartbeats 1000000 in
theorem rDay3_low (y m d : Int) (w : World) (h : y < 1) :
    Calls Try.prog 21 #[.int .i64 3, .agg #[.int .i64 y, .int .i64 m, .int .i64 d]] w fun e w' => e = .returned (.tuple #[.int .i64 (Heb.dayN y m d), .int .i64 (Heb.dayE y m d)]) ∧ Below w.heap.size w w' := by
  have HB := Lib.hid (Heb.day_bad (y := y) (m := m) (d := d) (Heb.bad_year (Or.inl h)))
  have g0 : decide (y < 1) = true := decide_eq_true (by omega)
  go_enter Try.func21, Try.ntmps21
  go_wp2_with (go_at_call 43; refine (rYears3_any _).mono ?_; rintro e w' ⟨rfl, rfl⟩)
  go_quiet (fail)
  go_wp2
  go_ret2
  exact ⟨ret_two HB.out.1 HB.out.2, drawnBelow ((Below.refl _ _).alloc (Nat.le_refl _) _) _⟩

set_option maxHeartbeats 1000000 in
theorem rDay3_high (y m d : Int) (w : World) (h : 20000 < y) :
    Calls Try.prog 21 #[.int .i64 3, .agg #[.int .i64 y, .int .i64 m, .int .i64 d]] w fun e w' => e = .returned (.tuple #[.int .i64 (Heb.dayN y m d), .int .i64 (Heb.dayE y m d)]) ∧ Below w.heap.size w w' := by
  have HB := Lib.hid (Heb.day_bad (y := y) (m := m) (d := d) (Heb.bad_year (Or.inr h)))
  have g0 : decide (y < 1) = false := decide_eq_false (by omega)
  have g1 : decide (20000 < y) = true := decide_eq_true (by omega)
  go_enter Try.func21, Try.ntmps21
  go_wp2_with (go_at_call 43; refine (rYears3_any _).mono ?_; rintro e w' ⟨rfl, rfl⟩)
  go_quiet (fail)
  go_wp2
  go_ret2
  exact ⟨ret_two HB.out.1 HB.out.2, drawnBelow ((Below.refl _ _).alloc (Nat.le_refl _) _) _⟩

set_option maxHeartbeats 1000000 in
theorem rDay3_early (y m d : Int) (w : World) (h0 : 1 ≤ y) (h1 : y ≤ 20000) (h : d < 1) :
    Calls Try.prog 21 #[.int .i64 3, .agg #[.int .i64 y, .int .i64 m, .int .i64 d]] w fun e w' => e = .returned (.tuple #[.int .i64 (Heb.dayN y m d), .int .i64 (Heb.dayE y m d)]) ∧ Below w.heap.size w w' := by
  have HB := Lib.hid (Heb.day_bad (y := y) (m := m) (d := d) (Or.inl h))
  have g0 : decide (y < 1) = false := decide_eq_false (by omega)
  have g1 : decide (20000 < y) = false := decide_eq_false (by omega)
  have g2 : decide (d < 1) = true := decide_eq_true (by omega)
  go_enter Try.func21, Try.ntmps21
  go_wp2_with (go_at_call 43; refine (rYears3_any _).mono ?_; rintro e w' ⟨rfl, rfl⟩)
  go_quiet (fail)
  go_wp2
  go_ret2
  exact ⟨ret_two HB.out.1 HB.out.2, drawnBelow ((Below.refl _ _).alloc (Nat.le_refl _) _) _⟩

set_option maxHeartbeats 1000000 in
theorem rDay3_long (y m d : Int) (w : World) (h0 : 1 ≤ y) (h1 : y ≤ 20000) (h2 : 1 ≤ d) (h3 : Heb.len y m < d) :
    Calls Try.prog 21 #[.int .i64 3, .agg #[.int .i64 y, .int .i64 m, .int .i64 d]] w fun e w' => e = .returned (.tuple #[.int .i64 (Heb.dayN y m d), .int .i64 (Heb.dayE y m d)]) ∧ Below w.heap.size w w' := by
  have hlr := Heb.lenR_eq (y := y) (m := m) (Heb.right_yes h0 h1)
  have HB := Lib.hid (Heb.day_bad (y := y) (m := m) (d := d) (Or.inr (Or.inl (by omega))))
  clear hlr
  have g0 : decide (y < 1) = false := decide_eq_false (by omega)
  have g1 : decide (20000 < y) = false := decide_eq_false (by omega)
  have g2 : decide (d < 1) = false := decide_eq_false (by omega)
  have g3 : decide (Heb.len y m < d) = true := decide_eq_true (by omega)
  go_enter Try.func21, Try.ntmps21
  go_wp2_with (go_at_call 43; refine (rYears3_any _).mono ?_; rintro e w' ⟨rfl, rfl⟩)
  go_quiet ((go_at_call 23; exact stillFirst (rLength3_any _ _ _ (by omega) (by omega))))
  go_wp2
  go_ret2
  exact ⟨ret_two HB.out.1 HB.out.2, drawnBelow ((Below.refl _ _).alloc (Nat.le_refl _) _) _⟩

set_option maxHeartbeats 1000000 in
theorem rDay3_good (y m d : Int) (w : World) (h0 : 1 ≤ y) (h1 : y ≤ 20000) (h2 : 1 ≤ d) (h3 : d ≤ Heb.len y m) (h4 : 1 ≤ Heb.day y m d) (h5 : Heb.day y m d ≤ 3652059) :
    Calls Try.prog 21 #[.int .i64 3, .agg #[.int .i64 y, .int .i64 m, .int .i64 d]] w fun e w' => e = .returned (.tuple #[.int .i64 (Heb.dayN y m d), .int .i64 (Heb.dayE y m d)]) ∧ Below w.heap.size w w' := by
  have HO := Lib.hid (isDay_yes h4 h5)
  have hlr := Heb.lenR_eq (y := y) (m := m) (Heb.right_yes h0 h1)
  have HB := Lib.hid (Heb.day_fine h2 (by omega) h4 h5)
  clear hlr
  have g0 : decide (y < 1) = false := decide_eq_false (by omega)
  have g1 : decide (20000 < y) = false := decide_eq_false (by omega)
  have g2 : decide (d < 1) = false := decide_eq_false (by omega)
  have g3 : decide (Heb.len y m < d) = false := decide_eq_false (by omega)
  have hm := Heb.len_pos (y := y) (m := m) (by omega)
  have hl := Heb.len_in y m
  go_enter Try.func21, Try.ntmps21
  go_wp2_with (go_at_call 43; refine (rYears3_any _).mono ?_; rintro e w' ⟨rfl, rfl⟩)
  go_quiet ((go_at_call 23; exact stillFirst (rLength3_any _ _ _ (by omega) (by omega))))
  go_wp2_with (first | (go_at_call 36; refine (rFixed3_any _ _ _ _ (by omega) (by omega) (by omega) (by omega) (by omega) (by omega)).mono ?_; rintro e w' ⟨rfl, rfl⟩) | (go_at_call 26; refine (rIn_any _ _).mono ?_; rw [HO.out]; rintro e w' ⟨rfl, rfl⟩))
  go_ret2
  exact ⟨ret_two HB.out.1 HB.out.2, drawnBelow ((Below.refl _ _).alloc (Nat.le_refl _) _) _⟩

set_option maxHeartbeats 1000000 in
theorem rDay3_off (y m d : Int) (w : World) (h0 : 1 ≤ y) (h1 : y ≤ 20000) (h2 : 1 ≤ d) (h3 : d ≤ Heb.len y m) (h4 : Heb.day y m d < 1 ∨ 3652059 < Heb.day y m d) :
    Calls Try.prog 21 #[.int .i64 3, .agg #[.int .i64 y, .int .i64 m, .int .i64 d]] w fun e w' => e = .returned (.tuple #[.int .i64 (Heb.dayN y m d), .int .i64 (Heb.dayE y m d)]) ∧ Below w.heap.size w w' := by
  have HB := Lib.hid (Heb.day_bad (y := y) (m := m) (d := d) (Or.inr (Or.inr h4)))
  have g0 : decide (y < 1) = false := decide_eq_false (by omega)
  have g1 : decide (20000 < y) = false := decide_eq_false (by omega)
  have g2 : decide (d < 1) = false := decide_eq_false (by omega)
  have g3 : decide (Heb.len y m < d) = false := decide_eq_false (by omega)
  have hm := Heb.len_pos (y := y) (m := m) (by omega)
  have hl := Heb.len_in y m
  have HO := Lib.hid (isDay_no h4)
  clear h4
  go_enter Try.func21, Try.ntmps21
  go_wp2_with (go_at_call 43; refine (rYears3_any _).mono ?_; rintro e w' ⟨rfl, rfl⟩)
  go_quiet ((go_at_call 23; exact stillFirst (rLength3_any _ _ _ (by omega) (by omega))))
  go_wp2_with (first | (go_at_call 36; refine (rFixed3_any _ _ _ _ (by omega) (by omega) (by omega) (by omega) (by omega) (by omega)).mono ?_; rintro e w' ⟨rfl, rfl⟩) | (go_at_call 26; refine (rIn_any _ _).mono ?_; rw [HO.out]; rintro e w' ⟨rfl, rfl⟩))
  go_ret2
  exact ⟨ret_two HB.out.1 HB.out.2, drawnBelow ((Below.refl _ _).alloc (Nat.le_refl _) _) _⟩

theorem rDay3_any (y m d : Int) (w : World) :
    Calls Try.prog 21 #[.int .i64 3, .agg #[.int .i64 y, .int .i64 m, .int .i64 d]] w fun e w' => e = .returned (.tuple #[.int .i64 (Heb.dayN y m d), .int .i64 (Heb.dayE y m d)]) ∧ Below w.heap.size w w' := by
  by_cases a : y < 1
  · exact rDay3_low y m d w a
  · by_cases b : 20000 < y
    · exact rDay3_high y m d w b
    · by_cases c : d < 1
      · exact rDay3_early y m d w (by omega) (by omega) c
      · by_cases h3 : d ≤ Heb.len y m
        · by_cases h4 : 1 ≤ Heb.day y m d ∧ Heb.day y m d ≤ 3652059
          · exact rDay3_good y m d w (by omega) (by omega) (by omega) h3 h4.1 h4.2
          · exact rDay3_off y m d w (by omega) (by omega) (by omega) h3 (by omega)
        · exact rDay3_long y m d w (by omega) (by omega) (by omega) (by omega)

end Go.Proofs.Ytfkbibjbdibcjaa
