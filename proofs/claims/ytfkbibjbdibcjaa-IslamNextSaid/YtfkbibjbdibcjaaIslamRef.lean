/- The walks of the reference at calendar 4: each function hands back what the plain arithmetic of the Islamic calendar says. -/
import Derived.Test.YtfkbibjbdibcjaaIslamWalks
namespace Go.Proofs.Ytfkbibjbdibcjaa
open Go.RowKit

set_option maxHeartbeats 400000 in
theorem rIn_any (n : Int) (w : World) :
    Calls Try.prog 26 #[.int .i64 n] w fun e w' => e = .returned (.bool (isDay n)) ∧ w = w' := by
  by_cases h0 : 1 ≤ n
  · by_cases h1 : n ≤ 3652059
    · have H := Lib.hid (isDay_yes h0 h1)
      go_enter Try.func26, Try.ntmps26
      go_wp2
      go_ret
      exact ⟨ret_bool H.out.symm, rfl⟩
    · have H := Lib.hid (isDay_no (n := n) (by omega))
      go_enter Try.func26, Try.ntmps26
      go_wp2
      go_ret
      exact ⟨ret_bool H.out.symm, rfl⟩
  · have H := Lib.hid (isDay_no (n := n) (by omega))
    go_enter Try.func26, Try.ntmps26
    go_wp2
    go_ret
    exact ⟨ret_bool H.out.symm, rfl⟩

set_option maxHeartbeats 400000 in
theorem rIslamic_any (y m d : Int) (w : World) (h0 : -20000 ≤ y) (h1 : y ≤ 30000) (h2 : 0 ≤ m) (h3 : m ≤ 20) (h4 : 0 ≤ d) (h5 : d ≤ 1000) :
    Calls Try.prog 66 #[.int .i64 y, .int .i64 m, .int .i64 d] w fun e w' => e = .returned (.int .i64 (Isl.day y m d)) ∧ w = w' := by
  have H := Lib.hid (show Isl.day y m d = 227015 + 354 * (y - 1) + (3 + 11 * y) / 30 + (29 * (m - 1) + (6 * m - 1) / 11) + d - 1 from rfl)
  go_enter Try.func66, Try.ntmps66
  go_wp2_with (go_at_call 50; refine (rfloor_any _ _ _ (by omega) (by omega) (by omega) (by omega)).mono ?_; rintro e w' ⟨rfl, rfl⟩)
  go_ret
  exact ⟨ret_int (by rw [H.out]; omega), rfl⟩

set_option maxHeartbeats 400000 in
theorem rFixed4_any (y m d : Int) (w : World) (h0 : -20000 ≤ y) (h1 : y ≤ 30000) (h2 : 0 ≤ m) (h3 : m ≤ 20) (h4 : 0 ≤ d) (h5 : d ≤ 1000) :
    Calls Try.prog 36 #[.int .i64 4, .int .i64 y, .int .i64 m, .int .i64 d] w fun e w' => e = .returned (.int .i64 (Isl.day y m d)) ∧ w = w' := by
  go_enter Try.func36, Try.ntmps36
  go_wp2_with (go_at_call 66; refine (rIslamic_any _ _ _ _ (by omega) (by omega) (by omega) (by omega) (by omega) (by omega)).mono ?_; rintro e w' ⟨rfl, rfl⟩)
  go_ret
  exact ⟨rfl, rfl⟩

theorem rMonths4_any (y : Int) (w : World) :
    Calls Try.prog 37 #[.int .i64 4, .int .i64 y] w fun e w' => e = .returned (.int .i64 12) ∧ w = w' := by
  go_enter Try.func37, Try.ntmps37
  go_wp2
  go_ret
  exact ⟨rfl, rfl⟩

theorem rNext4_any (y : Int) (w : World) (h0 : -30000 ≤ y) (h1 : y ≤ 30000) :
    Calls Try.prog 47 #[.int .i64 4, .int .i64 y] w fun e w' => e = .returned (.int .i64 (y + 1)) ∧ w = w' := by
  go_enter Try.func47, Try.ntmps47
  go_wp2
  go_ret
  exact ⟨rfl, rfl⟩

theorem day_first (y : Int) : Isl.day y 1 1 = Isl.fst y := by unfold Isl.day; rw [Isl.cum_one]; omega

theorem rBegins4_any (y : Int) (w : World) (h0 : -20000 ≤ y) (h1 : y ≤ 30000) :
    Calls Try.prog 46 #[.int .i64 4, .int .i64 y] w fun e w' => e = .returned (.int .i64 (Isl.fst y)) ∧ w = w' := by
  have H := Lib.hid (day_first y)
  go_enter Try.func46, Try.ntmps46
  go_wp2_with (go_at_call 36; refine (rFixed4_any _ _ _ _ (by omega) (by omega) (by omega) (by omega) (by omega) (by omega)).mono ?_; rintro e w' ⟨rfl, rfl⟩)
  go_ret
  exact ⟨ret_int H.out, rfl⟩

theorem rLeast4_any (w : World) :
    Calls Try.prog 49 #[.int .i64 4] w fun e w' => e = .returned (.int .i64 (-800)) ∧ w = w' := by
  go_enter Try.func49, Try.ntmps49
  go_wp2
  go_ret
  exact ⟨rfl, rfl⟩

theorem rYears4_any (w : World) :
    Calls Try.prog 43 #[.int .i64 4] w fun e w' => e = .returned (.tuple #[.int .i64 (-10000), .int .i64 20000]) ∧ w = w' := by
  go_enter Try.func43, Try.ntmps43
  go_wp2
  go_ret2
  exact ⟨rfl, rfl⟩

theorem len_next {y m : Int} (h1 : 1 ≤ m) (h2 : m ≤ 11) : Isl.day y (m + 1) 1 - Isl.day y m 1 = Isl.len y m := by
  have := Isl.cum_next (y := y) h1 h2
  unfold Isl.day; omega
theorem len_year (y : Int) : Isl.fst (y + 1) - Isl.day y 12 1 = Isl.len y 12 := by
  have := Isl.fst_next y
  unfold Isl.day; omega
theorem day_in {y m d : Int} (h0 : -10001 ≤ y) (h1 : y ≤ 20001) (h2 : 1 ≤ m) (h3 : m ≤ 13) (h4 : 0 ≤ d) (h5 : d ≤ 1000) : -4000000 ≤ Isl.day y m d ∧ Isl.day y m d ≤ 8000000 := by
  have := Isl.fst_in h0 h1
  have := Isl.cum_in h2 h3
  unfold Isl.day; omega

set_option maxHeartbeats 1000000 in
theorem rLength4_any (y m : Int) (w : World) (h0 : -10000 ≤ y) (h1 : y ≤ 20000) :
    Calls Try.prog 23 #[.int .i64 4, .int .i64 y, .int .i64 m] w fun e w' => e = .returned (.int .i64 (Isl.len y m)) ∧ w = w' := by
  by_cases a : m < 1
  · have H := Lib.hid (show Isl.len y m = 0 by unfold Isl.len; rw [if_pos (Or.inl a)])
    have g0 : decide (m < 1) = true := decide_eq_true a
    go_enter Try.func23, Try.ntmps23
    go_wp2
    go_ret
    exact ⟨ret_int H.out.symm, rfl⟩
  · have g0 : decide (m < 1) = false := decide_eq_false a
    by_cases b : 12 < m
    · have H := Lib.hid (show Isl.len y m = 0 by unfold Isl.len; rw [if_pos (Or.inr b)])
      have g1 : decide (12 < m) = true := decide_eq_true b
      go_enter Try.func23, Try.ntmps23
      go_wp2_with (go_at_call 37; refine (rMonths4_any _ _).mono ?_; rintro e w' ⟨rfl, rfl⟩)
      go_ret
      exact ⟨ret_int H.out.symm, rfl⟩
    · have g1 : decide (12 < m) = false := decide_eq_false b
      have d0 := day_in (y := y) (m := m) (d := 1) (by omega) (by omega) (by omega) (by omega) (by omega) (by omega)
      by_cases c : m < 12
      · have d1 := day_in (y := y) (m := m + 1) (d := 1) (by omega) (by omega) (by omega) (by omega) (by omega) (by omega)
        have H := Lib.hid (len_next (y := y) (m := m) (by omega) (by omega))
        go_enter Try.func23, Try.ntmps23
        go_wp2_with (first | (go_at_call 37; refine (rMonths4_any _ _).mono ?_; rintro e w' ⟨rfl, rfl⟩) | (go_at_call 36; refine (rFixed4_any _ _ _ _ (by omega) (by omega) (by omega) (by omega) (by omega) (by omega)).mono ?_; rintro e w' ⟨rfl, rfl⟩))
        go_ret
        exact ⟨ret_int H.out, rfl⟩
      · obtain rfl : m = 12 := by omega
        have d1 := Isl.fst_in (y := y + 1) (by omega) (by omega)
        have H := Lib.hid (len_year y)
        clear a b c g0 g1
        go_enter Try.func23, Try.ntmps23
        go_wp2_with (first | (go_at_call 37; refine (rMonths4_any _ _).mono ?_; rintro e w' ⟨rfl, rfl⟩) | (go_at_call 36; refine (rFixed4_any _ _ _ _ (by omega) (by omega) (by omega) (by omega) (by omega) (by omega)).mono ?_; rintro e w' ⟨rfl, rfl⟩) | (go_at_call 47; refine (rNext4_any _ _ (by omega) (by omega)).mono ?_; rintro e w' ⟨rfl, rfl⟩) | (go_at_call 46; refine (rBegins4_any _ _ (by omega) (by omega)).mono ?_; rintro e w' ⟨rfl, rfl⟩))
        go_ret
        exact ⟨ret_int H.out, rfl⟩

end Go.Proofs.Ytfkbibjbdibcjaa
