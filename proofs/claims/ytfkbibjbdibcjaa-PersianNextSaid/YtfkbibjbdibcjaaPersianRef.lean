/- The walks of the reference at calendar 5: each function hands back what the plain arithmetic of the Persian calendar says. -/
import Derived.Test.YtfkbibjbdibcjaaPersianWalks
namespace Go.Proofs.Ytfkbibjbdibcjaa
open Go.RowKit

theorem Pers.day_low {y m d : Int} (h : m ≤ 7) : Pers.day y m d = 226895 + 1029983 * (Pers.zed y / 2820) + 365 * (Pers.zed y % 2820 + 474 - 1) + (31 * (Pers.zed y % 2820 + 474) - 5) / 128 + d + 31 * (m - 1) := by
  unfold Pers.day Pers.fst Pers.beg Pers.cum; rw [if_pos h]; omega
theorem Pers.day_high {y m d : Int} (h : ¬ m ≤ 7) : Pers.day y m d = 226895 + 1029983 * (Pers.zed y / 2820) + 365 * (Pers.zed y % 2820 + 474 - 1) + (31 * (Pers.zed y % 2820 + 474) - 5) / 128 + d + 30 * (m - 1) + 6 := by
  unfold Pers.day Pers.fst Pers.beg Pers.cum; rw [if_neg h]; omega

set_option maxHeartbeats 1000000 in
theorem rPersian_any (y m d : Int) (w : World) (h0 : -20000 ≤ y) (h1 : y ≤ 30000) (h2 : 0 ≤ m) (h3 : m ≤ 20) (h4 : 0 ≤ d) (h5 : d ≤ 1000) :
    Calls Try.prog 67 #[.int .i64 y, .int .i64 m, .int .i64 d] w fun e w' => e = .returned (.int .i64 (Pers.day y m d)) ∧ w = w' := by
  have HL := Lib.hid (fun h => Pers.day_low (y := y) (m := m) (d := d) h)
  have HH := Lib.hid (fun h => Pers.day_high (y := y) (m := m) (d := d) h)
  by_cases hy : y < 0
  all_goals
    have HZ := Lib.hid (show Pers.zed y = if y < 0 then y - 473 else y - 474 from rfl)
    by_cases hm : m ≤ 7
    all_goals
      go_enter Try.func67, Try.ntmps67
      go_wp2_with (first | (go_at_call 33; refine (rmod_any _ _ _ (by omega) (by omega) (by omega) (by omega)).mono ?_; rintro e w' ⟨rfl, rfl⟩) | (go_at_call 50; refine (rfloor_any _ _ _ (by omega) (by omega) (by omega) (by omega)).mono ?_; rintro e w' ⟨rfl, rfl⟩))
      go_ret
      exact ⟨ret_int (by
        have hz := HZ.out
        first | rw [if_pos (by omega)] at hz | rw [if_neg (by omega)] at hz
        rw [← hz]
        first | exact (HL.out (by omega)).symm | exact (HH.out (by omega)).symm), rfl⟩

set_option maxHeartbeats 400000 in
theorem rFixed5_any (y m d : Int) (w : World) (h0 : -20000 ≤ y) (h1 : y ≤ 30000) (h2 : 0 ≤ m) (h3 : m ≤ 20) (h4 : 0 ≤ d) (h5 : d ≤ 1000) :
    Calls Try.prog 36 #[.int .i64 5, .int .i64 y, .int .i64 m, .int .i64 d] w fun e w' => e = .returned (.int .i64 (Pers.day y m d)) ∧ w = w' := by
  go_enter Try.func36, Try.ntmps36
  go_wp2_with (go_at_call 67; refine (rPersian_any _ _ _ _ (by omega) (by omega) (by omega) (by omega) (by omega) (by omega)).mono ?_; rintro e w' ⟨rfl, rfl⟩)
  go_ret
  exact ⟨rfl, rfl⟩

theorem rMonths5_any (y : Int) (w : World) :
    Calls Try.prog 37 #[.int .i64 5, .int .i64 y] w fun e w' => e = .returned (.int .i64 12) ∧ w = w' := by
  go_enter Try.func37, Try.ntmps37
  go_wp2
  go_ret
  exact ⟨rfl, rfl⟩

theorem rNext5_any (y : Int) (w : World) (h0 : -30000 ≤ y) (h1 : y ≤ 30000) :
    Calls Try.prog 47 #[.int .i64 5, .int .i64 y] w fun e w' => e = .returned (.int .i64 (Pers.nxt y)) ∧ w = w' := by
  by_cases h : y = -1
  · have H := Lib.hid (show Pers.nxt y = 1 by unfold Pers.nxt; rw [if_pos h])
    have g : (y == -1) = true := beq_iff_eq.mpr h
    clear h
    go_enter Try.func47, Try.ntmps47
    go_wp2
    go_ret
    exact ⟨ret_int H.out.symm, rfl⟩
  · have H := Lib.hid (show Pers.nxt y = y + 1 by unfold Pers.nxt; rw [if_neg h])
    have g : (y == -1) = false := beq_eq_false_iff_ne.mpr h
    clear h
    go_enter Try.func47, Try.ntmps47
    go_wp2
    go_ret
    exact ⟨ret_int H.out.symm, rfl⟩

theorem rBegins5_any (y : Int) (w : World) (h0 : -20000 ≤ y) (h1 : y ≤ 30000) :
    Calls Try.prog 46 #[.int .i64 5, .int .i64 y] w fun e w' => e = .returned (.int .i64 (Pers.fst y)) ∧ w = w' := by
  have H := Lib.hid (Pers.day_first y)
  go_enter Try.func46, Try.ntmps46
  go_wp2_with (go_at_call 36; refine (rFixed5_any _ _ _ _ (by omega) (by omega) (by omega) (by omega) (by omega) (by omega)).mono ?_; rintro e w' ⟨rfl, rfl⟩)
  go_ret
  exact ⟨ret_int H.out, rfl⟩

theorem rLeast5_any (w : World) :
    Calls Try.prog 49 #[.int .i64 5] w fun e w' => e = .returned (.int .i64 (-800)) ∧ w = w' := by
  go_enter Try.func49, Try.ntmps49
  go_wp2
  go_ret
  exact ⟨rfl, rfl⟩

theorem rYears5_any (w : World) :
    Calls Try.prog 43 #[.int .i64 5] w fun e w' => e = .returned (.tuple #[.int .i64 (-10000), .int .i64 20000]) ∧ w = w' := by
  go_enter Try.func43, Try.ntmps43
  go_wp2
  go_ret2
  exact ⟨rfl, rfl⟩

set_option maxHeartbeats 1000000 in
theorem rLength5_any (y m : Int) (w : World) (h0 : -10000 ≤ y) (h1 : y ≤ 20000) :
    Calls Try.prog 23 #[.int .i64 5, .int .i64 y, .int .i64 m] w fun e w' => e = .returned (.int .i64 (Pers.len y m)) ∧ w = w' := by
  by_cases a : m < 1
  · have H := Lib.hid (show Pers.len y m = 0 by unfold Pers.len; rw [if_pos (Or.inl a)])
    have g0 : decide (m < 1) = true := decide_eq_true a
    go_enter Try.func23, Try.ntmps23
    go_wp2
    go_ret
    exact ⟨ret_int H.out.symm, rfl⟩
  · have g0 : decide (m < 1) = false := decide_eq_false a
    by_cases b : 12 < m
    · have H := Lib.hid (show Pers.len y m = 0 by unfold Pers.len; rw [if_pos (Or.inr b)])
      have g1 : decide (12 < m) = true := decide_eq_true b
      go_enter Try.func23, Try.ntmps23
      go_wp2_with (go_at_call 37; refine (rMonths5_any _ _).mono ?_; rintro e w' ⟨rfl, rfl⟩)
      go_ret
      exact ⟨ret_int H.out.symm, rfl⟩
    · have g1 : decide (12 < m) = false := decide_eq_false b
      have d0 := Pers.day_in (y := y) (m := m) (d := 1) (by omega) (by omega) (by omega) (by omega) (by omega) (by omega)
      by_cases c : m < 12
      · have d1 := Pers.day_in (y := y) (m := m + 1) (d := 1) (by omega) (by omega) (by omega) (by omega) (by omega) (by omega)
        have H := Lib.hid (Pers.len_next (y := y) (m := m) (by omega) (by omega))
        go_enter Try.func23, Try.ntmps23
        go_wp2_with (first | (go_at_call 37; refine (rMonths5_any _ _).mono ?_; rintro e w' ⟨rfl, rfl⟩) | (go_at_call 36; refine (rFixed5_any _ _ _ _ (by omega) (by omega) (by omega) (by omega) (by omega) (by omega)).mono ?_; rintro e w' ⟨rfl, rfl⟩))
        go_ret
        exact ⟨ret_int H.out, rfl⟩
      · obtain rfl : m = 12 := by omega
        have hx : -10000 ≤ Pers.nxt y ∧ Pers.nxt y ≤ 20001 := by unfold Pers.nxt; split <;> omega
        have d1 := Pers.fst_in (y := Pers.nxt y) (by omega) (by omega)
        have H := Lib.hid (Pers.len_year y)
        clear a b c g0 g1
        go_enter Try.func23, Try.ntmps23
        go_wp2_with (first | (go_at_call 37; refine (rMonths5_any _ _).mono ?_; rintro e w' ⟨rfl, rfl⟩) | (go_at_call 36; refine (rFixed5_any _ _ _ _ (by omega) (by omega) (by omega) (by omega) (by omega) (by omega)).mono ?_; rintro e w' ⟨rfl, rfl⟩) | (go_at_call 47; refine (rNext5_any _ _ (by omega) (by omega)).mono ?_; rintro e w' ⟨rfl, rfl⟩) | (go_at_call 46; refine (rBegins5_any _ _ (by omega) (by omega)).mono ?_; rintro e w' ⟨rfl, rfl⟩))
        go_ret
        exact ⟨ret_int H.out, rfl⟩

end Go.Proofs.Ytfkbibjbdibcjaa
