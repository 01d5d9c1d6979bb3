/- The walks of package islam: each of its functions hands back what the plain arithmetic says. -/
import Derived.Test.YtfkbibjbdibcjaaBase
import Derived.Test.YtfkbibjbdibcjaaIslam
namespace Go.Proofs.Ytfkbibjbdibcjaa
open Go.RowKit

set_option maxHeartbeats 400000 in
theorem islLeap_any (y : Int) (w : World) :
    Calls Try.prog 22 #[.int .i64 y] w fun e w' => e = .returned (.bool (Isl.leap y)) ∧ w = w' := by
  by_cases h0 : -10000 ≤ y
  · by_cases h1 : y ≤ 20000
    · have hl : Isl.leap y = decide ((14 + 11 * y) % 30 < 11) := Isl.leap_in h0 h1
      have H := Lib.hid hl
      clear hl
      go_enter Try.func22, Try.ntmps22
      go_wp2_with (go_at_call 44; refine (mod_any _ _ _ (by omega) (by omega) (by omega) (by omega)).mono ?_; rintro e w' ⟨rfl, rfl⟩)
      go_ret
      exact ⟨ret_bool H.out.symm, rfl⟩
    · have H := Lib.hid (Isl.leap_out (y := y) (by omega))
      go_enter Try.func22, Try.ntmps22
      go_wp2
      go_ret
      exact ⟨ret_bool H.out.symm, rfl⟩
  · have H := Lib.hid (Isl.leap_out (y := y) (by omega))
    go_enter Try.func22, Try.ntmps22
    go_wp2
    go_ret
    exact ⟨ret_bool H.out.symm, rfl⟩

set_option maxHeartbeats 400000 in
theorem islLength_any (y m : Int) (w : World) (h0 : -10000 ≤ y) (h1 : y ≤ 20000) :
    Calls Try.prog 40 #[.int .i64 y, .int .i64 m] w fun e w' => e = .returned (.int .i64 (Isl.len y m)) ∧ w = w' := by
  have hl := Isl.leap_in h0 h1
  by_cases a : m < 1
  · have H := Lib.hid (show Isl.len y m = 0 by unfold Isl.len; rw [if_pos (Or.inl a)])
    go_enter Try.func40, Try.ntmps40
    go_wp2
    go_ret
    exact ⟨ret_int H.out.symm, rfl⟩
  · by_cases b : 12 < m
    · have H := Lib.hid (show Isl.len y m = 0 by unfold Isl.len; rw [if_pos (Or.inr b)])
      go_enter Try.func40, Try.ntmps40
      go_wp2
      go_ret
      exact ⟨ret_int H.out.symm, rfl⟩
    · by_cases c : m % 2 = 1
      · have H := Lib.hid (show Isl.len y m = 30 by unfold Isl.len; rw [if_neg (by omega), if_pos (Or.inl c)])
        have hc : (m % 2 == 1) = true := beq_iff_eq.mpr c
        clear c hl
        go_enter Try.func40, Try.ntmps40
        go_wp2
        go_ret
        exact ⟨ret_int H.out.symm, rfl⟩
      · have hc : (m % 2 == 1) = false := beq_eq_false_iff_ne.mpr c
        by_cases d : m = 12
        · subst d
          by_cases e : Isl.lp y = true
          · have H := Lib.hid (show Isl.len y 12 = 30 by unfold Isl.len; rw [if_neg (by omega), if_pos (Or.inr ⟨rfl, e⟩)])
            have he : Isl.leap y = true := by rw [hl]; exact e
            have HE := Lib.hid he
            clear c hl e he
            go_enter Try.func40, Try.ntmps40
            go_wp2_with (go_at_call 22; refine (islLeap_any _ _).mono ?_; rw [HE.out]; rintro e w' ⟨rfl, rfl⟩)
            go_ret
            exact ⟨ret_int H.out.symm, rfl⟩
          · have H := Lib.hid (show Isl.len y 12 = 29 by unfold Isl.len; rw [if_neg (by omega), if_neg (by rintro (h | h); exact absurd h (by omega); exact e h.2)])
            have he : Isl.leap y = false := by rw [hl]; simpa using e
            have HE := Lib.hid he
            clear c hl e he
            go_enter Try.func40, Try.ntmps40
            go_wp2_with (go_at_call 22; refine (islLeap_any _ _).mono ?_; rw [HE.out]; rintro e w' ⟨rfl, rfl⟩)
            go_ret
            exact ⟨ret_int H.out.symm, rfl⟩
        · have H := Lib.hid (show Isl.len y m = 29 by unfold Isl.len; rw [if_neg (by omega), if_neg (by rintro (h | h); exact c h; exact d h.1)])
          clear c hl
          go_enter Try.func40, Try.ntmps40
          go_wp2
          go_ret
          exact ⟨ret_int H.out.symm, rfl⟩

set_option maxHeartbeats 400000 in
theorem islFirst_any (y : Int) (w : World) (h0 : -20000 ≤ y) (h1 : y ≤ 30000) :
    Calls Try.prog 41 #[.int .i64 y] w fun e w' => e = .returned (.int .i64 (Isl.fst y)) ∧ w = w' := by
  have H := Lib.hid (show Isl.fst y = 227015 + 354 * (y - 1) + (3 + 11 * y) / 30 from rfl)
  go_enter Try.func41, Try.ntmps41
  go_wp2_with (go_at_call 48; refine (floor_any _ _ _ (by omega) (by omega) (by omega) (by omega)).mono ?_; rintro e w' ⟨rfl, rfl⟩)
  go_ret
  exact ⟨ret_int H.out.symm, rfl⟩

/-- Is it a day of the calendar? -/
def isDay (n : Int) : Bool := decide (1 ≤ n) && decide (n ≤ 3652059)
theorem isDay_yes {n : Int} (h0 : 1 ≤ n) (h1 : n ≤ 3652059) : isDay n = true := by simp [isDay, h0, h1]
theorem isDay_no {n : Int} (h : n < 1 ∨ 3652059 < n) : isDay n = false := by unfold isDay; rcases h with h | h <;> simp <;> omega

set_option maxHeartbeats 400000 in
theorem of_any (n : Int) (w : World) :
    Calls Try.prog 42 #[.int .i64 n] w fun e w' => e = .returned (.bool (isDay n)) ∧ w = w' := by
  by_cases h0 : 1 ≤ n
  · by_cases h1 : n ≤ 3652059
    · have H := Lib.hid (isDay_yes h0 h1)
      go_enter Try.func42, Try.ntmps42
      go_wp2
      go_ret
      exact ⟨ret_bool H.out.symm, rfl⟩
    · have H := Lib.hid (isDay_no (n := n) (by omega))
      go_enter Try.func42, Try.ntmps42
      go_wp2
      go_ret
      exact ⟨ret_bool H.out.symm, rfl⟩
  · have H := Lib.hid (isDay_no (n := n) (by omega))
    go_enter Try.func42, Try.ntmps42
    go_wp2
    go_ret
    exact ⟨ret_bool H.out.symm, rfl⟩

end Go.Proofs.Ytfkbibjbdibcjaa
