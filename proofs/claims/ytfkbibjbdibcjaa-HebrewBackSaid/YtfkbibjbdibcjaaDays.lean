/- The walks of the two functions that tell whether a number is a day: the program's and the reference's. -/
import Derived.Test.YtfkbibjbdibcjaaBase
namespace Go.Proofs.Ytfkbibjbdibcjaa
open Go.RowKit

/-- Is it a day of the calendar? -/
def isDay (n : Int) : Bool := decide (1 ≤ n) && decide (n ≤ 3652059)
theorem isDay_yes {n : Int} (h0 : 1 ≤ n) (h1 : n ≤ 3652059) : isDay n = true := by simp [isDay, h0, h1]
theorem isDay_no {n : Int} (h : n < 1 ∨ 3652059 < n) : isDay n = false := by unfold isDay; rcases h with h | h <;> simp <;> omega

set_option maxHeartbeats 400000 in
theorem of_any (n : Int) (w : World) :
    Calls Try.prog 42 #[.int .i64 n] w fun e w' => e = .returned (.bool (isDay n)) ∧ w = w' := by
  by_cases h0 : 1 ≤ n
  · by_cases h1 : n ≤ 3652059
    · have H := Lib.hid (isDay_yes h0 h1)
      go_enter Try.func42, Try.ntmps42
      go_wp2
      go_ret
      exact ⟨ret_bool H.out.symm, rfl⟩
    · have H := Lib.hid (isDay_no (n := n) (by omega))
      go_enter Try.func42, Try.ntmps42
      go_wp2
      go_ret
      exact ⟨ret_bool H.out.symm, rfl⟩
  · have H := Lib.hid (isDay_no (n := n) (by omega))
    go_enter Try.func42, Try.ntmps42
    go_wp2
    go_ret
    exact ⟨ret_bool H.out.symm, rfl⟩

set_option maxHeartbeats 400000 in
theorem rIn_any (n : Int) (w : World) :
    Calls Try.prog 26 #[.int .i64 n] w fun e w' => e = .returned (.bool (isDay n)) ∧ w = w' := by
  by_cases h0 : 1 ≤ n
  · by_cases h1 : n ≤ 3652059
    · have H := Lib.hid (isDay_yes h0 h1)
      go_enter Try.func26, Try.ntmps26
      go_wp2
      go_ret
      exact ⟨ret_bool H.out.symm, rfl⟩
    · have H := Lib.hid (isDay_no (n := n) (by omega))
      go_enter Try.func26, Try.ntmps26
      go_wp2
      go_ret
      exact ⟨ret_bool H.out.symm, rfl⟩
  · have H := Lib.hid (isDay_no (n := n) (by omega))
    go_enter Try.func26, Try.ntmps26
    go_wp2
    go_ret
    exact ⟨ret_bool H.out.symm, rfl⟩

end Go.Proofs.Ytfkbibjbdibcjaa
