/- The walk of the Hebrew statements' first test: it hands back true. -/
import Derived.Test.YtfkbibjbdibcjaaHebrewWalks2
import Derived.Test.YtfkbibjbdibcjaaHebrewRef
namespace Go.Proofs.Ytfkbibjbdibcjaa
open Go.RowKit

theorem Heb.day_first (y : Int) : Heb.day y 7 1 = Heb.fst y := by unfold Heb.day; rw [Heb.cum_7]; omega
theorem Heb.last_ge (y : Int) : 7 ≤ Heb.last y := by have := Heb.last_in y; omega
theorem Heb.now : Heb.right 5787 = true := by decide

set_option maxHeartbeats 1000000 in
theorem hebAwake_any (w : World) :
    Calls Try.prog 31 #[] w fun e w' => e = .returned (.bool true) ∧ Below w.heap.size w w' := by
  have HF := Lib.hid (Heb.day_first 5787)
  have HR := Lib.hid Heb.now
  have hl := Heb.last_ge 5787
  go_enter Try.func31, Try.ntmps31
  go_wp2_with (first | (go_at_call 32; refine (hebBeginsE_in _ _ HR.out).mono ?_; rintro e w' ⟨rfl, rfl⟩) | (go_at_call 36; refine (rFixed3_any _ _ _ _ (by omega) (by omega) (by omega) (by omega) (by omega) (by omega)).mono ?_; rw [HF.out]; rintro e w' ⟨rfl, rfl⟩))
  go_ret
  exact ⟨by first | rfl | simp, Below.refl _ _⟩

end Go.Proofs.Ytfkbibjbdibcjaa
