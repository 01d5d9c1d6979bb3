/- The walk of the statement on the weekdays with which a Hebrew year begins: it hands back true. -/
import Derived.Test.YtfkbibjbdibcjaaHebrewAwake
namespace Go.Proofs.Ytfkbibjbdibcjaa
open Go.RowKit

set_option maxHeartbeats 1000000 in
theorem hebrewBegins_walk (y : Int) (w : World) :
    Calls Try.prog 13 #[.int .i64 y] w fun e w' => e = .returned (.bool true) ∧ Below w.heap.size w w' := by
  cases h : Heb.right y
  · have HR := Lib.hid h
    clear h
    go_enter Try.func13, Try.ntmps13
    go_wp2_with (first | (go_at_call 31; refine (hebAwake_any _).mono ?_; rintro e w1 ⟨rfl, hb1⟩) | (go_at_call 32; refine (hebBeginsE_out _ _ HR.out).mono ?_; rintro e w' ⟨rfl, rfl⟩) | (go_at_call 33; refine (rmod_any _ _ _ (by omega) (by omega) (by omega) (by omega)).mono ?_; rintro e w' ⟨rfl, rfl⟩))
    go_ret
    exact ⟨rfl, hb1⟩
  · have hin := Heb.right_in h
    have hf := Heb.fst_in (y := y) (by omega) (by omega)
    have hw := (Heb.year_both y).2
    have g0 : (Heb.fst y % 7 != 0) = true := bne_iff_ne.mpr hw.1
    have g3 : (Heb.fst y % 7 != 3) = true := bne_iff_ne.mpr hw.2.1
    have g5 : (Heb.fst y % 7 != 5) = true := bne_iff_ne.mpr hw.2.2
    have HR := Lib.hid h
    clear h hw
    go_enter Try.func13, Try.ntmps13
    go_wp2_with (first | (go_at_call 31; refine (hebAwake_any _).mono ?_; rintro e w1 ⟨rfl, hb1⟩) | (go_at_call 32; refine (hebBeginsE_in _ _ HR.out).mono ?_; rintro e w' ⟨rfl, rfl⟩) | (go_at_call 33; refine (rmod_any _ _ _ (by omega) (by omega) (by omega) (by omega)).mono ?_; rintro e w' ⟨rfl, rfl⟩))
    go_ret
    exact ⟨by first | rfl | simp, hb1⟩

end Go.Proofs.Ytfkbibjbdibcjaa
