/- For every date FromHebrew hands back the day, or the error, that the reference does: for every input the statement's function returns true, and its argument reads behind the call as it read before; no condition. -/
import Derived.Test.YtfkbibjbdibcjaaRows
import Derived.Test.YtfkbibjbdibcjaaHebrewLaws
import Derived.WalkKit
import Derived.ProofKit
import Derived.OpenShut
import Derived.ShutString
import Derived.ChangeOld
import Derived.Below
import Derived.SizedLaws
import Derived.Lib.SmallJoins
namespace Go.Proofs.Ytfkbibjbdibcjaa.hebrewDays
open Go.ChangeShapes Go.WideShapes Go.ChangeAt Go.RowKit Go.Joins
set_option linter.unusedVariables false
theorem own : ownKnob Try.prog.godebug = none := by kernel_rfl
theorem cells_date : Try.prog.cellsOf 23 = 3 := by kernel_rfl
set_option maxRecDepth 100000 in
theorem lifted (os : Os) (started : os.Started) (H : Type) (enc : TypeId × Value → H) :
    ReturnsInHanded {} Try.checked os 15 .any (Rows.hebrewDaysSpec.pre6 enc Try.prog Try.f15 Rows.hebrewDaysRow.domain false) (Rows.hebrewDaysSpec.post enc Try.prog Try.f15 false true false false) := by
  refine returnsInHanded_of_change_sized (C := Try.checked) own started (by kernel_rfl) Try.func15
    (ChangeSpec.witness6 (enc := enc) (C := Try.checked) false ⟨#[], #[.agg #[.int .i64 0, .int .i64 0, .int .i64 0]], []⟩ 8 (by kernel_rfl) (by kernel_rfl) (by kernel_rfl) (by kernel_rfl)) ?_
  intro W base args ds gs before hval0 hW hcnd hsz0 _
  have hsz : (DataW.weightsEach Try.prog (Try.f15.params.toList ++ Rows.hebrewDaysSpec.plain.varTypes Try.prog) (ds ++ gs)).all (· ≤ reachBytes) = true := hsz0
  have hval : ∀ (j : Nat) t v, Try.f15.params[j]? = some t → args[j]? = some v → Value.okWide Try.prog W .any base t v := hval0
  have hW' := hW
  obtain ⟨p, q, hA0, hV, rfl, hfz, hnd⟩ := hW
  have hA : DataW.TrodAll enc Try.prog W 0 (fun _ => true) true Try.f15.params.toList args.toList ds p := hA0
  rw [Try.params15] at hA hval hsz
  obtain ⟨v0, vs0, d0, ds0, p0, q0, hargs, rfl, rfl, h0, r0⟩ := trodAll_cons hA
  obtain ⟨rfl, rfl, rfl⟩ := trodAll_nil r0
  obtain rfl : args = #[v0] := by cases args; simp_all
  obtain ⟨rfl, rfl⟩ := trodVars_none hV
  obtain ⟨c00, c01, c02, y00, y01, y02, m0, rfl, rfl, rfl, t00, t01, t02⟩ := open_agg3 Try.underlying23 (by kernel_rfl) cells_date (hval 0 23 v0 rfl rfl) h0
  obtain ⟨a0, e00, rfl, w00⟩ := DataW.trod_int Try.underlying3 t00
  obtain ⟨b0, e01, rfl, w01⟩ := DataW.trod_int Try.underlying3 t01
  obtain ⟨g0, e02, rfl, w02⟩ := DataW.trod_int Try.underlying3 t02
  simp only [List.cons.injEq, and_true] at e00 e01 e02
  subst e00 e01 e02
  clear hA0 hval0 hsz0 hsz
  refine (hebrewDays_walk a0 b0 g0 W).mono fun e W' ⟨he, bel⟩ => ?_
  subst he
  exact ⟨_, rfl, _, _, _, [], _, [], hW', trodAll_mk1 (shut_bool Try.underlying4 _), (trodAll_cons_mk (shut_agg3 (y0 := (.lit (.int .i64 a0), [])) (y1 := (.lit (.int .i64 b0), [])) (y2 := (.lit (.int .i64 g0), [])) Try.underlying23 (by kernel_rfl) cells_date (shut_int Try.underlying3 w00) (shut_int Try.underlying3 w01) (shut_int Try.underlying3 w02)) (trodAll_mk0)), rfl, bel.frame _, fun h => by cases h⟩
theorem over : Rows.hebrewDaysRow.holds Try.pinned (OpenSpec.ofChange Rows.hebrewDaysSpec) :=
  OpenClaim.holds_of_wide 15 Try.f15 rfl rfl rfl rfl rfl rfl rfl ⟨rfl, rfl, rfl, rfl, rfl⟩ rfl rfl rfl rfl rfl (by kernel_rfl) Try.func15 (by kernel_rfl)
    (of_decide_eq_true (by kernel_rfl)) (by unfold Func.isWrapper; first | (rw [if_pos (by decide +kernel)]; kernel_rfl) | (rw [if_neg (by decide +kernel)]; exact ⟨rfl, rfl⟩))
    (fun os started H enc _ => lifted os started H enc)
end Go.Proofs.Ytfkbibjbdibcjaa.hebrewDays
namespace Go.Proofs.Ytfkbibjbdibcjaa
/-- The statement. -/
theorem hebrewDays_holds : Rows.HebrewDaysSaid := hebrewDays.over
#print axioms hebrewDays_holds
end Go.Proofs.Ytfkbibjbdibcjaa
