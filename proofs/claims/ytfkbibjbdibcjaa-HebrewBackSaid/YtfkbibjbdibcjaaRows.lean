/-
  No cell of these rows narrows 'for every input' (looked for: loops, veiled, ifaces, maps, wideKeys, modest, calm, conditions, laid).
  DERIVED. THE GIVEN ROWS OF THIS SEAT. 16 by the template 'for every input the law returns true; each argument reads behind the call as it read before'; 0 by the template 'total and deterministic' (their statements: YtfkbibjbdibcjaaTotals.lean).
  GIVEN WITH THE SEED: the statements are not yours to turn. If you find one false, say at which input.
  Laid BY PROGRAM, IN A SANDBOX (cutbox-rows.mjs): the forced cells as the released guide's own fill.sh prints them over the translation ad418b1c390edd2d… (all of the seat's roots in one cut). By AI agents, Wed Nov 11 2026. No macro, syntax, notation, axiom, sorry.
-/
import Derived.Test.YtfkbibjbdibcjaaChecked
import GoSem.Claim
import GoSem.ClaimJoined
import GoSem.ClaimMapViews
import Derived.JoinedTies
import Derived.KernelRfl
namespace Go.Proofs.Ytfkbibjbdibcjaa
/- THE CELL 'sum', in the pinned program and in every row, IS THE sha256 OF THE DUMP (.gsa) THAT YtfkbibjbdibcjaaProg.lean LOADS. Nothing in Lean hashes anything: it is a label: what it is worth is what the hold of that sum in a sandbox is worth. -/
noncomputable def Try.pinned : Pinned := { name := "ytfkbibjbdibcjaa", sum := "ad418b1c390edd2d3228a0d01b5029c9e98d94078c207ee6e7e9120e8c202a3d", checked := Try.checked }
namespace Rows
def none {H : Type} : Left H := { results := [], args := [] }

/-- 'trystlaw04.IslamDays': WHATEVER THE INPUT: true; the input reads as it did. -/
def islamDaysSpec : ChangeSpec := { name := "islamDays", fn := fun _ => fun
  | [d] => { results := [.lit (.bool true)], args := [d] }
  | _ => none }
def islamDaysRow : OpenClaim := { program := "ytfkbibjbdibcjaa", sum := "ad418b1c390edd2d3228a0d01b5029c9e98d94078c207ee6e7e9120e8c202a3d", func := "tryst/trystlaw04.IslamDays", spec := "islamDays", apart := false }
def IslamDaysSaid : Prop := islamDaysRow.holds Try.pinned (OpenSpec.ofChange islamDaysSpec)

/-- ITS FALSE NEIGHBOUR: 'it returns false'. Refute it at one input. -/
def islamDaysWrong : ChangeSpec := { name := "islamDays", fn := fun _ => fun
  | [d] => { results := [.lit (.bool false)], args := [d] }
  | _ => none }
def IslamDaysWrongFalsely : Prop := islamDaysRow.holds Try.pinned (OpenSpec.ofChange islamDaysWrong)

/-- 'trystlaw04.IslamLeaps': WHATEVER THE INPUT: true; the input reads as it did. -/
def islamLeapsSpec : ChangeSpec := { name := "islamLeaps", fn := fun _ => fun
  | [d] => { results := [.lit (.bool true)], args := [d] }
  | _ => none }
def islamLeapsRow : OpenClaim := { program := "ytfkbibjbdibcjaa", sum := "ad418b1c390edd2d3228a0d01b5029c9e98d94078c207ee6e7e9120e8c202a3d", func := "tryst/trystlaw04.IslamLeaps", spec := "islamLeaps", apart := false }
def IslamLeapsSaid : Prop := islamLeapsRow.holds Try.pinned (OpenSpec.ofChange islamLeapsSpec)

/-- ITS FALSE NEIGHBOUR: 'it returns false'. Refute it at one input. -/
def islamLeapsWrong : ChangeSpec := { name := "islamLeaps", fn := fun _ => fun
  | [d] => { results := [.lit (.bool false)], args := [d] }
  | _ => none }
def IslamLeapsWrongFalsely : Prop := islamLeapsRow.holds Try.pinned (OpenSpec.ofChange islamLeapsWrong)

/-- 'trystlaw04.IslamDates': WHATEVER THE INPUT: true; the input reads as it did. -/
def islamDatesSpec : ChangeSpec := { name := "islamDates", fn := fun _ => fun
  | [d] => { results := [.lit (.bool true)], args := [d] }
  | _ => none }
def islamDatesRow : OpenClaim := { program := "ytfkbibjbdibcjaa", sum := "ad418b1c390edd2d3228a0d01b5029c9e98d94078c207ee6e7e9120e8c202a3d", func := "tryst/trystlaw04.IslamDates", spec := "islamDates", apart := false }
def IslamDatesSaid : Prop := islamDatesRow.holds Try.pinned (OpenSpec.ofChange islamDatesSpec)

/-- ITS FALSE NEIGHBOUR: 'it returns false'. Refute it at one input. -/
def islamDatesWrong : ChangeSpec := { name := "islamDates", fn := fun _ => fun
  | [d] => { results := [.lit (.bool false)], args := [d] }
  | _ => none }
def IslamDatesWrongFalsely : Prop := islamDatesRow.holds Try.pinned (OpenSpec.ofChange islamDatesWrong)

/-- 'trystlaw04.IslamBack': WHATEVER THE INPUT: true; the input reads as it did. -/
def islamBackSpec : ChangeSpec := { name := "islamBack", fn := fun _ => fun
  | [d1, d2] => { results := [.lit (.bool true)], args := [d1, d2] }
  | _ => none }
def islamBackRow : OpenClaim := { program := "ytfkbibjbdibcjaa", sum := "ad418b1c390edd2d3228a0d01b5029c9e98d94078c207ee6e7e9120e8c202a3d", func := "tryst/trystlaw04.IslamBack", spec := "islamBack", apart := false }
def IslamBackSaid : Prop := islamBackRow.holds Try.pinned (OpenSpec.ofChange islamBackSpec)

/-- ITS FALSE NEIGHBOUR: 'it returns false'. Refute it at one input. -/
def islamBackWrong : ChangeSpec := { name := "islamBack", fn := fun _ => fun
  | [d1, d2] => { results := [.lit (.bool false)], args := [d1, d2] }
  | _ => none }
def IslamBackWrongFalsely : Prop := islamBackRow.holds Try.pinned (OpenSpec.ofChange islamBackWrong)

/-- 'trystlaw04.IslamNext': WHATEVER THE INPUT: true; the input reads as it did. -/
def islamNextSpec : ChangeSpec := { name := "islamNext", fn := fun _ => fun
  | [d] => { results := [.lit (.bool true)], args := [d] }
  | _ => none }
def islamNextRow : OpenClaim := { program := "ytfkbibjbdibcjaa", sum := "ad418b1c390edd2d3228a0d01b5029c9e98d94078c207ee6e7e9120e8c202a3d", func := "tryst/trystlaw04.IslamNext", spec := "islamNext", apart := false }
def IslamNextSaid : Prop := islamNextRow.holds Try.pinned (OpenSpec.ofChange islamNextSpec)

/-- ITS FALSE NEIGHBOUR: 'it returns false'. Refute it at one input. -/
def islamNextWrong : ChangeSpec := { name := "islamNext", fn := fun _ => fun
  | [d] => { results := [.lit (.bool false)], args := [d] }
  | _ => none }
def IslamNextWrongFalsely : Prop := islamNextRow.holds Try.pinned (OpenSpec.ofChange islamNextWrong)

/-- 'trystlaw05.PersianDays': WHATEVER THE INPUT: true; the input reads as it did. -/
def persianDaysSpec : ChangeSpec := { name := "persianDays", fn := fun _ => fun
  | [d] => { results := [.lit (.bool true)], args := [d] }
  | _ => none }
def persianDaysRow : OpenClaim := { program := "ytfkbibjbdibcjaa", sum := "ad418b1c390edd2d3228a0d01b5029c9e98d94078c207ee6e7e9120e8c202a3d", func := "tryst/trystlaw05.PersianDays", spec := "persianDays", apart := false }
def PersianDaysSaid : Prop := persianDaysRow.holds Try.pinned (OpenSpec.ofChange persianDaysSpec)

/-- ITS FALSE NEIGHBOUR: 'it returns false'. Refute it at one input. -/
def persianDaysWrong : ChangeSpec := { name := "persianDays", fn := fun _ => fun
  | [d] => { results := [.lit (.bool false)], args := [d] }
  | _ => none }
def PersianDaysWrongFalsely : Prop := persianDaysRow.holds Try.pinned (OpenSpec.ofChange persianDaysWrong)

/-- 'trystlaw05.PersianLeaps': WHATEVER THE INPUT: true; the input reads as it did. -/
def persianLeapsSpec : ChangeSpec := { name := "persianLeaps", fn := fun _ => fun
  | [d] => { results := [.lit (.bool true)], args := [d] }
  | _ => none }
def persianLeapsRow : OpenClaim := { program := "ytfkbibjbdibcjaa", sum := "ad418b1c390edd2d3228a0d01b5029c9e98d94078c207ee6e7e9120e8c202a3d", func := "tryst/trystlaw05.PersianLeaps", spec := "persianLeaps", apart := false }
def PersianLeapsSaid : Prop := persianLeapsRow.holds Try.pinned (OpenSpec.ofChange persianLeapsSpec)

/-- ITS FALSE NEIGHBOUR: 'it returns false'. Refute it at one input. -/
def persianLeapsWrong : ChangeSpec := { name := "persianLeaps", fn := fun _ => fun
  | [d] => { results := [.lit (.bool false)], args := [d] }
  | _ => none }
def PersianLeapsWrongFalsely : Prop := persianLeapsRow.holds Try.pinned (OpenSpec.ofChange persianLeapsWrong)

/-- 'trystlaw05.PersianDates': WHATEVER THE INPUT: true; the input reads as it did. -/
def persianDatesSpec : ChangeSpec := { name := "persianDates", fn := fun _ => fun
  | [d] => { results := [.lit (.bool true)], args := [d] }
  | _ => none }
def persianDatesRow : OpenClaim := { program := "ytfkbibjbdibcjaa", sum := "ad418b1c390edd2d3228a0d01b5029c9e98d94078c207ee6e7e9120e8c202a3d", func := "tryst/trystlaw05.PersianDates", spec := "persianDates", apart := false }
def PersianDatesSaid : Prop := persianDatesRow.holds Try.pinned (OpenSpec.ofChange persianDatesSpec)

/-- ITS FALSE NEIGHBOUR: 'it returns false'. Refute it at one input. -/
def persianDatesWrong : ChangeSpec := { name := "persianDates", fn := fun _ => fun
  | [d] => { results := [.lit (.bool false)], args := [d] }
  | _ => none }
def PersianDatesWrongFalsely : Prop := persianDatesRow.holds Try.pinned (OpenSpec.ofChange persianDatesWrong)

/-- 'trystlaw05.PersianBack': WHATEVER THE INPUT: true; the input reads as it did. -/
def persianBackSpec : ChangeSpec := { name := "persianBack", fn := fun _ => fun
  | [d1, d2] => { results := [.lit (.bool true)], args := [d1, d2] }
  | _ => none }
def persianBackRow : OpenClaim := { program := "ytfkbibjbdibcjaa", sum := "ad418b1c390edd2d3228a0d01b5029c9e98d94078c207ee6e7e9120e8c202a3d", func := "tryst/trystlaw05.PersianBack", spec := "persianBack", apart := false }
def PersianBackSaid : Prop := persianBackRow.holds Try.pinned (OpenSpec.ofChange persianBackSpec)

/-- ITS FALSE NEIGHBOUR: 'it returns false'. Refute it at one input. -/
def persianBackWrong : ChangeSpec := { name := "persianBack", fn := fun _ => fun
  | [d1, d2] => { results := [.lit (.bool false)], args := [d1, d2] }
  | _ => none }
def PersianBackWrongFalsely : Prop := persianBackRow.holds Try.pinned (OpenSpec.ofChange persianBackWrong)

/-- 'trystlaw05.PersianNext': WHATEVER THE INPUT: true; the input reads as it did. -/
def persianNextSpec : ChangeSpec := { name := "persianNext", fn := fun _ => fun
  | [d] => { results := [.lit (.bool true)], args := [d] }
  | _ => none }
def persianNextRow : OpenClaim := { program := "ytfkbibjbdibcjaa", sum := "ad418b1c390edd2d3228a0d01b5029c9e98d94078c207ee6e7e9120e8c202a3d", func := "tryst/trystlaw05.PersianNext", spec := "persianNext", apart := false }
def PersianNextSaid : Prop := persianNextRow.holds Try.pinned (OpenSpec.ofChange persianNextSpec)

/-- ITS FALSE NEIGHBOUR: 'it returns false'. Refute it at one input. -/
def persianNextWrong : ChangeSpec := { name := "persianNext", fn := fun _ => fun
  | [d] => { results := [.lit (.bool false)], args := [d] }
  | _ => none }
def PersianNextWrongFalsely : Prop := persianNextRow.holds Try.pinned (OpenSpec.ofChange persianNextWrong)

/-- 'trystlaw06.HebrewBegins': WHATEVER THE INPUT: true; the input reads as it did. -/
def hebrewBeginsSpec : ChangeSpec := { name := "hebrewBegins", fn := fun _ => fun
  | [d] => { results := [.lit (.bool true)], args := [d] }
  | _ => none }
def hebrewBeginsRow : OpenClaim := { program := "ytfkbibjbdibcjaa", sum := "ad418b1c390edd2d3228a0d01b5029c9e98d94078c207ee6e7e9120e8c202a3d", func := "tryst/trystlaw06.HebrewBegins", spec := "hebrewBegins", apart := false }
def HebrewBeginsSaid : Prop := hebrewBeginsRow.holds Try.pinned (OpenSpec.ofChange hebrewBeginsSpec)

/-- ITS FALSE NEIGHBOUR: 'it returns false'. Refute it at one input. -/
def hebrewBeginsWrong : ChangeSpec := { name := "hebrewBegins", fn := fun _ => fun
  | [d] => { results := [.lit (.bool false)], args := [d] }
  | _ => none }
def HebrewBeginsWrongFalsely : Prop := hebrewBeginsRow.holds Try.pinned (OpenSpec.ofChange hebrewBeginsWrong)

/-- 'trystlaw06.HebrewYears': WHATEVER THE INPUT: true; the input reads as it did. -/
def hebrewYearsSpec : ChangeSpec := { name := "hebrewYears", fn := fun _ => fun
  | [d1, d2] => { results := [.lit (.bool true)], args := [d1, d2] }
  | _ => none }
def hebrewYearsRow : OpenClaim := { program := "ytfkbibjbdibcjaa", sum := "ad418b1c390edd2d3228a0d01b5029c9e98d94078c207ee6e7e9120e8c202a3d", func := "tryst/trystlaw06.HebrewYears", spec := "hebrewYears", apart := false }
def HebrewYearsSaid : Prop := hebrewYearsRow.holds Try.pinned (OpenSpec.ofChange hebrewYearsSpec)

/-- ITS FALSE NEIGHBOUR: 'it returns false'. Refute it at one input. -/
def hebrewYearsWrong : ChangeSpec := { name := "hebrewYears", fn := fun _ => fun
  | [d1, d2] => { results := [.lit (.bool false)], args := [d1, d2] }
  | _ => none }
def HebrewYearsWrongFalsely : Prop := hebrewYearsRow.holds Try.pinned (OpenSpec.ofChange hebrewYearsWrong)

/-- 'trystlaw06.HebrewDays': WHATEVER THE INPUT: true; the input reads as it did. -/
def hebrewDaysSpec : ChangeSpec := { name := "hebrewDays", fn := fun _ => fun
  | [d] => { results := [.lit (.bool true)], args := [d] }
  | _ => none }
def hebrewDaysRow : OpenClaim := { program := "ytfkbibjbdibcjaa", sum := "ad418b1c390edd2d3228a0d01b5029c9e98d94078c207ee6e7e9120e8c202a3d", func := "tryst/trystlaw06.HebrewDays", spec := "hebrewDays", apart := false }
def HebrewDaysSaid : Prop := hebrewDaysRow.holds Try.pinned (OpenSpec.ofChange hebrewDaysSpec)

/-- ITS FALSE NEIGHBOUR: 'it returns false'. Refute it at one input. -/
def hebrewDaysWrong : ChangeSpec := { name := "hebrewDays", fn := fun _ => fun
  | [d] => { results := [.lit (.bool false)], args := [d] }
  | _ => none }
def HebrewDaysWrongFalsely : Prop := hebrewDaysRow.holds Try.pinned (OpenSpec.ofChange hebrewDaysWrong)

/-- 'trystlaw06.HebrewDates': WHATEVER THE INPUT: true; the input reads as it did. -/
def hebrewDatesSpec : ChangeSpec := { name := "hebrewDates", fn := fun _ => fun
  | [d] => { results := [.lit (.bool true)], args := [d] }
  | _ => none }
def hebrewDatesRow : OpenClaim := { program := "ytfkbibjbdibcjaa", sum := "ad418b1c390edd2d3228a0d01b5029c9e98d94078c207ee6e7e9120e8c202a3d", func := "tryst/trystlaw06.HebrewDates", spec := "hebrewDates", apart := false }
def HebrewDatesSaid : Prop := hebrewDatesRow.holds Try.pinned (OpenSpec.ofChange hebrewDatesSpec)

/-- ITS FALSE NEIGHBOUR: 'it returns false'. Refute it at one input. -/
def hebrewDatesWrong : ChangeSpec := { name := "hebrewDates", fn := fun _ => fun
  | [d] => { results := [.lit (.bool false)], args := [d] }
  | _ => none }
def HebrewDatesWrongFalsely : Prop := hebrewDatesRow.holds Try.pinned (OpenSpec.ofChange hebrewDatesWrong)

/-- 'trystlaw06.HebrewNext': WHATEVER THE INPUT: true; the input reads as it did. -/
def hebrewNextSpec : ChangeSpec := { name := "hebrewNext", fn := fun _ => fun
  | [d] => { results := [.lit (.bool true)], args := [d] }
  | _ => none }
def hebrewNextRow : OpenClaim := { program := "ytfkbibjbdibcjaa", sum := "ad418b1c390edd2d3228a0d01b5029c9e98d94078c207ee6e7e9120e8c202a3d", func := "tryst/trystlaw06.HebrewNext", spec := "hebrewNext", apart := false }
def HebrewNextSaid : Prop := hebrewNextRow.holds Try.pinned (OpenSpec.ofChange hebrewNextSpec)

/-- ITS FALSE NEIGHBOUR: 'it returns false'. Refute it at one input. -/
def hebrewNextWrong : ChangeSpec := { name := "hebrewNext", fn := fun _ => fun
  | [d] => { results := [.lit (.bool false)], args := [d] }
  | _ => none }
def HebrewNextWrongFalsely : Prop := hebrewNextRow.holds Try.pinned (OpenSpec.ofChange hebrewNextWrong)

/-- 'trystlaw06.HebrewBack': WHATEVER THE INPUT: true; the input reads as it did. -/
def hebrewBackSpec : ChangeSpec := { name := "hebrewBack", fn := fun _ => fun
  | [d1, d2] => { results := [.lit (.bool true)], args := [d1, d2] }
  | _ => none }
def hebrewBackRow : OpenClaim := { program := "ytfkbibjbdibcjaa", sum := "ad418b1c390edd2d3228a0d01b5029c9e98d94078c207ee6e7e9120e8c202a3d", func := "tryst/trystlaw06.HebrewBack", spec := "hebrewBack", apart := false }
def HebrewBackSaid : Prop := hebrewBackRow.holds Try.pinned (OpenSpec.ofChange hebrewBackSpec)

/-- ITS FALSE NEIGHBOUR: 'it returns false'. Refute it at one input. -/
def hebrewBackWrong : ChangeSpec := { name := "hebrewBack", fn := fun _ => fun
  | [d1, d2] => { results := [.lit (.bool false)], args := [d1, d2] }
  | _ => none }
def HebrewBackWrongFalsely : Prop := hebrewBackRow.holds Try.pinned (OpenSpec.ofChange hebrewBackWrong)

/- THE SECOND FORM. 'bulk': how many values and letters a reading holds, each counted each time it is reached (what is shared counts as often as it is met; a slice's spare places count too). A statement '..UptoSaid' is the law's where the arguments, and the package variables that the reading takes, are together of bulk at most 1048576: NARROWER than '..Said'. Prove '..Said' where nothing that the law and all that it calls make is longer than what came in: it says more and counts as full. Else prove '..UptoSaid'. A law counts once. -/
mutual
def uptoBulk {H : Type} : DataW H → Nat
  | .lit (.string bytes) => bytes.length + 1
  | .lit _ => 1
  | .nil => 1
  | .ptr d => uptoBulk d + 1
  | .slice elems spare => uptoBulkAll elems + uptoBulkAll spare + 1
  | .agg parts => uptoBulkAll parts + 1
  | .iface _ d => uptoBulk d + 1
  | .map entries => uptoBulkEntries entries + 1
  | .held _ => 1
def uptoBulkAll {H : Type} : List (DataW H) → Nat
  | [] => 0
  | d :: r => uptoBulk d + uptoBulkAll r
def uptoBulkEntries {H : Type} : List (Lit × DataW H) → Nat
  | [] => 0
  | x :: r => uptoBulkEntry x + uptoBulkEntries r
def uptoBulkEntry {H : Type} : Lit × DataW H → Nat
  | (.string bytes, d) => bytes.length + uptoBulk d + 1
  | (_, d) => uptoBulk d + 1
 end
def uptoSmall : (H : Type) → List (DataW H) → Bool := fun _ ds => decide (uptoBulkAll ds ≤ 1048576)
def OpenSpec.upto (s : _root_.Go.ChangeSpec) : _root_.Go.OpenSpec := { _root_.Go.OpenSpec.ofChange s with cond := some uptoSmall }

/-- 'trystlaw04.IslamDays', WHERE WHAT IT READS IS OF BULK AT MOST 1048576: true; the input reads as it did. -/
def islamDaysUptoRow : OpenClaim := { program := "ytfkbibjbdibcjaa", sum := "ad418b1c390edd2d3228a0d01b5029c9e98d94078c207ee6e7e9120e8c202a3d", func := "tryst/trystlaw04.IslamDays", spec := "islamDays", apart := false, narrowed := true }
def IslamDaysUptoSaid : Prop := islamDaysUptoRow.holds Try.pinned (OpenSpec.upto islamDaysSpec)

/-- 'trystlaw04.IslamLeaps', WHERE WHAT IT READS IS OF BULK AT MOST 1048576: true; the input reads as it did. -/
def islamLeapsUptoRow : OpenClaim := { program := "ytfkbibjbdibcjaa", sum := "ad418b1c390edd2d3228a0d01b5029c9e98d94078c207ee6e7e9120e8c202a3d", func := "tryst/trystlaw04.IslamLeaps", spec := "islamLeaps", apart := false, narrowed := true }
def IslamLeapsUptoSaid : Prop := islamLeapsUptoRow.holds Try.pinned (OpenSpec.upto islamLeapsSpec)

/-- 'trystlaw04.IslamDates', WHERE WHAT IT READS IS OF BULK AT MOST 1048576: true; the input reads as it did. -/
def islamDatesUptoRow : OpenClaim := { program := "ytfkbibjbdibcjaa", sum := "ad418b1c390edd2d3228a0d01b5029c9e98d94078c207ee6e7e9120e8c202a3d", func := "tryst/trystlaw04.IslamDates", spec := "islamDates", apart := false, narrowed := true }
def IslamDatesUptoSaid : Prop := islamDatesUptoRow.holds Try.pinned (OpenSpec.upto islamDatesSpec)

/-- 'trystlaw04.IslamBack', WHERE WHAT IT READS IS OF BULK AT MOST 1048576: true; the input reads as it did. -/
def islamBackUptoRow : OpenClaim := { program := "ytfkbibjbdibcjaa", sum := "ad418b1c390edd2d3228a0d01b5029c9e98d94078c207ee6e7e9120e8c202a3d", func := "tryst/trystlaw04.IslamBack", spec := "islamBack", apart := false, narrowed := true }
def IslamBackUptoSaid : Prop := islamBackUptoRow.holds Try.pinned (OpenSpec.upto islamBackSpec)

/-- 'trystlaw04.IslamNext', WHERE WHAT IT READS IS OF BULK AT MOST 1048576: true; the input reads as it did. -/
def islamNextUptoRow : OpenClaim := { program := "ytfkbibjbdibcjaa", sum := "ad418b1c390edd2d3228a0d01b5029c9e98d94078c207ee6e7e9120e8c202a3d", func := "tryst/trystlaw04.IslamNext", spec := "islamNext", apart := false, narrowed := true }
def IslamNextUptoSaid : Prop := islamNextUptoRow.holds Try.pinned (OpenSpec.upto islamNextSpec)

/-- 'trystlaw05.PersianDays', WHERE WHAT IT READS IS OF BULK AT MOST 1048576: true; the input reads as it did. -/
def persianDaysUptoRow : OpenClaim := { program := "ytfkbibjbdibcjaa", sum := "ad418b1c390edd2d3228a0d01b5029c9e98d94078c207ee6e7e9120e8c202a3d", func := "tryst/trystlaw05.PersianDays", spec := "persianDays", apart := false, narrowed := true }
def PersianDaysUptoSaid : Prop := persianDaysUptoRow.holds Try.pinned (OpenSpec.upto persianDaysSpec)

/-- 'trystlaw05.PersianLeaps', WHERE WHAT IT READS IS OF BULK AT MOST 1048576: true; the input reads as it did. -/
def persianLeapsUptoRow : OpenClaim := { program := "ytfkbibjbdibcjaa", sum := "ad418b1c390edd2d3228a0d01b5029c9e98d94078c207ee6e7e9120e8c202a3d", func := "tryst/trystlaw05.PersianLeaps", spec := "persianLeaps", apart := false, narrowed := true }
def PersianLeapsUptoSaid : Prop := persianLeapsUptoRow.holds Try.pinned (OpenSpec.upto persianLeapsSpec)

/-- 'trystlaw05.PersianDates', WHERE WHAT IT READS IS OF BULK AT MOST 1048576: true; the input reads as it did. -/
def persianDatesUptoRow : OpenClaim := { program := "ytfkbibjbdibcjaa", sum := "ad418b1c390edd2d3228a0d01b5029c9e98d94078c207ee6e7e9120e8c202a3d", func := "tryst/trystlaw05.PersianDates", spec := "persianDates", apart := false, narrowed := true }
def PersianDatesUptoSaid : Prop := persianDatesUptoRow.holds Try.pinned (OpenSpec.upto persianDatesSpec)

/-- 'trystlaw05.PersianBack', WHERE WHAT IT READS IS OF BULK AT MOST 1048576: true; the input reads as it did. -/
def persianBackUptoRow : OpenClaim := { program := "ytfkbibjbdibcjaa", sum := "ad418b1c390edd2d3228a0d01b5029c9e98d94078c207ee6e7e9120e8c202a3d", func := "tryst/trystlaw05.PersianBack", spec := "persianBack", apart := false, narrowed := true }
def PersianBackUptoSaid : Prop := persianBackUptoRow.holds Try.pinned (OpenSpec.upto persianBackSpec)

/-- 'trystlaw05.PersianNext', WHERE WHAT IT READS IS OF BULK AT MOST 1048576: true; the input reads as it did. -/
def persianNextUptoRow : OpenClaim := { program := "ytfkbibjbdibcjaa", sum := "ad418b1c390edd2d3228a0d01b5029c9e98d94078c207ee6e7e9120e8c202a3d", func := "tryst/trystlaw05.PersianNext", spec := "persianNext", apart := false, narrowed := true }
def PersianNextUptoSaid : Prop := persianNextUptoRow.holds Try.pinned (OpenSpec.upto persianNextSpec)

/-- 'trystlaw06.HebrewBegins', WHERE WHAT IT READS IS OF BULK AT MOST 1048576: true; the input reads as it did. -/
def hebrewBeginsUptoRow : OpenClaim := { program := "ytfkbibjbdibcjaa", sum := "ad418b1c390edd2d3228a0d01b5029c9e98d94078c207ee6e7e9120e8c202a3d", func := "tryst/trystlaw06.HebrewBegins", spec := "hebrewBegins", apart := false, narrowed := true }
def HebrewBeginsUptoSaid : Prop := hebrewBeginsUptoRow.holds Try.pinned (OpenSpec.upto hebrewBeginsSpec)

/-- 'trystlaw06.HebrewYears', WHERE WHAT IT READS IS OF BULK AT MOST 1048576: true; the input reads as it did. -/
def hebrewYearsUptoRow : OpenClaim := { program := "ytfkbibjbdibcjaa", sum := "ad418b1c390edd2d3228a0d01b5029c9e98d94078c207ee6e7e9120e8c202a3d", func := "tryst/trystlaw06.HebrewYears", spec := "hebrewYears", apart := false, narrowed := true }
def HebrewYearsUptoSaid : Prop := hebrewYearsUptoRow.holds Try.pinned (OpenSpec.upto hebrewYearsSpec)

/-- 'trystlaw06.HebrewDays', WHERE WHAT IT READS IS OF BULK AT MOST 1048576: true; the input reads as it did. -/
def hebrewDaysUptoRow : OpenClaim := { program := "ytfkbibjbdibcjaa", sum := "ad418b1c390edd2d3228a0d01b5029c9e98d94078c207ee6e7e9120e8c202a3d", func := "tryst/trystlaw06.HebrewDays", spec := "hebrewDays", apart := false, narrowed := true }
def HebrewDaysUptoSaid : Prop := hebrewDaysUptoRow.holds Try.pinned (OpenSpec.upto hebrewDaysSpec)

/-- 'trystlaw06.HebrewDates', WHERE WHAT IT READS IS OF BULK AT MOST 1048576: true; the input reads as it did. -/
def hebrewDatesUptoRow : OpenClaim := { program := "ytfkbibjbdibcjaa", sum := "ad418b1c390edd2d3228a0d01b5029c9e98d94078c207ee6e7e9120e8c202a3d", func := "tryst/trystlaw06.HebrewDates", spec := "hebrewDates", apart := false, narrowed := true }
def HebrewDatesUptoSaid : Prop := hebrewDatesUptoRow.holds Try.pinned (OpenSpec.upto hebrewDatesSpec)

/-- 'trystlaw06.HebrewNext', WHERE WHAT IT READS IS OF BULK AT MOST 1048576: true; the input reads as it did. -/
def hebrewNextUptoRow : OpenClaim := { program := "ytfkbibjbdibcjaa", sum := "ad418b1c390edd2d3228a0d01b5029c9e98d94078c207ee6e7e9120e8c202a3d", func := "tryst/trystlaw06.HebrewNext", spec := "hebrewNext", apart := false, narrowed := true }
def HebrewNextUptoSaid : Prop := hebrewNextUptoRow.holds Try.pinned (OpenSpec.upto hebrewNextSpec)

/-- 'trystlaw06.HebrewBack', WHERE WHAT IT READS IS OF BULK AT MOST 1048576: true; the input reads as it did. -/
def hebrewBackUptoRow : OpenClaim := { program := "ytfkbibjbdibcjaa", sum := "ad418b1c390edd2d3228a0d01b5029c9e98d94078c207ee6e7e9120e8c202a3d", func := "tryst/trystlaw06.HebrewBack", spec := "hebrewBack", apart := false, narrowed := true }
def HebrewBackUptoSaid : Prop := hebrewBackUptoRow.holds Try.pinned (OpenSpec.upto hebrewBackSpec)

end Rows
end Go.Proofs.Ytfkbibjbdibcjaa
