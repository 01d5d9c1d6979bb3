/- The walks of the rounded divisions of the program and of the reference: each hands back the quotient, or the remainder, that is rounded down; the divisor lies from 1 to 1000000, the number within 10^18. -/
import Derived.Test.YtfkbibjbdibcjaaRows
import Derived.Test.YtfkbibjbdibcjaaDiv
import Derived.WalkKit
import Derived.WalkSpells
import Derived.WalkLawsBesides
import Derived.Lib.Hide
import Derived.Deep.QuietTactic
import Derived.BigQuiet
namespace Go.Proofs.Ytfkbibjbdibcjaa
open Go.RowKit

theorem ret_int {k : IntKind} {a b : Int} (h : a = b) : Ending.returned (.int k a) = .returned (.int k b) := by rw [h]
theorem ret_bool {a b : Bool} (h : a = b) : Ending.returned (.bool a) = .returned (.bool b) := by rw [h]theorem ret_two {a b c d : Int} (h : a = c) (g : b = d) : Ending.returned (.tuple #[.int .i64 a, .int .i64 b]) = .returned (.tuple #[.int .i64 c, .int .i64 d]) := by rw [h, g]

/-- A callee that leaves the world as it was, within a region that draws its order: the first one, and one behind it. -/
theorem stillFirst {P : Program} {f : FuncId} {args : Array Value} {w : World} {n : Nat} {v : Value}
    (h : Calls P f args (w.drewN n) fun e w' => e = .returned v ∧ w.drewN n = w') : Calls P f args (w.drewN n) fun e w'' => e = .returned v ∧ ∃ m, w'' = w.drewN m :=
  h.mono fun _ _ hh => ⟨hh.1, n, hh.2.symm⟩
theorem stillLater {P : Program} {f : FuncId} {args : Array Value} {w : World} {a n : Nat} {v : Value}
    (h : Calls P f args (w.drewN (a + n)) fun e w' => e = .returned v ∧ w.drewN (a + n) = w') : Calls P f args (w.drewN (a + n)) fun e w'' => e = .returned v ∧ ∃ m, w'' = w.drewN (a + m) :=
  h.mono fun _ _ hh => ⟨hh.1, n, hh.2.symm⟩
theorem drawnBelow {B : Nat} {a w : World} (h : Below B a w) (n : Nat) : Below B a (w.drewN n) := ⟨h.os, h.tape, h.output, h.size, h.block⟩
theorem belowSame {W w1 : World} (hb : Below W.heap.size W w1) : (∀ b o, b < W.heap.size → w1.cell? ⟨b, o, none⟩ = W.cell? ⟨b, o, none⟩) ∧ (∀ b o, b < W.heap.size → w1.frozen? ⟨b, o, none⟩ = W.frozen? ⟨b, o, none⟩) :=
  ⟨fun b o h => hb.cell (p := ⟨b, o, none⟩) h, fun b o h => hb.frozen (p := ⟨b, o, none⟩) h⟩

set_option maxHeartbeats 400000 in
theorem floor_any (a b : Int) (w : World) (hb0 : 0 < b) (hb1 : b ≤ 1000000) (h0 : -1000000000000000000 ≤ a) (h1 : a ≤ 1000000000000000000) :
    Calls Try.prog 48 #[.int .i64 a, .int .i64 b] w fun e w' => e = .returned (.int .i64 (a / b)) ∧ w = w' := by
  have hin := Div.ediv_in hb0 h0 h1
  have hb : (b == 0) = false := beq_eq_false_iff_ne.mpr (by omega)
  have hbs : decide (b < 0) = false := decide_eq_false (by omega)
  by_cases ha : 0 ≤ a
  · have has : decide (a < 0) = false := decide_eq_false (by omega)
    go_enter Try.func48, Try.ntmps48
    go_wp2
    all_goals (go_ret; exact ⟨rfl, rfl⟩)
  · have has : decide (a < 0) = true := decide_eq_true (by omega)
    by_cases hm : a.tmod b = 0
    · have hq := Div.tdiv_low hm
      have hm0 : (a.tmod b == 0) = true := beq_iff_eq.mpr hm
      have hm1 : (a.tmod b != 0) = false := bne_eq_false_iff_eq.mpr hm
      clear hm
      go_enter Try.func48, Try.ntmps48
      go_wp2
      go_ret
      exact ⟨rfl, rfl⟩
    · have hq := Div.tdiv_less hb0 (by omega) hm
      have hm0 : (a.tmod b == 0) = false := beq_eq_false_iff_ne.mpr hm
      have hm1 : (a.tmod b != 0) = true := bne_iff_ne.mpr hm
      clear hm
      go_enter Try.func48, Try.ntmps48
      go_wp2
      go_ret
      exact ⟨ret_int (by omega), rfl⟩

set_option maxHeartbeats 400000 in
theorem mod_any (a b : Int) (w : World) (hb0 : 0 < b) (hb1 : b ≤ 1000000) (h0 : -1000000000000000000 ≤ a) (h1 : a ≤ 1000000000000000000) :
    Calls Try.prog 44 #[.int .i64 a, .int .i64 b] w fun e w' => e = .returned (.int .i64 (a % b)) ∧ w = w' := by
  have hin := Div.ediv_in hb0 h0 h1
  have hn := Div.mul_near (a := a) hb0
  have he := Int.mul_ediv_add_emod a b
  go_enter Try.func44, Try.ntmps44
  go_wp2_with (go_at_call 48; refine (floor_any _ _ _ (by omega) (by omega) (by omega) (by omega)).mono ?_; rintro e w' ⟨rfl, rfl⟩)
  go_ret
  exact ⟨ret_int (by omega), rfl⟩

set_option maxHeartbeats 400000 in
theorem rfloor_any (a b : Int) (w : World) (hb0 : 0 < b) (hb1 : b ≤ 1000000) (h0 : -1000000000000000000 ≤ a) (h1 : a ≤ 1000000000000000000) :
    Calls Try.prog 50 #[.int .i64 a, .int .i64 b] w fun e w' => e = .returned (.int .i64 (a / b)) ∧ w = w' := by
  have hin := Div.ediv_in hb0 h0 h1
  have hb : (b == 0) = false := beq_eq_false_iff_ne.mpr (by omega)
  have hn := Div.mul_near (a := a) hb0
  have hc := Int.mul_comm b (a / b)
  by_cases ha : 0 ≤ a
  · have hx : a / b * b ≤ a := by omega
    have hp := (Div.ediv_le hb0 ha).1
    have hy : 0 ≤ a / b * b := Int.mul_nonneg hp (by omega)
    clear hn hc
    go_enter Try.func50, Try.ntmps50
    go_wp2
    all_goals (go_ret; exact ⟨rfl, rfl⟩)
  · by_cases hm : a.tmod b = 0
    · have hq := Div.tdiv_low hm
      have hx : a / b * b ≤ a := by omega
      have hz : -2000000000000000000 ≤ a / b * b := by omega
      clear hm hn hc
      go_enter Try.func50, Try.ntmps50
      go_wp2
      all_goals (go_ret; exact ⟨rfl, rfl⟩)
    · have hq := Div.tdiv_less hb0 (by omega) hm
      have hd : (a / b + 1) * b = a / b * b + b := by rw [Int.add_mul]; omega
      have hx : a < (a / b + 1) * b := by omega
      have hz : (a / b + 1) * b ≤ 2000000000000000000 := by omega
      clear hm hn hc hd
      go_enter Try.func50, Try.ntmps50
      go_wp2
      all_goals (go_ret; exact ⟨ret_int (by omega), rfl⟩)

set_option maxHeartbeats 400000 in
theorem rmod_any (a b : Int) (w : World) (hb0 : 0 < b) (hb1 : b ≤ 1000000) (h0 : -1000000000000000000 ≤ a) (h1 : a ≤ 1000000000000000000) :
    Calls Try.prog 33 #[.int .i64 a, .int .i64 b] w fun e w' => e = .returned (.int .i64 (a % b)) ∧ w = w' := by
  have hin := Div.ediv_in hb0 h0 h1
  have hn := Div.mul_near (a := a) hb0
  have he := Int.mul_ediv_add_emod a b
  go_enter Try.func33, Try.ntmps33
  go_wp2_with (go_at_call 50; refine (rfloor_any _ _ _ (by omega) (by omega) (by omega) (by omega)).mono ?_; rintro e w' ⟨rfl, rfl⟩)
  go_ret
  exact ⟨ret_int (by omega), rfl⟩
end Go.Proofs.Ytfkbibjbdibcjaa
