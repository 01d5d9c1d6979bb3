/- The walk of the statement on the Persian leap years: it hands back true. -/
import Derived.Test.YtfkbibjbdibcjaaPersianLaws
namespace Go.Proofs.Ytfkbibjbdibcjaa
open Go.RowKit

theorem Pers.len_leap {y : Int} (h : Pers.lp y = true) : Pers.len y 12 = 30 := by unfold Pers.len; rw [if_neg (by decide), if_neg (by decide), if_pos (Or.inr h)]
theorem Pers.len_plain {y : Int} (h : Pers.lp y = false) : Pers.len y 12 = 29 := by unfold Pers.len; rw [if_neg (by decide), if_neg (by decide), if_neg (by simp [h])]

set_option maxHeartbeats 1000000 in
theorem persianLeaps_out (y : Int) (w : World) (h : y < -10000 ∨ 20000 < y ∨ y = 0) :
    Calls Try.prog 9 #[.int .i64 y] w fun e w' => e = .returned (.bool true) ∧ Below w.heap.size w w' := by
  have HL := Lib.hid (Pers.leap_out (Pers.right_no h))
  by_cases a : y < -10000
  · clear h
    have g0 : decide (y < -10000) = true := decide_eq_true a
    go_enter Try.func9, Try.ntmps9
    go_wp2_with (first | (go_at_call 27; refine (persAwake_any _).mono ?_; rintro e w1 ⟨rfl, hb1⟩) | (go_at_call 29; refine (persLeap_any _ _).mono ?_; rw [HL.out]; rintro e w' ⟨rfl, rfl⟩))
    go_ret
    exact ⟨rfl, hb1⟩
  · have g0 : decide (y < -10000) = false := decide_eq_false a
    by_cases b : 20000 < y
    · clear h
      have g1 : decide (20000 < y) = true := decide_eq_true b
      go_enter Try.func9, Try.ntmps9
      go_wp2_with (first | (go_at_call 27; refine (persAwake_any _).mono ?_; rintro e w1 ⟨rfl, hb1⟩) | (go_at_call 29; refine (persLeap_any _ _).mono ?_; rw [HL.out]; rintro e w' ⟨rfl, rfl⟩))
      go_ret
      exact ⟨rfl, hb1⟩
    · have c : y = 0 := by omega
      clear h
      subst c
      clear a b g0
      go_enter Try.func9, Try.ntmps9
      go_wp2_with (first | (go_at_call 27; refine (persAwake_any _).mono ?_; rintro e w1 ⟨rfl, hb1⟩) | (go_at_call 29; refine (persLeap_any _ _).mono ?_; rw [HL.out]; rintro e w' ⟨rfl, rfl⟩))
      go_ret
      exact ⟨rfl, hb1⟩

set_option maxHeartbeats 1000000 in
theorem persianLeaps_in (y : Int) (w : World) (h0 : -10000 ≤ y) (h1 : y ≤ 20000) (h2 : y ≠ 0) :
    Calls Try.prog 9 #[.int .i64 y] w fun e w' => e = .returned (.bool true) ∧ Below w.heap.size w w' := by
  have hl := Pers.leap_in (Pers.right_yes h0 h1 h2)
  have g0 : decide (y < -10000) = false := decide_eq_false (by omega)
  have g1 : decide (20000 < y) = false := decide_eq_false (by omega)
  have g2 : (y == 0) = false := beq_eq_false_iff_ne.mpr h2
  clear h2
  cases hp : Pers.lp y
  · have HA := Lib.hid (hl.trans hp)
    have HB := Lib.hid (Pers.len_plain hp)
    clear hl hp
    go_enter Try.func9, Try.ntmps9
    go_wp2_with (first | (go_at_call 27; refine (persAwake_any _).mono ?_; rintro e w1 ⟨rfl, hb1⟩) | (go_at_call 29; refine (persLeap_any _ _).mono ?_; rw [HA.out]; rintro e w' ⟨rfl, rfl⟩) | (go_at_call 23; refine (rLength5_any _ _ _ (by omega) (by omega)).mono ?_; rw [HB.out]; rintro e w' ⟨rfl, rfl⟩))
    go_ret
    exact ⟨rfl, hb1⟩
  · have HA := Lib.hid (hl.trans hp)
    have HB := Lib.hid (Pers.len_leap hp)
    clear hl hp
    go_enter Try.func9, Try.ntmps9
    go_wp2_with (first | (go_at_call 27; refine (persAwake_any _).mono ?_; rintro e w1 ⟨rfl, hb1⟩) | (go_at_call 29; refine (persLeap_any _ _).mono ?_; rw [HA.out]; rintro e w' ⟨rfl, rfl⟩) | (go_at_call 23; refine (rLength5_any _ _ _ (by omega) (by omega)).mono ?_; rw [HB.out]; rintro e w' ⟨rfl, rfl⟩))
    go_ret
    exact ⟨rfl, hb1⟩

theorem persianLeaps_walk (y : Int) (w : World) :
    Calls Try.prog 9 #[.int .i64 y] w fun e w' => e = .returned (.bool true) ∧ Below w.heap.size w w' := by
  by_cases h : -10000 ≤ y ∧ y ≤ 20000 ∧ y ≠ 0
  · exact persianLeaps_in y w h.1 h.2.1 h.2.2
  · exact persianLeaps_out y w (by omega)

end Go.Proofs.Ytfkbibjbdibcjaa
