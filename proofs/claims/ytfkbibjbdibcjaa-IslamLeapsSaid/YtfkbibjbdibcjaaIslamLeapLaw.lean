/- The walk of the statement on the Islamic leap years: it hands back true. -/
import Derived.Test.YtfkbibjbdibcjaaIslamLaws
namespace Go.Proofs.Ytfkbibjbdibcjaa.Isl

/-- How many of the first k years from y on, up to 20000, are leap years. -/
def cnt (y : Int) : Nat → Int
  | 0 => 0
  | k + 1 => cnt y k + if y + k ≤ 20000 ∧ lp (y + k) = true then 1 else 0
/-- How many of the first k years from y on are leap years. -/
def all (y : Int) : Nat → Int
  | 0 => 0
  | k + 1 => all y k + if lp (y + k) = true then 1 else 0
theorem cnt_in (y : Int) (k : Nat) : 0 ≤ cnt y k ∧ cnt y k ≤ k := by
  induction k with
  | zero => simp [cnt]
  | succ k ih => unfold cnt; split <;> omega
theorem cnt_all (y : Int) (k : Nat) (h : y + k ≤ 20001) : cnt y k = all y k := by
  induction k with
  | zero => rfl
  | succ k ih =>
    unfold cnt all
    rw [ih (by omega)]
    by_cases g : lp (y + k) = true
    · rw [if_pos ⟨by omega, g⟩, if_pos g]
    · rw [if_neg (fun x => g x.2), if_neg g]
theorem lp_same (q r : Int) (k : Nat) : lp (30 * q + r + k) = lp (r + k) := by
  unfold lp
  rw [show (14 + 11 * (30 * q + r + k)) % 30 = (14 + 11 * (r + k)) % 30 by omega]
theorem all_same (q r : Int) (k : Nat) : all (30 * q + r) k = all r k := by
  induction k with
  | zero => rfl
  | succ k ih => unfold all; rw [ih, lp_same]
theorem all_eleven : ∀ r : Fin 30, all ((r : Nat) : Int) 30 = 11 := by decide
theorem cnt_eleven (y : Int) (h : y ≤ 19971) : cnt y 30 = 11 := by
  rw [cnt_all y 30 (by omega), show y = 30 * (y / 30) + y % 30 by omega, all_same]
  have := all_eleven ⟨(y % 30).toNat, by omega⟩
  simp only at this
  rw [show (((y % 30).toNat : Nat) : Int) = y % 30 by omega] at this
  exact this
theorem len_leap {y : Int} (h : lp y = true) : len y 12 = 30 := by unfold len; rw [if_neg (by decide), if_pos (Or.inr ⟨rfl, h⟩)]
theorem len_plain {y : Int} (h : lp y = false) : len y 12 = 29 := by unfold len; rw [if_neg (by decide), if_neg (by simp [h])]
theorem cnt_yes {y : Int} {k : Nat} (h : y + k ≤ 20000) (g : lp (y + k) = true) : cnt y (k + 1) = cnt y k + 1 := by rw [cnt, if_pos ⟨h, g⟩]
theorem cnt_no {y : Int} {k : Nat} (g : ¬ (y + k ≤ 20000 ∧ lp (y + k) = true)) : cnt y (k + 1) = cnt y k := by rw [cnt, if_neg g]; omega

end Go.Proofs.Ytfkbibjbdibcjaa.Isl
namespace Go.Proofs.Ytfkbibjbdibcjaa
open Go.RowKit

set_option maxHeartbeats 400000 in
theorem islamLeaps_out (y : Int) (w : World) (h : y < -10000 ∨ 20000 < y) :
    Calls Try.prog 4 #[.int .i64 y] w fun e w' => e = .returned (.bool true) ∧ Below w.heap.size w w' := by
  have HL := Lib.hid (Isl.leap_out h)
  by_cases a : y < -10000
  · clear h
    have g0 : decide (y < -10000) = true := decide_eq_true a
    go_enter Try.func4, Try.ntmps4
    go_wp2_with (first | (go_at_call 19; refine (islAwake_any _).mono ?_; rintro e w1 ⟨rfl, hb1⟩) | (go_at_call 22; refine (islLeap_any _ _).mono ?_; rw [HL.out]; rintro e w' ⟨rfl, rfl⟩))
    go_ret
    exact ⟨rfl, hb1⟩
  · have g0 : decide (y < -10000) = false := decide_eq_false a
    have b : 20000 < y := by omega
    clear h
    have g1 : decide (20000 < y) = true := decide_eq_true b
    go_enter Try.func4, Try.ntmps4
    go_wp2_with (first | (go_at_call 19; refine (islAwake_any _).mono ?_; rintro e w1 ⟨rfl, hb1⟩) | (go_at_call 22; refine (islLeap_any _ _).mono ?_; rw [HL.out]; rintro e w' ⟨rfl, rfl⟩))
    go_ret
    exact ⟨rfl, hb1⟩

set_option maxHeartbeats 2000000 in
theorem islamLeaps_in (y : Int) (w : World) (h0 : -10000 ≤ y) (h1 : y ≤ 20000) :
    Calls Try.prog 4 #[.int .i64 y] w fun e w' => e = .returned (.bool true) ∧ Below w.heap.size w w' := by
  have g0 : decide (y < -10000) = false := decide_eq_false (by omega)
  have g1 : decide (20000 < y) = false := decide_eq_false (by omega)
  go_enter Try.func4, Try.ntmps4
  go_wp2_with fail
  refine (islAwake_any _).mono ?_
  rintro e w1 ⟨rfl, hb1⟩
  go_wp2_with fail
  go_loop [3, 16] (fun p q => ∃ k : Nat, k ≤ 30 ∧ p = .int .i64 (Isl.cnt y k) ∧ q = .int .i64 k) (fun _ q => (30 - intOf q).toNat)
  case atStart => exact ⟨0, by omega, rfl, rfl⟩
  case round =>
    obtain ⟨k, hk, rfl, rfl⟩ := hrel
    have hc := Isl.cnt_in y k
    by_cases hlt : k < 30
    · by_cases hy : y + k ≤ 20000
      · by_cases hl : Isl.lp (y + k) = true
        · have HL := Lib.hid (show Isl.leap (y + k) = true by rw [Isl.leap_in (by omega) hy]; exact hl)
          have HN := Lib.hid (Isl.cnt_yes hy hl)
          clear hl
          go_wp2_with (go_at_call 22; refine (islLeap_any _ _).mono ?_; rw [HL.out]; rintro e w' ⟨rfl, rfl⟩)
          go_round
          case rel => exact ⟨k + 1, by omega, by rw [HN.out], by go_num⟩
          case measure => simp [intOf]; omega
        · have HL := Lib.hid (show Isl.leap (y + k) = false by rw [Isl.leap_in (by omega) hy]; simpa using hl)
          have HN := Lib.hid (Isl.cnt_no (y := y) (k := k) (fun x => hl x.2))
          clear hl
          go_wp2_with (go_at_call 22; refine (islLeap_any _ _).mono ?_; rw [HL.out]; rintro e w' ⟨rfl, rfl⟩)
          go_round
          case rel => exact ⟨k + 1, by omega, by rw [HN.out], by go_num⟩
          case measure => simp [intOf]; omega
      · have HN := Lib.hid (Isl.cnt_no (y := y) (k := k) (fun x => hy x.1))
        go_wp2_with fail
        go_round
        case rel => exact ⟨k + 1, by omega, by rw [HN.out], by go_num⟩
        case measure => simp [intOf]; omega
    · obtain rfl : k = 30 := by omega
      have hin := Isl.leap_in h0 h1
      have HLL := Lib.hid (fun h => Isl.len_leap (y := y) h)
      have HLP := Lib.hid (fun h => Isl.len_plain (y := y) h)
      have HE := Lib.hid (fun h => Isl.cnt_eleven y h)
      by_cases hl : Isl.lp y = true
      · have HA := Lib.hid (hin.trans hl)
        have HB := Lib.hid (HLL.out hl)
        clear hin hl
        by_cases hy : 19971 < y
        · by_cases he : Isl.cnt y 30 = 11
          · have gc : (Isl.cnt y 30 == 11) = true := beq_iff_eq.mpr he
            clear he
            go_wp2_with (first | (go_at_call 22; refine (islLeap_any _ _).mono ?_; rw [HA.out]; rintro e w' ⟨rfl, rfl⟩) | (go_at_call 23; refine (rLength4_any _ _ _ (by omega) (by omega)).mono ?_; rw [HB.out]; rintro e w' ⟨rfl, rfl⟩))
            go_ret
            exact ⟨rfl, hb1⟩
          · have gc : (Isl.cnt y 30 == 11) = false := beq_eq_false_iff_ne.mpr he
            clear he
            go_wp2_with (first | (go_at_call 22; refine (islLeap_any _ _).mono ?_; rw [HA.out]; rintro e w' ⟨rfl, rfl⟩) | (go_at_call 23; refine (rLength4_any _ _ _ (by omega) (by omega)).mono ?_; rw [HB.out]; rintro e w' ⟨rfl, rfl⟩))
            go_ret
            exact ⟨rfl, hb1⟩
        · have gc : (Isl.cnt y 30 == 11) = true := beq_iff_eq.mpr (HE.out (by omega))
          go_wp2_with (first | (go_at_call 22; refine (islLeap_any _ _).mono ?_; rw [HA.out]; rintro e w' ⟨rfl, rfl⟩) | (go_at_call 23; refine (rLength4_any _ _ _ (by omega) (by omega)).mono ?_; rw [HB.out]; rintro e w' ⟨rfl, rfl⟩))
          go_ret
          exact ⟨rfl, hb1⟩
      · have hf : Isl.lp y = false := by simpa using hl
        have HA := Lib.hid (hin.trans hf)
        have HB := Lib.hid (HLP.out hf)
        clear hin hl hf
        by_cases hy : 19971 < y
        · by_cases he : Isl.cnt y 30 = 11
          · have gc : (Isl.cnt y 30 == 11) = true := beq_iff_eq.mpr he
            clear he
            go_wp2_with (first | (go_at_call 22; refine (islLeap_any _ _).mono ?_; rw [HA.out]; rintro e w' ⟨rfl, rfl⟩) | (go_at_call 23; refine (rLength4_any _ _ _ (by omega) (by omega)).mono ?_; rw [HB.out]; rintro e w' ⟨rfl, rfl⟩))
            go_ret
            exact ⟨rfl, hb1⟩
          · have gc : (Isl.cnt y 30 == 11) = false := beq_eq_false_iff_ne.mpr he
            clear he
            go_wp2_with (first | (go_at_call 22; refine (islLeap_any _ _).mono ?_; rw [HA.out]; rintro e w' ⟨rfl, rfl⟩) | (go_at_call 23; refine (rLength4_any _ _ _ (by omega) (by omega)).mono ?_; rw [HB.out]; rintro e w' ⟨rfl, rfl⟩))
            go_ret
            exact ⟨rfl, hb1⟩
        · have gc : (Isl.cnt y 30 == 11) = true := beq_iff_eq.mpr (HE.out (by omega))
          go_wp2_with (first | (go_at_call 22; refine (islLeap_any _ _).mono ?_; rw [HA.out]; rintro e w' ⟨rfl, rfl⟩) | (go_at_call 23; refine (rLength4_any _ _ _ (by omega) (by omega)).mono ?_; rw [HB.out]; rintro e w' ⟨rfl, rfl⟩))
          go_ret
          exact ⟨rfl, hb1⟩

theorem islamLeaps_walk (y : Int) (w : World) :
    Calls Try.prog 4 #[.int .i64 y] w fun e w' => e = .returned (.bool true) ∧ Below w.heap.size w w' := by
  by_cases h : -10000 ≤ y ∧ y ≤ 20000
  · exact islamLeaps_in y w h.1 h.2
  · exact islamLeaps_out y w (by omega)

end Go.Proofs.Ytfkbibjbdibcjaa
