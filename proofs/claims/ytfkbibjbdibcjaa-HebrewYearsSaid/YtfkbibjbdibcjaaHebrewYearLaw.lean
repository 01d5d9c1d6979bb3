/- The walk of the statement on the Hebrew years: it hands back true. -/
import Derived.Test.YtfkbibjbdibcjaaHebrewAwake
namespace Go.Proofs.Ytfkbibjbdibcjaa
open Go.RowKit

set_option maxHeartbeats 1000000 in
theorem hebrewYears_low (y m : Int) (w : World) (h : y < 1) :
    Calls Try.prog 14 #[.int .i64 y, .int .i64 m] w fun e w' => e = .returned (.bool true) ∧ Below w.heap.size w w' := by
  have g1 : decide (y < 1) = true := decide_eq_true h
  have hr := Heb.right_no (y := y) (Or.inl h)
  have HR := Lib.hid hr
  have HL := Lib.hid (show Heb.leap y = false by unfold Heb.leap; rw [hr]; rfl)
  have HN := Lib.hid (Heb.lenR_no (y := y) (m := m) hr)
  clear hr
  go_enter Try.func14, Try.ntmps14
  go_wp2_with (first | (go_at_call 31; refine (hebAwake_any _).mono ?_; rintro e w1 ⟨rfl, hb1⟩) | (go_at_call 32; refine (hebBeginsE_out _ _ HR.out).mono ?_; rintro e w' ⟨rfl, rfl⟩) | (go_at_call 34; refine (hebLeap_any _ _).mono ?_; rw [HL.out]; rintro e w' ⟨rfl, rfl⟩) | (go_at_call 35; refine (hebLength_any _ _ _).mono ?_; rw [HN.out]; rintro e w' ⟨rfl, rfl⟩))
  go_ret
  exact ⟨by first | rfl | simp, hb1⟩

set_option maxHeartbeats 1000000 in
theorem hebrewYears_high (y m : Int) (w : World) (h : 20000 < y) :
    Calls Try.prog 14 #[.int .i64 y, .int .i64 m] w fun e w' => e = .returned (.bool true) ∧ Below w.heap.size w w' := by
  have g1 : decide (y < 1) = false := decide_eq_false (by omega)
  have g2 : decide (20000 < y) = true := decide_eq_true h
  have hr := Heb.right_no (y := y) (Or.inr h)
  have HR := Lib.hid hr
  have HL := Lib.hid (show Heb.leap y = false by unfold Heb.leap; rw [hr]; rfl)
  have HN := Lib.hid (Heb.lenR_no (y := y) (m := m) hr)
  clear hr
  go_enter Try.func14, Try.ntmps14
  go_wp2_with (first | (go_at_call 31; refine (hebAwake_any _).mono ?_; rintro e w1 ⟨rfl, hb1⟩) | (go_at_call 32; refine (hebBeginsE_out _ _ HR.out).mono ?_; rintro e w' ⟨rfl, rfl⟩) | (go_at_call 34; refine (hebLeap_any _ _).mono ?_; rw [HL.out]; rintro e w' ⟨rfl, rfl⟩) | (go_at_call 35; refine (hebLength_any _ _ _).mono ?_; rw [HN.out]; rintro e w' ⟨rfl, rfl⟩))
  go_ret
  exact ⟨by first | rfl | simp, hb1⟩

set_option maxHeartbeats 2000000 in
theorem hebrewYears_false (y m : Int) (w : World) (h : Heb.right y = true) (hp : Heb.lp y = false) :
    Calls Try.prog 14 #[.int .i64 y, .int .i64 m] w fun e w' => e = .returned (.bool true) ∧ Below w.heap.size w w' := by
  have hin := Heb.right_in h
  have g1 : decide (y < 1) = false := decide_eq_false (by omega)
  have g2 : decide (20000 < y) = false := decide_eq_false (by omega)
  have hf := Heb.fst_in (y := y) (by omega) (by omega)
  have hf' := Heb.fst_in (y := y + 1) (by omega) (by omega)
  have hdy : 353 ≤ Heb.fst (y + 1) - Heb.fst y ∧ Heb.fst (y + 1) - Heb.fst y ≤ 355 := by
    have := (Heb.year_both y).1
    rw [hp] at this
    have e : Heb.days y = Heb.fst (y + 1) - Heb.fst y := rfl
    simp at this; omega
  have HR := Lib.hid h
  have HL := Lib.hid (show Heb.leap y = false by unfold Heb.leap; rw [h, hp]; rfl)
  have HN := Lib.hid (Heb.lenR_eq (y := y) (m := m) h)
  have HM := Lib.hid (show Heb.last y = 12 by unfold Heb.last; rw [hp]; rfl)
  have HX := Lib.hid (And.intro (Heb.last_ge y) (Heb.last_ge (y + 1)))
  clear h hp
  go_enter Try.func14, Try.ntmps14
  go_wp2_with (first | (go_at_call 31; refine (hebAwake_any _).mono ?_; rintro e w1 ⟨rfl, hb1⟩) | (go_at_call 32; refine (hebBeginsE_in _ _ HR.out).mono ?_; rintro e w' ⟨rfl, rfl⟩) | (go_at_call 34; refine (hebLeap_any _ _).mono ?_; rw [HL.out]; rintro e w' ⟨rfl, rfl⟩) | (go_at_call 35; refine (hebLength_any _ _ _).mono ?_; rw [HN.out]; rintro e w' ⟨rfl, rfl⟩) | (go_at_call 36; refine (rFixed3_any _ _ _ _ (by omega) (by omega) (by omega) (by have := HX.out; omega) (by omega) (by omega)).mono ?_; rw [Heb.day_first]; rintro e w' ⟨rfl, rfl⟩) | (go_at_call 37; refine (rMonths3_any _ _ (by omega) (by omega)).mono ?_; rw [HM.out]; rintro e w' ⟨rfl, rfl⟩) | (go_at_call 23; refine (rLength3_any _ _ _ (by omega) (by omega)).mono ?_; rintro e w' ⟨rfl, rfl⟩))
  go_ret
  exact ⟨by first | rfl | simp, hb1⟩

set_option maxHeartbeats 2000000 in
theorem hebrewYears_true (y m : Int) (w : World) (h : Heb.right y = true) (hp : Heb.lp y = true) :
    Calls Try.prog 14 #[.int .i64 y, .int .i64 m] w fun e w' => e = .returned (.bool true) ∧ Below w.heap.size w w' := by
  have hin := Heb.right_in h
  have g1 : decide (y < 1) = false := decide_eq_false (by omega)
  have g2 : decide (20000 < y) = false := decide_eq_false (by omega)
  have hf := Heb.fst_in (y := y) (by omega) (by omega)
  have hf' := Heb.fst_in (y := y + 1) (by omega) (by omega)
  have hdy : 383 ≤ Heb.fst (y + 1) - Heb.fst y ∧ Heb.fst (y + 1) - Heb.fst y ≤ 385 := by
    have := (Heb.year_both y).1
    rw [hp] at this
    have e : Heb.days y = Heb.fst (y + 1) - Heb.fst y := rfl
    simp at this; omega
  have HR := Lib.hid h
  have HL := Lib.hid (show Heb.leap y = true by unfold Heb.leap; rw [h, hp]; rfl)
  have HN := Lib.hid (Heb.lenR_eq (y := y) (m := m) h)
  have HM := Lib.hid (show Heb.last y = 13 by unfold Heb.last; rw [hp]; rfl)
  have HX := Lib.hid (And.intro (Heb.last_ge y) (Heb.last_ge (y + 1)))
  clear h hp
  go_enter Try.func14, Try.ntmps14
  go_wp2_with (first | (go_at_call 31; refine (hebAwake_any _).mono ?_; rintro e w1 ⟨rfl, hb1⟩) | (go_at_call 32; refine (hebBeginsE_in _ _ HR.out).mono ?_; rintro e w' ⟨rfl, rfl⟩) | (go_at_call 34; refine (hebLeap_any _ _).mono ?_; rw [HL.out]; rintro e w' ⟨rfl, rfl⟩) | (go_at_call 35; refine (hebLength_any _ _ _).mono ?_; rw [HN.out]; rintro e w' ⟨rfl, rfl⟩) | (go_at_call 36; refine (rFixed3_any _ _ _ _ (by omega) (by omega) (by omega) (by have := HX.out; omega) (by omega) (by omega)).mono ?_; rw [Heb.day_first]; rintro e w' ⟨rfl, rfl⟩) | (go_at_call 37; refine (rMonths3_any _ _ (by omega) (by omega)).mono ?_; rw [HM.out]; rintro e w' ⟨rfl, rfl⟩) | (go_at_call 23; refine (rLength3_any _ _ _ (by omega) (by omega)).mono ?_; rintro e w' ⟨rfl, rfl⟩))
  go_ret
  exact ⟨by first | rfl | simp, hb1⟩

theorem hebrewYears_walk (y m : Int) (w : World) :
    Calls Try.prog 14 #[.int .i64 y, .int .i64 m] w fun e w' => e = .returned (.bool true) ∧ Below w.heap.size w w' := by
  by_cases a : y < 1
  · exact hebrewYears_low y m w a
  · by_cases b : 20000 < y
    · exact hebrewYears_high y m w b
    · have h := Heb.right_yes (y := y) (by omega) (by omega)
      cases hp : Heb.lp y
      · exact hebrewYears_false y m w h hp
      · exact hebrewYears_true y m w h hp

end Go.Proofs.Ytfkbibjbdibcjaa
