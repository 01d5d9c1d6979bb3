/- The walks of package hebrew's delay, begins, days, Length, next and Begins: each hands back what the plain arithmetic says. -/
import Derived.Test.YtfkbibjbdibcjaaHebrewWalks
namespace Go.Proofs.Ytfkbibjbdibcjaa
open Go.RowKit

theorem Heb.dly_two {y : Int} (h : Heb.elp (y + 1) - Heb.elp y = 356) : Heb.dly y = 2 := by unfold Heb.dly; rw [if_pos h]
theorem Heb.dly_one {y : Int} (h : ¬ Heb.elp (y + 1) - Heb.elp y = 356) (g : Heb.elp y - Heb.elp (y - 1) = 382) : Heb.dly y = 1 := by unfold Heb.dly; rw [if_neg h, if_pos g]
theorem Heb.dly_no {y : Int} (h : ¬ Heb.elp (y + 1) - Heb.elp y = 356) (g : ¬ Heb.elp y - Heb.elp (y - 1) = 382) : Heb.dly y = 0 := by unfold Heb.dly; rw [if_neg h, if_neg g]

set_option maxHeartbeats 1000000 in
theorem hebDelay_any (y : Int) (w : World) (h0 : -1 ≤ y) (h1 : y ≤ 20002) :
    Calls Try.prog 73 #[.int .i64 y] w fun e w' => e = .returned (.int .i64 (Heb.dly y)) ∧ w = w' := by
  have a0 := Heb.elp_in (y := y) (by omega) (by omega)
  have a1 := Heb.elp_in (y := y + 1) (by omega) (by omega)
  have a2 := Heb.elp_in (y := y - 1) (by omega) (by omega)
  by_cases c : Heb.elp (y + 1) - Heb.elp y = 356
  · have H := Lib.hid (Heb.dly_two c)
    have g : (Heb.elp (y + 1) - Heb.elp y == 356) = true := beq_iff_eq.mpr c
    clear c
    go_enter Try.func73, Try.ntmps73
    go_wp2_with ((go_at_call 72; refine (hebElapsed_any _ _ (by omega) (by omega)).mono ?_; rintro e w' ⟨rfl, rfl⟩))
    go_ret
    exact ⟨ret_int H.out.symm, rfl⟩
  · have g : (Heb.elp (y + 1) - Heb.elp y == 356) = false := beq_eq_false_iff_ne.mpr c
    by_cases d : Heb.elp y - Heb.elp (y - 1) = 382
    · have H := Lib.hid (Heb.dly_one c d)
      have g' : (Heb.elp y - Heb.elp (y - 1) == 382) = true := beq_iff_eq.mpr d
      clear c d
      go_enter Try.func73, Try.ntmps73
      go_wp2_with ((go_at_call 72; refine (hebElapsed_any _ _ (by omega) (by omega)).mono ?_; rintro e w' ⟨rfl, rfl⟩))
      go_ret
      exact ⟨ret_int H.out.symm, rfl⟩
    · have H := Lib.hid (Heb.dly_no c d)
      have g' : (Heb.elp y - Heb.elp (y - 1) == 382) = false := beq_eq_false_iff_ne.mpr d
      clear c d
      go_enter Try.func73, Try.ntmps73
      go_wp2_with ((go_at_call 72; refine (hebElapsed_any _ _ (by omega) (by omega)).mono ?_; rintro e w' ⟨rfl, rfl⟩))
      go_ret
      exact ⟨ret_int H.out.symm, rfl⟩

set_option maxHeartbeats 1000000 in
theorem hebBegins_any (y : Int) (w : World) (h0 : -1 ≤ y) (h1 : y ≤ 20002) :
    Calls Try.prog 58 #[.int .i64 y] w fun e w' => e = .returned (.int .i64 (Heb.fst y)) ∧ w = w' := by
  have a0 := Heb.elp_in (y := y) (by omega) (by omega)
  have a1 := Heb.dly_in y
  have H := Lib.hid (Heb.fst_dly y)
  go_enter Try.func58, Try.ntmps58
  go_wp2_with (first | (go_at_call 72; refine (hebElapsed_any _ _ (by omega) (by omega)).mono ?_; rintro e w' ⟨rfl, rfl⟩) | (go_at_call 73; refine (hebDelay_any _ _ (by omega) (by omega)).mono ?_; rintro e w' ⟨rfl, rfl⟩))
  go_ret
  exact ⟨ret_int H.out, rfl⟩

set_option maxHeartbeats 1000000 in
theorem hebDays_any (y : Int) (w : World) (h0 : -1 ≤ y) (h1 : y ≤ 20001) :
    Calls Try.prog 61 #[.int .i64 y] w fun e w' => e = .returned (.int .i64 (Heb.days y)) ∧ w = w' := by
  have a0 := Heb.fst_in (y := y) (by omega) (by omega)
  have a1 := Heb.fst_in (y := y + 1) (by omega) (by omega)
  have H := Lib.hid (show Heb.fst (y + 1) - Heb.fst y = Heb.days y from rfl)
  go_enter Try.func61, Try.ntmps61
  go_wp2_with ((go_at_call 58; refine (hebBegins_any _ _ (by omega) (by omega)).mono ?_; rintro e w' ⟨rfl, rfl⟩))
  go_ret
  exact ⟨ret_int H.out, rfl⟩

theorem hebRight_is (y : Int) (b : Bool) (w : World) (h : Heb.right y = b) :
    Calls Try.prog 57 #[.int .i64 y] w fun e w' => e = .returned (.bool b) ∧ w = w' := by
  rw [← h]; exact hebRight_any y w

set_option maxHeartbeats 1000000 in
theorem hebLength_1 (y : Int) (w : World) (h : Heb.right y = true) (h2 : 1 ≤ Heb.last y) :
    Calls Try.prog 35 #[.int .i64 y, .int .i64 1] w fun e w' => e = .returned (.int .i64 (Heb.hm y 1)) ∧ w = w' := by
  have HR := Lib.hid h
  have hin := Heb.right_in h
  have hd := Heb.days_in y
  have hl : Heb.last y ≤ 13 := by have := Heb.last_in y; omega
  clear h
  have H := Lib.hid (show Heb.hm y 1 = 30 by simp [Heb.hm])
  go_enter Try.func35, Try.ntmps35
  go_wp2_with (first | (go_at_call 57; refine (hebRight_is _ _ _ HR.out).mono ?_; rintro e w' ⟨rfl, rfl⟩) | (go_at_call 60; refine (hebLast_any _ _ (by omega) (by omega)).mono ?_; rintro e w' ⟨rfl, rfl⟩) | (go_at_call 61; refine (hebDays_any _ _ (by omega) (by omega)).mono ?_; rintro e w' ⟨rfl, rfl⟩))
  go_ret
  exact ⟨ret_int H.out.symm, rfl⟩

set_option maxHeartbeats 1000000 in
theorem hebLength_2 (y : Int) (w : World) (h : Heb.right y = true) (h2 : 2 ≤ Heb.last y) :
    Calls Try.prog 35 #[.int .i64 y, .int .i64 2] w fun e w' => e = .returned (.int .i64 (Heb.hm y 2)) ∧ w = w' := by
  have HR := Lib.hid h
  have hin := Heb.right_in h
  have hd := Heb.days_in y
  have hl : Heb.last y ≤ 13 := by have := Heb.last_in y; omega
  clear h
  have H := Lib.hid (show Heb.hm y 2 = 29 by simp [Heb.hm])
  go_enter Try.func35, Try.ntmps35
  go_wp2_with (first | (go_at_call 57; refine (hebRight_is _ _ _ HR.out).mono ?_; rintro e w' ⟨rfl, rfl⟩) | (go_at_call 60; refine (hebLast_any _ _ (by omega) (by omega)).mono ?_; rintro e w' ⟨rfl, rfl⟩) | (go_at_call 61; refine (hebDays_any _ _ (by omega) (by omega)).mono ?_; rintro e w' ⟨rfl, rfl⟩))
  go_ret
  exact ⟨ret_int H.out.symm, rfl⟩

set_option maxHeartbeats 1000000 in
theorem hebLength_3 (y : Int) (w : World) (h : Heb.right y = true) (h2 : 3 ≤ Heb.last y) :
    Calls Try.prog 35 #[.int .i64 y, .int .i64 3] w fun e w' => e = .returned (.int .i64 (Heb.hm y 3)) ∧ w = w' := by
  have HR := Lib.hid h
  have hin := Heb.right_in h
  have hd := Heb.days_in y
  have hl : Heb.last y ≤ 13 := by have := Heb.last_in y; omega
  clear h
  have H := Lib.hid (show Heb.hm y 3 = 30 by simp [Heb.hm])
  go_enter Try.func35, Try.ntmps35
  go_wp2_with (first | (go_at_call 57; refine (hebRight_is _ _ _ HR.out).mono ?_; rintro e w' ⟨rfl, rfl⟩) | (go_at_call 60; refine (hebLast_any _ _ (by omega) (by omega)).mono ?_; rintro e w' ⟨rfl, rfl⟩) | (go_at_call 61; refine (hebDays_any _ _ (by omega) (by omega)).mono ?_; rintro e w' ⟨rfl, rfl⟩))
  go_ret
  exact ⟨ret_int H.out.symm, rfl⟩

set_option maxHeartbeats 1000000 in
theorem hebLength_4 (y : Int) (w : World) (h : Heb.right y = true) (h2 : 4 ≤ Heb.last y) :
    Calls Try.prog 35 #[.int .i64 y, .int .i64 4] w fun e w' => e = .returned (.int .i64 (Heb.hm y 4)) ∧ w = w' := by
  have HR := Lib.hid h
  have hin := Heb.right_in h
  have hd := Heb.days_in y
  have hl : Heb.last y ≤ 13 := by have := Heb.last_in y; omega
  clear h
  have H := Lib.hid (show Heb.hm y 4 = 29 by simp [Heb.hm])
  go_enter Try.func35, Try.ntmps35
  go_wp2_with (first | (go_at_call 57; refine (hebRight_is _ _ _ HR.out).mono ?_; rintro e w' ⟨rfl, rfl⟩) | (go_at_call 60; refine (hebLast_any _ _ (by omega) (by omega)).mono ?_; rintro e w' ⟨rfl, rfl⟩) | (go_at_call 61; refine (hebDays_any _ _ (by omega) (by omega)).mono ?_; rintro e w' ⟨rfl, rfl⟩))
  go_ret
  exact ⟨ret_int H.out.symm, rfl⟩

set_option maxHeartbeats 1000000 in
theorem hebLength_5 (y : Int) (w : World) (h : Heb.right y = true) (h2 : 5 ≤ Heb.last y) :
    Calls Try.prog 35 #[.int .i64 y, .int .i64 5] w fun e w' => e = .returned (.int .i64 (Heb.hm y 5)) ∧ w = w' := by
  have HR := Lib.hid h
  have hin := Heb.right_in h
  have hd := Heb.days_in y
  have hl : Heb.last y ≤ 13 := by have := Heb.last_in y; omega
  clear h
  have H := Lib.hid (show Heb.hm y 5 = 30 by simp [Heb.hm])
  go_enter Try.func35, Try.ntmps35
  go_wp2_with (first | (go_at_call 57; refine (hebRight_is _ _ _ HR.out).mono ?_; rintro e w' ⟨rfl, rfl⟩) | (go_at_call 60; refine (hebLast_any _ _ (by omega) (by omega)).mono ?_; rintro e w' ⟨rfl, rfl⟩) | (go_at_call 61; refine (hebDays_any _ _ (by omega) (by omega)).mono ?_; rintro e w' ⟨rfl, rfl⟩))
  go_ret
  exact ⟨ret_int H.out.symm, rfl⟩

set_option maxHeartbeats 1000000 in
theorem hebLength_6 (y : Int) (w : World) (h : Heb.right y = true) (h2 : 6 ≤ Heb.last y) :
    Calls Try.prog 35 #[.int .i64 y, .int .i64 6] w fun e w' => e = .returned (.int .i64 (Heb.hm y 6)) ∧ w = w' := by
  have HR := Lib.hid h
  have hin := Heb.right_in h
  have hd := Heb.days_in y
  have hl : Heb.last y ≤ 13 := by have := Heb.last_in y; omega
  clear h
  have H := Lib.hid (show Heb.hm y 6 = 29 by simp [Heb.hm])
  go_enter Try.func35, Try.ntmps35
  go_wp2_with (first | (go_at_call 57; refine (hebRight_is _ _ _ HR.out).mono ?_; rintro e w' ⟨rfl, rfl⟩) | (go_at_call 60; refine (hebLast_any _ _ (by omega) (by omega)).mono ?_; rintro e w' ⟨rfl, rfl⟩) | (go_at_call 61; refine (hebDays_any _ _ (by omega) (by omega)).mono ?_; rintro e w' ⟨rfl, rfl⟩))
  go_ret
  exact ⟨ret_int H.out.symm, rfl⟩

set_option maxHeartbeats 1000000 in
theorem hebLength_7 (y : Int) (w : World) (h : Heb.right y = true) (h2 : 7 ≤ Heb.last y) :
    Calls Try.prog 35 #[.int .i64 y, .int .i64 7] w fun e w' => e = .returned (.int .i64 (Heb.hm y 7)) ∧ w = w' := by
  have HR := Lib.hid h
  have hin := Heb.right_in h
  have hd := Heb.days_in y
  have hl : Heb.last y ≤ 13 := by have := Heb.last_in y; omega
  clear h
  have H := Lib.hid (show Heb.hm y 7 = 30 by simp [Heb.hm])
  go_enter Try.func35, Try.ntmps35
  go_wp2_with (first | (go_at_call 57; refine (hebRight_is _ _ _ HR.out).mono ?_; rintro e w' ⟨rfl, rfl⟩) | (go_at_call 60; refine (hebLast_any _ _ (by omega) (by omega)).mono ?_; rintro e w' ⟨rfl, rfl⟩) | (go_at_call 61; refine (hebDays_any _ _ (by omega) (by omega)).mono ?_; rintro e w' ⟨rfl, rfl⟩))
  go_ret
  exact ⟨ret_int H.out.symm, rfl⟩

set_option maxHeartbeats 1000000 in
theorem hebLength_8 (y : Int) (w : World) (h : Heb.right y = true) (h2 : 8 ≤ Heb.last y) :
    Calls Try.prog 35 #[.int .i64 y, .int .i64 8] w fun e w' => e = .returned (.int .i64 (Heb.hm y 8)) ∧ w = w' := by
  have HR := Lib.hid h
  have hin := Heb.right_in h
  have hd := Heb.days_in y
  have hl : Heb.last y ≤ 13 := by have := Heb.last_in y; omega
  clear h
  by_cases c : Heb.days y = 355
  · have H := Lib.hid (show Heb.hm y 8 = 30 by simp [Heb.hm, c])
    have g : (Heb.days y != 355) = false := bne_eq_false_iff_eq.mpr c
    clear c
    go_enter Try.func35, Try.ntmps35
    go_wp2_with (first | (go_at_call 57; refine (hebRight_is _ _ _ HR.out).mono ?_; rintro e w' ⟨rfl, rfl⟩) | (go_at_call 60; refine (hebLast_any _ _ (by omega) (by omega)).mono ?_; rintro e w' ⟨rfl, rfl⟩) | (go_at_call 61; refine (hebDays_any _ _ (by omega) (by omega)).mono ?_; rintro e w' ⟨rfl, rfl⟩))
    go_ret
    exact ⟨ret_int H.out.symm, rfl⟩
  · have g : (Heb.days y != 355) = true := bne_iff_ne.mpr c
    by_cases d : Heb.days y = 385
    · have H := Lib.hid (show Heb.hm y 8 = 30 by simp [Heb.hm, d])
      have g' : (Heb.days y != 385) = false := bne_eq_false_iff_eq.mpr d
      clear c d
      go_enter Try.func35, Try.ntmps35
      go_wp2_with (first | (go_at_call 57; refine (hebRight_is _ _ _ HR.out).mono ?_; rintro e w' ⟨rfl, rfl⟩) | (go_at_call 60; refine (hebLast_any _ _ (by omega) (by omega)).mono ?_; rintro e w' ⟨rfl, rfl⟩) | (go_at_call 61; refine (hebDays_any _ _ (by omega) (by omega)).mono ?_; rintro e w' ⟨rfl, rfl⟩))
      go_ret
      exact ⟨ret_int H.out.symm, rfl⟩
    · have H := Lib.hid (show Heb.hm y 8 = 29 by simp [Heb.hm, c, d])
      have g' : (Heb.days y != 385) = true := bne_iff_ne.mpr d
      clear c d
      go_enter Try.func35, Try.ntmps35
      go_wp2_with (first | (go_at_call 57; refine (hebRight_is _ _ _ HR.out).mono ?_; rintro e w' ⟨rfl, rfl⟩) | (go_at_call 60; refine (hebLast_any _ _ (by omega) (by omega)).mono ?_; rintro e w' ⟨rfl, rfl⟩) | (go_at_call 61; refine (hebDays_any _ _ (by omega) (by omega)).mono ?_; rintro e w' ⟨rfl, rfl⟩))
      go_ret
      exact ⟨ret_int H.out.symm, rfl⟩

set_option maxHeartbeats 1000000 in
theorem hebLength_9 (y : Int) (w : World) (h : Heb.right y = true) (h2 : 9 ≤ Heb.last y) :
    Calls Try.prog 35 #[.int .i64 y, .int .i64 9] w fun e w' => e = .returned (.int .i64 (Heb.hm y 9)) ∧ w = w' := by
  have HR := Lib.hid h
  have hin := Heb.right_in h
  have hd := Heb.days_in y
  have hl : Heb.last y ≤ 13 := by have := Heb.last_in y; omega
  clear h
  by_cases c : Heb.days y = 353
  · have H := Lib.hid (show Heb.hm y 9 = 29 by simp [Heb.hm, c])
    have g : (Heb.days y == 353) = true := beq_iff_eq.mpr c
    clear c
    go_enter Try.func35, Try.ntmps35
    go_wp2_with (first | (go_at_call 57; refine (hebRight_is _ _ _ HR.out).mono ?_; rintro e w' ⟨rfl, rfl⟩) | (go_at_call 60; refine (hebLast_any _ _ (by omega) (by omega)).mono ?_; rintro e w' ⟨rfl, rfl⟩) | (go_at_call 61; refine (hebDays_any _ _ (by omega) (by omega)).mono ?_; rintro e w' ⟨rfl, rfl⟩))
    go_ret
    exact ⟨ret_int H.out.symm, rfl⟩
  · have g : (Heb.days y == 353) = false := beq_eq_false_iff_ne.mpr c
    by_cases d : Heb.days y = 383
    · have H := Lib.hid (show Heb.hm y 9 = 29 by simp [Heb.hm, d])
      have g' : (Heb.days y == 383) = true := beq_iff_eq.mpr d
      clear c d
      go_enter Try.func35, Try.ntmps35
      go_wp2_with (first | (go_at_call 57; refine (hebRight_is _ _ _ HR.out).mono ?_; rintro e w' ⟨rfl, rfl⟩) | (go_at_call 60; refine (hebLast_any _ _ (by omega) (by omega)).mono ?_; rintro e w' ⟨rfl, rfl⟩) | (go_at_call 61; refine (hebDays_any _ _ (by omega) (by omega)).mono ?_; rintro e w' ⟨rfl, rfl⟩))
      go_ret
      exact ⟨ret_int H.out.symm, rfl⟩
    · have H := Lib.hid (show Heb.hm y 9 = 30 by simp [Heb.hm, c, d])
      have g' : (Heb.days y == 383) = false := beq_eq_false_iff_ne.mpr d
      clear c d
      go_enter Try.func35, Try.ntmps35
      go_wp2_with (first | (go_at_call 57; refine (hebRight_is _ _ _ HR.out).mono ?_; rintro e w' ⟨rfl, rfl⟩) | (go_at_call 60; refine (hebLast_any _ _ (by omega) (by omega)).mono ?_; rintro e w' ⟨rfl, rfl⟩) | (go_at_call 61; refine (hebDays_any _ _ (by omega) (by omega)).mono ?_; rintro e w' ⟨rfl, rfl⟩))
      go_ret
      exact ⟨ret_int H.out.symm, rfl⟩

set_option maxHeartbeats 1000000 in
theorem hebLength_10 (y : Int) (w : World) (h : Heb.right y = true) (h2 : 10 ≤ Heb.last y) :
    Calls Try.prog 35 #[.int .i64 y, .int .i64 10] w fun e w' => e = .returned (.int .i64 (Heb.hm y 10)) ∧ w = w' := by
  have HR := Lib.hid h
  have hin := Heb.right_in h
  have hd := Heb.days_in y
  have hl : Heb.last y ≤ 13 := by have := Heb.last_in y; omega
  clear h
  have H := Lib.hid (show Heb.hm y 10 = 29 by simp [Heb.hm])
  go_enter Try.func35, Try.ntmps35
  go_wp2_with (first | (go_at_call 57; refine (hebRight_is _ _ _ HR.out).mono ?_; rintro e w' ⟨rfl, rfl⟩) | (go_at_call 60; refine (hebLast_any _ _ (by omega) (by omega)).mono ?_; rintro e w' ⟨rfl, rfl⟩) | (go_at_call 61; refine (hebDays_any _ _ (by omega) (by omega)).mono ?_; rintro e w' ⟨rfl, rfl⟩))
  go_ret
  exact ⟨ret_int H.out.symm, rfl⟩

set_option maxHeartbeats 1000000 in
theorem hebLength_11 (y : Int) (w : World) (h : Heb.right y = true) (h2 : 11 ≤ Heb.last y) :
    Calls Try.prog 35 #[.int .i64 y, .int .i64 11] w fun e w' => e = .returned (.int .i64 (Heb.hm y 11)) ∧ w = w' := by
  have HR := Lib.hid h
  have hin := Heb.right_in h
  have hd := Heb.days_in y
  have hl : Heb.last y ≤ 13 := by have := Heb.last_in y; omega
  clear h
  have H := Lib.hid (show Heb.hm y 11 = 30 by simp [Heb.hm])
  go_enter Try.func35, Try.ntmps35
  go_wp2_with (first | (go_at_call 57; refine (hebRight_is _ _ _ HR.out).mono ?_; rintro e w' ⟨rfl, rfl⟩) | (go_at_call 60; refine (hebLast_any _ _ (by omega) (by omega)).mono ?_; rintro e w' ⟨rfl, rfl⟩) | (go_at_call 61; refine (hebDays_any _ _ (by omega) (by omega)).mono ?_; rintro e w' ⟨rfl, rfl⟩))
  go_ret
  exact ⟨ret_int H.out.symm, rfl⟩

set_option maxHeartbeats 1000000 in
theorem hebLength_12 (y : Int) (w : World) (h : Heb.right y = true) (h2 : 12 ≤ Heb.last y) :
    Calls Try.prog 35 #[.int .i64 y, .int .i64 12] w fun e w' => e = .returned (.int .i64 (Heb.hm y 12)) ∧ w = w' := by
  have HR := Lib.hid h
  have hin := Heb.right_in h
  have hd := Heb.days_in y
  have hl : Heb.last y ≤ 13 := by have := Heb.last_in y; omega
  clear h
  cases hp : Heb.lp y
  · have H := Lib.hid (show Heb.hm y 12 = 29 by simp [Heb.hm, hp])
    have HP := Lib.hid hp
    clear hp
    go_enter Try.func35, Try.ntmps35
    go_wp2_with (first | (go_at_call 57; refine (hebRight_is _ _ _ HR.out).mono ?_; rintro e w' ⟨rfl, rfl⟩) | (go_at_call 60; refine (hebLast_any _ _ (by omega) (by omega)).mono ?_; rintro e w' ⟨rfl, rfl⟩) | (go_at_call 61; refine (hebDays_any _ _ (by omega) (by omega)).mono ?_; rintro e w' ⟨rfl, rfl⟩) | (go_at_call 59; refine (hebLp_is _ _ _ (by omega) (by omega) HP.out).mono ?_; rintro e w' ⟨rfl, rfl⟩))
    go_ret
    exact ⟨ret_int H.out.symm, rfl⟩
  · have H := Lib.hid (show Heb.hm y 12 = 30 by simp [Heb.hm, hp])
    have HP := Lib.hid hp
    clear hp
    go_enter Try.func35, Try.ntmps35
    go_wp2_with (first | (go_at_call 57; refine (hebRight_is _ _ _ HR.out).mono ?_; rintro e w' ⟨rfl, rfl⟩) | (go_at_call 60; refine (hebLast_any _ _ (by omega) (by omega)).mono ?_; rintro e w' ⟨rfl, rfl⟩) | (go_at_call 61; refine (hebDays_any _ _ (by omega) (by omega)).mono ?_; rintro e w' ⟨rfl, rfl⟩) | (go_at_call 59; refine (hebLp_is _ _ _ (by omega) (by omega) HP.out).mono ?_; rintro e w' ⟨rfl, rfl⟩))
    go_ret
    exact ⟨ret_int H.out.symm, rfl⟩

set_option maxHeartbeats 1000000 in
theorem hebLength_13 (y : Int) (w : World) (h : Heb.right y = true) (h2 : 13 ≤ Heb.last y) :
    Calls Try.prog 35 #[.int .i64 y, .int .i64 13] w fun e w' => e = .returned (.int .i64 (Heb.hm y 13)) ∧ w = w' := by
  have HR := Lib.hid h
  have hin := Heb.right_in h
  have hd := Heb.days_in y
  have hl : Heb.last y ≤ 13 := by have := Heb.last_in y; omega
  clear h
  have H := Lib.hid (show Heb.hm y 13 = 29 by simp [Heb.hm])
  go_enter Try.func35, Try.ntmps35
  go_wp2_with (first | (go_at_call 57; refine (hebRight_is _ _ _ HR.out).mono ?_; rintro e w' ⟨rfl, rfl⟩) | (go_at_call 60; refine (hebLast_any _ _ (by omega) (by omega)).mono ?_; rintro e w' ⟨rfl, rfl⟩) | (go_at_call 61; refine (hebDays_any _ _ (by omega) (by omega)).mono ?_; rintro e w' ⟨rfl, rfl⟩))
  go_ret
  exact ⟨ret_int H.out.symm, rfl⟩

set_option maxHeartbeats 1000000 in
theorem hebLength_wrong (y m : Int) (w : World) (h : Heb.right y = false) :
    Calls Try.prog 35 #[.int .i64 y, .int .i64 m] w fun e w' => e = .returned (.int .i64 0) ∧ w = w' := by
  have HR := Lib.hid h
  clear h
  go_enter Try.func35, Try.ntmps35
  go_wp2_with ((go_at_call 57; refine (hebRight_is _ _ _ HR.out).mono ?_; rintro e w' ⟨rfl, rfl⟩))
  go_ret
  exact ⟨rfl, rfl⟩

set_option maxHeartbeats 1000000 in
theorem hebLength_low (y m : Int) (w : World) (h : Heb.right y = true) (h1 : m < 1) :
    Calls Try.prog 35 #[.int .i64 y, .int .i64 m] w fun e w' => e = .returned (.int .i64 0) ∧ w = w' := by
  have HR := Lib.hid h
  have g : decide (m < 1) = true := decide_eq_true h1
  clear h
  go_enter Try.func35, Try.ntmps35
  go_wp2_with ((go_at_call 57; refine (hebRight_is _ _ _ HR.out).mono ?_; rintro e w' ⟨rfl, rfl⟩))
  go_ret
  exact ⟨rfl, rfl⟩

set_option maxHeartbeats 1000000 in
theorem hebLength_high (y m : Int) (w : World) (h : Heb.right y = true) (h1 : 1 ≤ m) (h2 : Heb.last y < m) :
    Calls Try.prog 35 #[.int .i64 y, .int .i64 m] w fun e w' => e = .returned (.int .i64 0) ∧ w = w' := by
  have HR := Lib.hid h
  have hin := Heb.right_in h
  have g : decide (m < 1) = false := decide_eq_false (by omega)
  have g' : decide (Heb.last y < m) = true := decide_eq_true h2
  clear h
  go_enter Try.func35, Try.ntmps35
  go_wp2_with (first | (go_at_call 57; refine (hebRight_is _ _ _ HR.out).mono ?_; rintro e w' ⟨rfl, rfl⟩) | (go_at_call 60; refine (hebLast_any _ _ (by omega) (by omega)).mono ?_; rintro e w' ⟨rfl, rfl⟩))
  go_ret
  exact ⟨rfl, rfl⟩

theorem hebLength_hm (y m : Int) (w : World) (h : Heb.right y = true) (h1 : 1 ≤ m) (h2 : m ≤ Heb.last y) :
    Calls Try.prog 35 #[.int .i64 y, .int .i64 m] w fun e w' => e = .returned (.int .i64 (Heb.hm y m)) ∧ w = w' := by
  rcases Heb.valid_cases h1 h2 with rfl | rfl | rfl | rfl | rfl | rfl | rfl | rfl | rfl | rfl | rfl | rfl | ⟨rfl, _⟩
  · exact hebLength_1 y w h h2
  · exact hebLength_2 y w h h2
  · exact hebLength_3 y w h h2
  · exact hebLength_4 y w h h2
  · exact hebLength_5 y w h h2
  · exact hebLength_6 y w h h2
  · exact hebLength_7 y w h h2
  · exact hebLength_8 y w h h2
  · exact hebLength_9 y w h h2
  · exact hebLength_10 y w h h2
  · exact hebLength_11 y w h h2
  · exact hebLength_12 y w h h2
  · exact hebLength_13 y w h h2

theorem hebLength_any (y m : Int) (w : World) :
    Calls Try.prog 35 #[.int .i64 y, .int .i64 m] w fun e w' => e = .returned (.int .i64 (Heb.lenR y m)) ∧ w = w' := by
  cases h : Heb.right y
  · rw [Heb.lenR_no h]; exact hebLength_wrong y m w h
  · rw [Heb.lenR_eq h]
    by_cases h1 : m < 1
    · rw [show Heb.len y m = 0 by unfold Heb.len; rw [if_pos (Or.inl h1)]]; exact hebLength_low y m w h h1
    · by_cases h2 : Heb.last y < m
      · rw [show Heb.len y m = 0 by unfold Heb.len; rw [if_pos (Or.inr h2)]]; exact hebLength_high y m w h (by omega) h2
      · rw [Heb.len_eq (by omega) (by omega)]; exact hebLength_hm y m w h (by omega) (by omega)

set_option maxHeartbeats 1000000 in
theorem hebNext_any (y m : Int) (w : World) (h0 : 0 ≤ y) (h1 : y ≤ 30000) (h2 : 1 ≤ m) (h3 : m ≤ 13) :
    Calls Try.prog 70 #[.int .i64 y, .int .i64 m] w fun e w' => e = .returned (.int .i64 (Heb.nxt y m)) ∧ w = w' := by
  by_cases c : m = Heb.last y
  · have H := Lib.hid (show Heb.nxt y m = 1 by unfold Heb.nxt; rw [if_pos c])
    have g : (m == Heb.last y) = true := beq_iff_eq.mpr c
    clear c
    go_enter Try.func70, Try.ntmps70
    go_wp2_with ((go_at_call 60; refine (hebLast_any _ _ (by omega) (by omega)).mono ?_; rintro e w' ⟨rfl, rfl⟩))
    go_ret
    exact ⟨ret_int H.out.symm, rfl⟩
  · have H := Lib.hid (show Heb.nxt y m = m + 1 by unfold Heb.nxt; rw [if_neg c])
    have g : (m == Heb.last y) = false := beq_eq_false_iff_ne.mpr c
    clear c
    go_enter Try.func70, Try.ntmps70
    go_wp2_with ((go_at_call 60; refine (hebLast_any _ _ (by omega) (by omega)).mono ?_; rintro e w' ⟨rfl, rfl⟩))
    go_ret
    exact ⟨ret_int H.out.symm, rfl⟩

set_option maxHeartbeats 1000000 in
theorem hebBeginsE_in (y : Int) (w : World) (h : Heb.right y = true) :
    Calls Try.prog 32 #[.int .i64 y] w fun e w' => e = .returned (.tuple #[.int .i64 (Heb.fst y), .int .i64 0]) ∧ w = w' := by
  have HR := Lib.hid h
  have hin := Heb.right_in h
  clear h
  go_enter Try.func32, Try.ntmps32
  go_wp2_with (first | (go_at_call 57; refine (hebRight_is _ _ _ HR.out).mono ?_; rintro e w' ⟨rfl, rfl⟩) | (go_at_call 58; refine (hebBegins_any _ _ (by omega) (by omega)).mono ?_; rintro e w' ⟨rfl, rfl⟩))
  go_ret2
  exact ⟨rfl, rfl⟩

set_option maxHeartbeats 1000000 in
theorem hebBeginsE_out (y : Int) (w : World) (h : Heb.right y = false) :
    Calls Try.prog 32 #[.int .i64 y] w fun e w' => e = .returned (.tuple #[.int .i64 0, .int .i64 2]) ∧ w = w' := by
  have HR := Lib.hid h
  clear h
  go_enter Try.func32, Try.ntmps32
  go_wp2_with ((go_at_call 57; refine (hebRight_is _ _ _ HR.out).mono ?_; rintro e w' ⟨rfl, rfl⟩))
  go_ret2
  exact ⟨rfl, rfl⟩

end Go.Proofs.Ytfkbibjbdibcjaa
