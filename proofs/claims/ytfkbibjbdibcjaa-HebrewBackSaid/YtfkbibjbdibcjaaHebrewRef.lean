/- The walks of the reference at calendar 3: each function hands back what the plain arithmetic of the Hebrew calendar says. -/
import Derived.Test.YtfkbibjbdibcjaaHebrewWalks
namespace Go.Proofs.Ytfkbibjbdibcjaa
open Go.RowKit

set_option maxHeartbeats 400000 in
theorem rHebLp_any (y : Int) (w : World) (h0 : -1000000 ≤ y) (h1 : y ≤ 1000000) :
    Calls Try.prog 69 #[.int .i64 y] w fun e w' => e = .returned (.bool (Heb.lp y)) ∧ w = w' := by
  have H := Lib.hid (show Heb.lp y = decide ((7 * y + 1) % 19 < 7) from rfl)
  go_enter Try.func69, Try.ntmps69
  go_wp2_with (go_at_call 33; refine (rmod_any _ _ _ (by omega) (by omega) (by omega) (by omega)).mono ?_; rintro e w' ⟨rfl, rfl⟩)
  go_ret
  exact ⟨ret_bool H.out.symm, rfl⟩
theorem rHebLp_is (y : Int) (b : Bool) (w : World) (h0 : -1000000 ≤ y) (h1 : y ≤ 1000000) (h : Heb.lp y = b) :
    Calls Try.prog 69 #[.int .i64 y] w fun e w' => e = .returned (.bool b) ∧ w = w' := by
  rw [← h]; exact rHebLp_any y w h0 h1

set_option maxHeartbeats 1000000 in
theorem rElapsed_any (y : Int) (w : World) (h0 : -2 ≤ y) (h1 : y ≤ 20003) :
    Calls Try.prog 75 #[.int .i64 y] w fun e w' => e = .returned (.int .i64 (Heb.elp y)) ∧ w = w' := by
  have hm := Heb.mon_in h0 h1
  have hd := Heb.dys_in h0 h1
  have HM := Lib.hid (show (235 * y - 234) / 19 = Heb.mon y from rfl)
  have hd' : -1200 ≤ 29 * Heb.mon y + (12084 + 13753 * Heb.mon y) / 25920 ∧ 29 * Heb.mon y + (12084 + 13753 * Heb.mon y) / 25920 ≤ 8000000 := hd
  clear hd
  have hb : -1000000 ≤ (12084 + 13753 * Heb.mon y) / 25920 ∧ (12084 + 13753 * Heb.mon y) / 25920 ≤ 1000000 := by omega
  by_cases h : (3 * (Heb.dys y + 1)) % 7 < 3
  · have H := Lib.hid (Heb.elp_up h)
    have h' : (3 * (29 * Heb.mon y + (12084 + 13753 * Heb.mon y) / 25920 + 1)) % 7 < 3 := h
    clear h
    go_enter Try.func75, Try.ntmps75
    go_wp2_with (first | (go_at_call 50; have tok := HM; refine (rfloor_any _ _ _ (by omega) (by omega) (by omega) (by omega)).mono ?_; rw [HM.out]; rintro e w' ⟨rfl, rfl⟩) | (go_at_call 50; refine (rfloor_any _ _ _ (by omega) (by omega) (by omega) (by omega)).mono ?_; rintro e w' ⟨rfl, rfl⟩) | (go_at_call 33; refine (rmod_any _ _ _ (by omega) (by omega) (by omega) (by omega)).mono ?_; rintro e w' ⟨rfl, rfl⟩))
    go_ret
    exact ⟨ret_int H.out.symm, rfl⟩
  · have H := Lib.hid (Heb.elp_same h)
    have h' : ¬ (3 * (29 * Heb.mon y + (12084 + 13753 * Heb.mon y) / 25920 + 1)) % 7 < 3 := h
    clear h
    go_enter Try.func75, Try.ntmps75
    go_wp2_with (first | (go_at_call 50; have tok := HM; refine (rfloor_any _ _ _ (by omega) (by omega) (by omega) (by omega)).mono ?_; rw [HM.out]; rintro e w' ⟨rfl, rfl⟩) | (go_at_call 50; refine (rfloor_any _ _ _ (by omega) (by omega) (by omega) (by omega)).mono ?_; rintro e w' ⟨rfl, rfl⟩) | (go_at_call 33; refine (rmod_any _ _ _ (by omega) (by omega) (by omega) (by omega)).mono ?_; rintro e w' ⟨rfl, rfl⟩))
    go_ret
    exact ⟨ret_int H.out.symm, rfl⟩

theorem Heb.fst_two {y : Int} (h : Heb.elp (y + 1) - Heb.elp y = 356) : Heb.fst y = Heb.elp y + 2 - 1373427 := by unfold Heb.fst Heb.put; rw [if_pos h]
theorem Heb.fst_one {y : Int} (h : ¬ Heb.elp (y + 1) - Heb.elp y = 356) (g : Heb.elp y - Heb.elp (y - 1) = 382) : Heb.fst y = Heb.elp y + 1 - 1373427 := by unfold Heb.fst Heb.put; rw [if_neg h, if_pos g]
theorem Heb.fst_no {y : Int} (h : ¬ Heb.elp (y + 1) - Heb.elp y = 356) (g : ¬ Heb.elp y - Heb.elp (y - 1) = 382) : Heb.fst y = Heb.elp y - 1373427 := by unfold Heb.fst Heb.put; rw [if_neg h, if_neg g]

set_option maxHeartbeats 1000000 in
theorem rNewYear_any (y : Int) (w : World) (h0 : -1 ≤ y) (h1 : y ≤ 20002) :
    Calls Try.prog 71 #[.int .i64 y] w fun e w' => e = .returned (.int .i64 (Heb.fst y)) ∧ w = w' := by
  have a0 := Heb.elp_in (y := y) (by omega) (by omega)
  have a1 := Heb.elp_in (y := y + 1) (by omega) (by omega)
  have a2 := Heb.elp_in (y := y - 1) (by omega) (by omega)
  by_cases c : Heb.elp (y + 1) - Heb.elp y = 356
  · have H := Lib.hid (Heb.fst_two c)
    have g : (Heb.elp (y + 1) - Heb.elp y == 356) = true := beq_iff_eq.mpr c
    clear c
    go_enter Try.func71, Try.ntmps71
    go_wp2_with ((go_at_call 75; refine (rElapsed_any _ _ (by omega) (by omega)).mono ?_; rintro e w' ⟨rfl, rfl⟩))
    go_ret
    exact ⟨ret_int H.out.symm, rfl⟩
  · have g : (Heb.elp (y + 1) - Heb.elp y == 356) = false := beq_eq_false_iff_ne.mpr c
    by_cases d : Heb.elp y - Heb.elp (y - 1) = 382
    · have H := Lib.hid (Heb.fst_one c d)
      have g' : (Heb.elp y - Heb.elp (y - 1) == 382) = true := beq_iff_eq.mpr d
      clear c d
      go_enter Try.func71, Try.ntmps71
      go_wp2_with ((go_at_call 75; refine (rElapsed_any _ _ (by omega) (by omega)).mono ?_; rintro e w' ⟨rfl, rfl⟩))
      go_ret
      exact ⟨ret_int H.out.symm, rfl⟩
    · have H := Lib.hid (Heb.fst_no c d)
      have g' : (Heb.elp y - Heb.elp (y - 1) == 382) = false := beq_eq_false_iff_ne.mpr d
      clear c d
      go_enter Try.func71, Try.ntmps71
      go_wp2_with ((go_at_call 75; refine (rElapsed_any _ _ (by omega) (by omega)).mono ?_; rintro e w' ⟨rfl, rfl⟩))
      go_ret
      exact ⟨ret_int H.out.symm, rfl⟩

set_option maxHeartbeats 1000000 in
theorem rHebMonth_1 (y : Int) (w : World) (h0 : -1 ≤ y) (h1 : y ≤ 20001) :
    Calls Try.prog 45 #[.int .i64 y, .int .i64 1] w fun e w' => e = .returned (.int .i64 (Heb.hm y 1)) ∧ w = w' := by
  have a0 := Heb.fst_in (y := y) (by omega) (by omega)
  have a1 := Heb.fst_in (y := y + 1) (by omega) (by omega)
  have H := Lib.hid (show Heb.hm y 1 = 30 by simp [Heb.hm])
  go_enter Try.func45, Try.ntmps45
  go_wp2_with ((go_at_call 71; refine (rNewYear_any _ _ (by omega) (by omega)).mono ?_; rintro e w' ⟨rfl, rfl⟩))
  go_ret
  exact ⟨ret_int H.out.symm, rfl⟩

set_option maxHeartbeats 1000000 in
theorem rHebMonth_2 (y : Int) (w : World) (h0 : -1 ≤ y) (h1 : y ≤ 20001) :
    Calls Try.prog 45 #[.int .i64 y, .int .i64 2] w fun e w' => e = .returned (.int .i64 (Heb.hm y 2)) ∧ w = w' := by
  have a0 := Heb.fst_in (y := y) (by omega) (by omega)
  have a1 := Heb.fst_in (y := y + 1) (by omega) (by omega)
  have H := Lib.hid (show Heb.hm y 2 = 29 by simp [Heb.hm])
  go_enter Try.func45, Try.ntmps45
  go_wp2_with ((go_at_call 71; refine (rNewYear_any _ _ (by omega) (by omega)).mono ?_; rintro e w' ⟨rfl, rfl⟩))
  go_ret
  exact ⟨ret_int H.out.symm, rfl⟩

set_option maxHeartbeats 1000000 in
theorem rHebMonth_3 (y : Int) (w : World) (h0 : -1 ≤ y) (h1 : y ≤ 20001) :
    Calls Try.prog 45 #[.int .i64 y, .int .i64 3] w fun e w' => e = .returned (.int .i64 (Heb.hm y 3)) ∧ w = w' := by
  have a0 := Heb.fst_in (y := y) (by omega) (by omega)
  have a1 := Heb.fst_in (y := y + 1) (by omega) (by omega)
  have H := Lib.hid (show Heb.hm y 3 = 30 by simp [Heb.hm])
  go_enter Try.func45, Try.ntmps45
  go_wp2_with ((go_at_call 71; refine (rNewYear_any _ _ (by omega) (by omega)).mono ?_; rintro e w' ⟨rfl, rfl⟩))
  go_ret
  exact ⟨ret_int H.out.symm, rfl⟩

set_option maxHeartbeats 1000000 in
theorem rHebMonth_4 (y : Int) (w : World) (h0 : -1 ≤ y) (h1 : y ≤ 20001) :
    Calls Try.prog 45 #[.int .i64 y, .int .i64 4] w fun e w' => e = .returned (.int .i64 (Heb.hm y 4)) ∧ w = w' := by
  have a0 := Heb.fst_in (y := y) (by omega) (by omega)
  have a1 := Heb.fst_in (y := y + 1) (by omega) (by omega)
  have H := Lib.hid (show Heb.hm y 4 = 29 by simp [Heb.hm])
  go_enter Try.func45, Try.ntmps45
  go_wp2_with ((go_at_call 71; refine (rNewYear_any _ _ (by omega) (by omega)).mono ?_; rintro e w' ⟨rfl, rfl⟩))
  go_ret
  exact ⟨ret_int H.out.symm, rfl⟩

set_option maxHeartbeats 1000000 in
theorem rHebMonth_5 (y : Int) (w : World) (h0 : -1 ≤ y) (h1 : y ≤ 20001) :
    Calls Try.prog 45 #[.int .i64 y, .int .i64 5] w fun e w' => e = .returned (.int .i64 (Heb.hm y 5)) ∧ w = w' := by
  have a0 := Heb.fst_in (y := y) (by omega) (by omega)
  have a1 := Heb.fst_in (y := y + 1) (by omega) (by omega)
  have H := Lib.hid (show Heb.hm y 5 = 30 by simp [Heb.hm])
  go_enter Try.func45, Try.ntmps45
  go_wp2_with ((go_at_call 71; refine (rNewYear_any _ _ (by omega) (by omega)).mono ?_; rintro e w' ⟨rfl, rfl⟩))
  go_ret
  exact ⟨ret_int H.out.symm, rfl⟩

set_option maxHeartbeats 1000000 in
theorem rHebMonth_6 (y : Int) (w : World) (h0 : -1 ≤ y) (h1 : y ≤ 20001) :
    Calls Try.prog 45 #[.int .i64 y, .int .i64 6] w fun e w' => e = .returned (.int .i64 (Heb.hm y 6)) ∧ w = w' := by
  have a0 := Heb.fst_in (y := y) (by omega) (by omega)
  have a1 := Heb.fst_in (y := y + 1) (by omega) (by omega)
  have H := Lib.hid (show Heb.hm y 6 = 29 by simp [Heb.hm])
  go_enter Try.func45, Try.ntmps45
  go_wp2_with ((go_at_call 71; refine (rNewYear_any _ _ (by omega) (by omega)).mono ?_; rintro e w' ⟨rfl, rfl⟩))
  go_ret
  exact ⟨ret_int H.out.symm, rfl⟩

set_option maxHeartbeats 1000000 in
theorem rHebMonth_7 (y : Int) (w : World) (h0 : -1 ≤ y) (h1 : y ≤ 20001) :
    Calls Try.prog 45 #[.int .i64 y, .int .i64 7] w fun e w' => e = .returned (.int .i64 (Heb.hm y 7)) ∧ w = w' := by
  have a0 := Heb.fst_in (y := y) (by omega) (by omega)
  have a1 := Heb.fst_in (y := y + 1) (by omega) (by omega)
  have H := Lib.hid (show Heb.hm y 7 = 30 by simp [Heb.hm])
  go_enter Try.func45, Try.ntmps45
  go_wp2_with ((go_at_call 71; refine (rNewYear_any _ _ (by omega) (by omega)).mono ?_; rintro e w' ⟨rfl, rfl⟩))
  go_ret
  exact ⟨ret_int H.out.symm, rfl⟩

set_option maxHeartbeats 1000000 in
theorem rHebMonth_8 (y : Int) (w : World) (h0 : -1 ≤ y) (h1 : y ≤ 20001) :
    Calls Try.prog 45 #[.int .i64 y, .int .i64 8] w fun e w' => e = .returned (.int .i64 (Heb.hm y 8)) ∧ w = w' := by
  have a0 := Heb.fst_in (y := y) (by omega) (by omega)
  have a1 := Heb.fst_in (y := y + 1) (by omega) (by omega)
  by_cases c : Heb.days y = 355
  · have H := Lib.hid (show Heb.hm y 8 = 30 by simp [Heb.hm, c])
    have g : (Heb.fst (y + 1) - Heb.fst y != 355) = false := bne_eq_false_iff_eq.mpr c
    clear c
    go_enter Try.func45, Try.ntmps45
    go_wp2_with ((go_at_call 71; refine (rNewYear_any _ _ (by omega) (by omega)).mono ?_; rintro e w' ⟨rfl, rfl⟩))
    go_ret
    exact ⟨ret_int H.out.symm, rfl⟩
  · have g : (Heb.fst (y + 1) - Heb.fst y != 355) = true := bne_iff_ne.mpr c
    by_cases d : Heb.days y = 385
    · have H := Lib.hid (show Heb.hm y 8 = 30 by simp [Heb.hm, d])
      have g' : (Heb.fst (y + 1) - Heb.fst y != 385) = false := bne_eq_false_iff_eq.mpr d
      clear c d
      go_enter Try.func45, Try.ntmps45
      go_wp2_with ((go_at_call 71; refine (rNewYear_any _ _ (by omega) (by omega)).mono ?_; rintro e w' ⟨rfl, rfl⟩))
      go_ret
      exact ⟨ret_int H.out.symm, rfl⟩
    · have H := Lib.hid (show Heb.hm y 8 = 29 by simp [Heb.hm, c, d])
      have g' : (Heb.fst (y + 1) - Heb.fst y != 385) = true := bne_iff_ne.mpr d
      clear c d
      go_enter Try.func45, Try.ntmps45
      go_wp2_with ((go_at_call 71; refine (rNewYear_any _ _ (by omega) (by omega)).mono ?_; rintro e w' ⟨rfl, rfl⟩))
      go_ret
      exact ⟨ret_int H.out.symm, rfl⟩

set_option maxHeartbeats 1000000 in
theorem rHebMonth_9 (y : Int) (w : World) (h0 : -1 ≤ y) (h1 : y ≤ 20001) :
    Calls Try.prog 45 #[.int .i64 y, .int .i64 9] w fun e w' => e = .returned (.int .i64 (Heb.hm y 9)) ∧ w = w' := by
  have a0 := Heb.fst_in (y := y) (by omega) (by omega)
  have a1 := Heb.fst_in (y := y + 1) (by omega) (by omega)
  by_cases c : Heb.days y = 353
  · have H := Lib.hid (show Heb.hm y 9 = 29 by simp [Heb.hm, c])
    have g : (Heb.fst (y + 1) - Heb.fst y == 353) = true := beq_iff_eq.mpr c
    clear c
    go_enter Try.func45, Try.ntmps45
    go_wp2_with ((go_at_call 71; refine (rNewYear_any _ _ (by omega) (by omega)).mono ?_; rintro e w' ⟨rfl, rfl⟩))
    go_ret
    exact ⟨ret_int H.out.symm, rfl⟩
  · have g : (Heb.fst (y + 1) - Heb.fst y == 353) = false := beq_eq_false_iff_ne.mpr c
    by_cases d : Heb.days y = 383
    · have H := Lib.hid (show Heb.hm y 9 = 29 by simp [Heb.hm, d])
      have g' : (Heb.fst (y + 1) - Heb.fst y == 383) = true := beq_iff_eq.mpr d
      clear c d
      go_enter Try.func45, Try.ntmps45
      go_wp2_with ((go_at_call 71; refine (rNewYear_any _ _ (by omega) (by omega)).mono ?_; rintro e w' ⟨rfl, rfl⟩))
      go_ret
      exact ⟨ret_int H.out.symm, rfl⟩
    · have H := Lib.hid (show Heb.hm y 9 = 30 by simp [Heb.hm, c, d])
      have g' : (Heb.fst (y + 1) - Heb.fst y == 383) = false := beq_eq_false_iff_ne.mpr d
      clear c d
      go_enter Try.func45, Try.ntmps45
      go_wp2_with ((go_at_call 71; refine (rNewYear_any _ _ (by omega) (by omega)).mono ?_; rintro e w' ⟨rfl, rfl⟩))
      go_ret
      exact ⟨ret_int H.out.symm, rfl⟩

set_option maxHeartbeats 1000000 in
theorem rHebMonth_10 (y : Int) (w : World) (h0 : -1 ≤ y) (h1 : y ≤ 20001) :
    Calls Try.prog 45 #[.int .i64 y, .int .i64 10] w fun e w' => e = .returned (.int .i64 (Heb.hm y 10)) ∧ w = w' := by
  have a0 := Heb.fst_in (y := y) (by omega) (by omega)
  have a1 := Heb.fst_in (y := y + 1) (by omega) (by omega)
  have H := Lib.hid (show Heb.hm y 10 = 29 by simp [Heb.hm])
  go_enter Try.func45, Try.ntmps45
  go_wp2_with ((go_at_call 71; refine (rNewYear_any _ _ (by omega) (by omega)).mono ?_; rintro e w' ⟨rfl, rfl⟩))
  go_ret
  exact ⟨ret_int H.out.symm, rfl⟩

set_option maxHeartbeats 1000000 in
theorem rHebMonth_11 (y : Int) (w : World) (h0 : -1 ≤ y) (h1 : y ≤ 20001) :
    Calls Try.prog 45 #[.int .i64 y, .int .i64 11] w fun e w' => e = .returned (.int .i64 (Heb.hm y 11)) ∧ w = w' := by
  have a0 := Heb.fst_in (y := y) (by omega) (by omega)
  have a1 := Heb.fst_in (y := y + 1) (by omega) (by omega)
  have H := Lib.hid (show Heb.hm y 11 = 30 by simp [Heb.hm])
  go_enter Try.func45, Try.ntmps45
  go_wp2_with ((go_at_call 71; refine (rNewYear_any _ _ (by omega) (by omega)).mono ?_; rintro e w' ⟨rfl, rfl⟩))
  go_ret
  exact ⟨ret_int H.out.symm, rfl⟩

set_option maxHeartbeats 1000000 in
theorem rHebMonth_12 (y : Int) (w : World) (h0 : -1 ≤ y) (h1 : y ≤ 20001) :
    Calls Try.prog 45 #[.int .i64 y, .int .i64 12] w fun e w' => e = .returned (.int .i64 (Heb.hm y 12)) ∧ w = w' := by
  have a0 := Heb.fst_in (y := y) (by omega) (by omega)
  have a1 := Heb.fst_in (y := y + 1) (by omega) (by omega)
  cases hp : Heb.lp y
  · have H := Lib.hid (show Heb.hm y 12 = 29 by simp [Heb.hm, hp])
    have HP := Lib.hid hp
    clear hp
    go_enter Try.func45, Try.ntmps45
    go_wp2_with (first | (go_at_call 71; refine (rNewYear_any _ _ (by omega) (by omega)).mono ?_; rintro e w' ⟨rfl, rfl⟩) | (go_at_call 69; refine (rHebLp_is _ _ _ (by omega) (by omega) HP.out).mono ?_; rintro e w' ⟨rfl, rfl⟩))
    go_ret
    exact ⟨ret_int H.out.symm, rfl⟩
  · have H := Lib.hid (show Heb.hm y 12 = 30 by simp [Heb.hm, hp])
    have HP := Lib.hid hp
    clear hp
    go_enter Try.func45, Try.ntmps45
    go_wp2_with (first | (go_at_call 71; refine (rNewYear_any _ _ (by omega) (by omega)).mono ?_; rintro e w' ⟨rfl, rfl⟩) | (go_at_call 69; refine (rHebLp_is _ _ _ (by omega) (by omega) HP.out).mono ?_; rintro e w' ⟨rfl, rfl⟩))
    go_ret
    exact ⟨ret_int H.out.symm, rfl⟩

set_option maxHeartbeats 1000000 in
theorem rHebMonth_13 (y : Int) (w : World) (h0 : -1 ≤ y) (h1 : y ≤ 20001) :
    Calls Try.prog 45 #[.int .i64 y, .int .i64 13] w fun e w' => e = .returned (.int .i64 (Heb.hm y 13)) ∧ w = w' := by
  have a0 := Heb.fst_in (y := y) (by omega) (by omega)
  have a1 := Heb.fst_in (y := y + 1) (by omega) (by omega)
  have H := Lib.hid (show Heb.hm y 13 = 29 by simp [Heb.hm])
  go_enter Try.func45, Try.ntmps45
  go_wp2_with ((go_at_call 71; refine (rNewYear_any _ _ (by omega) (by omega)).mono ?_; rintro e w' ⟨rfl, rfl⟩))
  go_ret
  exact ⟨ret_int H.out.symm, rfl⟩

theorem rHebMonth_any (y m : Int) (w : World) (h0 : -1 ≤ y) (h1 : y ≤ 20001) (h2 : 1 ≤ m) (h3 : m ≤ 13) :
    Calls Try.prog 45 #[.int .i64 y, .int .i64 m] w fun e w' => e = .returned (.int .i64 (Heb.hm y m)) ∧ w = w' := by
  have h : m = 1 ∨ m = 2 ∨ m = 3 ∨ m = 4 ∨ m = 5 ∨ m = 6 ∨ m = 7 ∨ m = 8 ∨ m = 9 ∨ m = 10 ∨ m = 11 ∨ m = 12 ∨ m = 13 := by omega
  rcases h with rfl | rfl | rfl | rfl | rfl | rfl | rfl | rfl | rfl | rfl | rfl | rfl | rfl
  · exact rHebMonth_1 y w h0 h1
  · exact rHebMonth_2 y w h0 h1
  · exact rHebMonth_3 y w h0 h1
  · exact rHebMonth_4 y w h0 h1
  · exact rHebMonth_5 y w h0 h1
  · exact rHebMonth_6 y w h0 h1
  · exact rHebMonth_7 y w h0 h1
  · exact rHebMonth_8 y w h0 h1
  · exact rHebMonth_9 y w h0 h1
  · exact rHebMonth_10 y w h0 h1
  · exact rHebMonth_11 y w h0 h1
  · exact rHebMonth_12 y w h0 h1
  · exact rHebMonth_13 y w h0 h1

set_option maxHeartbeats 2000000 in
theorem rHebrew_false (y m d : Int) (w : World) (h0 : 0 ≤ y) (h1 : y ≤ 20001) (h2 : 1 ≤ m) (h3 : m ≤ 12) (h4 : 0 ≤ d) (h5 : d ≤ 1000) (h6 : Heb.lp y = false) :
    Calls Try.prog 65 #[.int .i64 y, .int .i64 m, .int .i64 d] w fun e w' => e = .returned (.int .i64 (Heb.day y m d)) ∧ w = w' := by
  have hla : Heb.last y = 12 := by unfold Heb.last; rw [h6]; rfl
  have HL := Lib.hid hla
  have HP := Lib.hid h6
  have hf := Heb.fst_in (y := y) (by omega) (by omega)
  clear h6 hla
  by_cases hm : m < 7
  · go_enter Try.func65, Try.ntmps65
    go_wp2_with (first | (go_at_call 71; refine (rNewYear_any _ _ (by omega) (by omega)).mono ?_; rintro e w' ⟨rfl, rfl⟩) | (go_at_call 69; refine (rHebLp_is _ _ _ (by omega) (by omega) HP.out).mono ?_; rintro e w' ⟨rfl, rfl⟩))
    go_loop [8, 9] (fun p q => ∃ k : Int, 7 ≤ k ∧ k ≤ 13 ∧ q = .int .i64 k ∧ p = .int .i64 (Heb.fst y + d - 1 + Heb.tally y k)) (fun _ q => (20 - intOf q).toNat)
    case atStart => exact ⟨7, by omega, by omega, rfl, by rw [Heb.tally_7]; go_num⟩
    case round =>
      obtain ⟨k, hk1, hk2, rfl, rfl⟩ := hrel
      have hr := Heb.tally_in (y := y) hk1 (by rw [HL.out]; omega)
      have hh := Heb.hm_in y k
      by_cases hlt : k ≤ 12
      · have HN := Lib.hid (Heb.tally_next (y := y) hk1 (by rw [HL.out]; omega))
        go_wp2_with (first | (go_at_call 45; refine (rHebMonth_any _ _ _ (by omega) (by omega) (by omega) (by omega)).mono ?_; rintro e w' ⟨rfl, rfl⟩))
        go_round
        case rel => exact ⟨k + 1, by omega, by omega, by go_num, by rw [HN.out]; go_num⟩
        case measure => simp [intOf]; omega
      · obtain rfl : k = 13 := by omega
        have HE := Lib.hid (show Heb.tally y 13 = Heb.cum y 1 by have := Heb.tally_end y; rw [HL.out] at this; exact this)
        clear hlt
        go_wp2_with (first | (go_at_call 45; refine (rHebMonth_any _ _ _ (by omega) (by omega) (by omega) (by omega)).mono ?_; rintro e w' ⟨rfl, rfl⟩))
        go_loop [8, 10] (fun p q => ∃ k : Int, 1 ≤ k ∧ k ≤ m ∧ q = .int .i64 k ∧ p = .int .i64 (Heb.fst y + d - 1 + Heb.cum y k)) (fun _ q => (20 - intOf q).toNat)
        case atStart => exact ⟨1, by omega, by omega, rfl, by rw [HE.out]⟩
        case round =>
          obtain ⟨k, hk1, hk2, rfl, rfl⟩ := hrel
          have hr := Heb.cum_small (y := y) hk1 (by rw [HL.out]; omega)
          have hh := Heb.hm_in y k
          by_cases hlt : k < m
          · have HN := Lib.hid (Heb.cum_low (y := y) hk1 (by omega))
            go_wp2_with (first | (go_at_call 45; refine (rHebMonth_any _ _ _ (by omega) (by omega) (by omega) (by omega)).mono ?_; rintro e w' ⟨rfl, rfl⟩))
            go_round
            case rel => exact ⟨k + 1, by omega, by omega, by go_num, by rw [HN.out]; go_num⟩
            case measure => simp [intOf]; omega
          · obtain rfl : k = m := by omega
            clear hlt
            go_wp2_with (first | (go_at_call 45; refine (rHebMonth_any _ _ _ (by omega) (by omega) (by omega) (by omega)).mono ?_; rintro e w' ⟨rfl, rfl⟩))
            go_ret
            exact ⟨ret_int (by unfold Heb.day; omega), rfl⟩
  · go_enter Try.func65, Try.ntmps65
    go_wp2_with (first | (go_at_call 71; refine (rNewYear_any _ _ (by omega) (by omega)).mono ?_; rintro e w' ⟨rfl, rfl⟩) | (go_at_call 69; refine (rHebLp_is _ _ _ (by omega) (by omega) HP.out).mono ?_; rintro e w' ⟨rfl, rfl⟩))
    go_loop [8, 11] (fun p q => ∃ k : Int, 7 ≤ k ∧ k ≤ m ∧ q = .int .i64 k ∧ p = .int .i64 (Heb.fst y + d - 1 + Heb.cum y k)) (fun _ q => (20 - intOf q).toNat)
    case atStart => exact ⟨7, by omega, by omega, rfl, by rw [Heb.cum_7]; go_num⟩
    case round =>
      obtain ⟨k, hk1, hk2, rfl, rfl⟩ := hrel
      have hr := Heb.cum_small (y := y) (k := k) (by omega) (by rw [HL.out]; omega)
      have hh := Heb.hm_in y k
      by_cases hlt : k < m
      · have HN := Lib.hid (Heb.cum_up (y := y) hk1 (by rw [HL.out]; omega))
        go_wp2_with (first | (go_at_call 45; refine (rHebMonth_any _ _ _ (by omega) (by omega) (by omega) (by omega)).mono ?_; rintro e w' ⟨rfl, rfl⟩))
        go_round
        case rel => exact ⟨k + 1, by omega, by omega, by go_num, by rw [HN.out]; go_num⟩
        case measure => simp [intOf]; omega
      · obtain rfl : k = m := by omega
        clear hlt
        go_wp2_with (first | (go_at_call 45; refine (rHebMonth_any _ _ _ (by omega) (by omega) (by omega) (by omega)).mono ?_; rintro e w' ⟨rfl, rfl⟩))
        go_ret
        exact ⟨ret_int (by unfold Heb.day; omega), rfl⟩

set_option maxHeartbeats 2000000 in
theorem rHebrew_true (y m d : Int) (w : World) (h0 : 0 ≤ y) (h1 : y ≤ 20001) (h2 : 1 ≤ m) (h3 : m ≤ 13) (h4 : 0 ≤ d) (h5 : d ≤ 1000) (h6 : Heb.lp y = true) :
    Calls Try.prog 65 #[.int .i64 y, .int .i64 m, .int .i64 d] w fun e w' => e = .returned (.int .i64 (Heb.day y m d)) ∧ w = w' := by
  have hla : Heb.last y = 13 := by unfold Heb.last; rw [h6]; rfl
  have HL := Lib.hid hla
  have HP := Lib.hid h6
  have hf := Heb.fst_in (y := y) (by omega) (by omega)
  clear h6 hla
  by_cases hm : m < 7
  · go_enter Try.func65, Try.ntmps65
    go_wp2_with (first | (go_at_call 71; refine (rNewYear_any _ _ (by omega) (by omega)).mono ?_; rintro e w' ⟨rfl, rfl⟩) | (go_at_call 69; refine (rHebLp_is _ _ _ (by omega) (by omega) HP.out).mono ?_; rintro e w' ⟨rfl, rfl⟩))
    go_loop [8, 9] (fun p q => ∃ k : Int, 7 ≤ k ∧ k ≤ 14 ∧ q = .int .i64 k ∧ p = .int .i64 (Heb.fst y + d - 1 + Heb.tally y k)) (fun _ q => (20 - intOf q).toNat)
    case atStart => exact ⟨7, by omega, by omega, rfl, by rw [Heb.tally_7]; go_num⟩
    case round =>
      obtain ⟨k, hk1, hk2, rfl, rfl⟩ := hrel
      have hr := Heb.tally_in (y := y) hk1 (by rw [HL.out]; omega)
      have hh := Heb.hm_in y k
      by_cases hlt : k ≤ 13
      · have HN := Lib.hid (Heb.tally_next (y := y) hk1 (by rw [HL.out]; omega))
        go_wp2_with (first | (go_at_call 45; refine (rHebMonth_any _ _ _ (by omega) (by omega) (by omega) (by omega)).mono ?_; rintro e w' ⟨rfl, rfl⟩))
        go_round
        case rel => exact ⟨k + 1, by omega, by omega, by go_num, by rw [HN.out]; go_num⟩
        case measure => simp [intOf]; omega
      · obtain rfl : k = 14 := by omega
        have HE := Lib.hid (show Heb.tally y 14 = Heb.cum y 1 by have := Heb.tally_end y; rw [HL.out] at this; exact this)
        clear hlt
        go_wp2_with (first | (go_at_call 45; refine (rHebMonth_any _ _ _ (by omega) (by omega) (by omega) (by omega)).mono ?_; rintro e w' ⟨rfl, rfl⟩))
        go_loop [8, 10] (fun p q => ∃ k : Int, 1 ≤ k ∧ k ≤ m ∧ q = .int .i64 k ∧ p = .int .i64 (Heb.fst y + d - 1 + Heb.cum y k)) (fun _ q => (20 - intOf q).toNat)
        case atStart => exact ⟨1, by omega, by omega, rfl, by rw [HE.out]⟩
        case round =>
          obtain ⟨k, hk1, hk2, rfl, rfl⟩ := hrel
          have hr := Heb.cum_small (y := y) hk1 (by rw [HL.out]; omega)
          have hh := Heb.hm_in y k
          by_cases hlt : k < m
          · have HN := Lib.hid (Heb.cum_low (y := y) hk1 (by omega))
            go_wp2_with (first | (go_at_call 45; refine (rHebMonth_any _ _ _ (by omega) (by omega) (by omega) (by omega)).mono ?_; rintro e w' ⟨rfl, rfl⟩))
            go_round
            case rel => exact ⟨k + 1, by omega, by omega, by go_num, by rw [HN.out]; go_num⟩
            case measure => simp [intOf]; omega
          · obtain rfl : k = m := by omega
            clear hlt
            go_wp2_with (first | (go_at_call 45; refine (rHebMonth_any _ _ _ (by omega) (by omega) (by omega) (by omega)).mono ?_; rintro e w' ⟨rfl, rfl⟩))
            go_ret
            exact ⟨ret_int (by unfold Heb.day; omega), rfl⟩
  · go_enter Try.func65, Try.ntmps65
    go_wp2_with (first | (go_at_call 71; refine (rNewYear_any _ _ (by omega) (by omega)).mono ?_; rintro e w' ⟨rfl, rfl⟩) | (go_at_call 69; refine (rHebLp_is _ _ _ (by omega) (by omega) HP.out).mono ?_; rintro e w' ⟨rfl, rfl⟩))
    go_loop [8, 11] (fun p q => ∃ k : Int, 7 ≤ k ∧ k ≤ m ∧ q = .int .i64 k ∧ p = .int .i64 (Heb.fst y + d - 1 + Heb.cum y k)) (fun _ q => (20 - intOf q).toNat)
    case atStart => exact ⟨7, by omega, by omega, rfl, by rw [Heb.cum_7]; go_num⟩
    case round =>
      obtain ⟨k, hk1, hk2, rfl, rfl⟩ := hrel
      have hr := Heb.cum_small (y := y) (k := k) (by omega) (by rw [HL.out]; omega)
      have hh := Heb.hm_in y k
      by_cases hlt : k < m
      · have HN := Lib.hid (Heb.cum_up (y := y) hk1 (by rw [HL.out]; omega))
        go_wp2_with (first | (go_at_call 45; refine (rHebMonth_any _ _ _ (by omega) (by omega) (by omega) (by omega)).mono ?_; rintro e w' ⟨rfl, rfl⟩))
        go_round
        case rel => exact ⟨k + 1, by omega, by omega, by go_num, by rw [HN.out]; go_num⟩
        case measure => simp [intOf]; omega
      · obtain rfl : k = m := by omega
        clear hlt
        go_wp2_with (first | (go_at_call 45; refine (rHebMonth_any _ _ _ (by omega) (by omega) (by omega) (by omega)).mono ?_; rintro e w' ⟨rfl, rfl⟩))
        go_ret
        exact ⟨ret_int (by unfold Heb.day; omega), rfl⟩

theorem rHebrew_any (y m d : Int) (w : World) (h0 : 0 ≤ y) (h1 : y ≤ 20001) (h2 : 1 ≤ m) (h3 : m ≤ Heb.last y) (h4 : 0 ≤ d) (h5 : d ≤ 1000) :
    Calls Try.prog 65 #[.int .i64 y, .int .i64 m, .int .i64 d] w fun e w' => e = .returned (.int .i64 (Heb.day y m d)) ∧ w = w' := by
  unfold Heb.last at h3
  cases h : Heb.lp y
  · rw [h] at h3; exact rHebrew_false y m d w h0 h1 h2 h3 h4 h5 h
  · rw [h] at h3; exact rHebrew_true y m d w h0 h1 h2 h3 h4 h5 h

set_option maxHeartbeats 400000 in
theorem rFixed3_any (y m d : Int) (w : World) (h0 : 0 ≤ y) (h1 : y ≤ 20001) (h2 : 1 ≤ m) (h3 : m ≤ Heb.last y) (h4 : 0 ≤ d) (h5 : d ≤ 1000) :
    Calls Try.prog 36 #[.int .i64 3, .int .i64 y, .int .i64 m, .int .i64 d] w fun e w' => e = .returned (.int .i64 (Heb.day y m d)) ∧ w = w' := by
  go_enter Try.func36, Try.ntmps36
  go_wp2_with (go_at_call 65; refine (rHebrew_any _ _ _ _ (by omega) (by omega) (by omega) (by omega) (by omega) (by omega)).mono ?_; rintro e w' ⟨rfl, rfl⟩)
  go_ret
  exact ⟨rfl, rfl⟩

set_option maxHeartbeats 400000 in
theorem rMonths3_any (y : Int) (w : World) (h0 : -1000000 ≤ y) (h1 : y ≤ 1000000) :
    Calls Try.prog 37 #[.int .i64 3, .int .i64 y] w fun e w' => e = .returned (.int .i64 (Heb.last y)) ∧ w = w' := by
  cases h : Heb.lp y
  · have H := Lib.hid (show Heb.last y = 12 by unfold Heb.last; rw [h]; rfl)
    have HP := Lib.hid h
    clear h
    go_enter Try.func37, Try.ntmps37
    go_wp2_with ((go_at_call 69; refine (rHebLp_is _ _ _ (by omega) (by omega) HP.out).mono ?_; rintro e w' ⟨rfl, rfl⟩))
    go_ret
    exact ⟨ret_int H.out.symm, rfl⟩
  · have H := Lib.hid (show Heb.last y = 13 by unfold Heb.last; rw [h]; rfl)
    have HP := Lib.hid h
    clear h
    go_enter Try.func37, Try.ntmps37
    go_wp2_with ((go_at_call 69; refine (rHebLp_is _ _ _ (by omega) (by omega) HP.out).mono ?_; rintro e w' ⟨rfl, rfl⟩))
    go_ret
    exact ⟨ret_int H.out.symm, rfl⟩

theorem rNext3_any (y : Int) (w : World) (h0 : -30000 ≤ y) (h1 : y ≤ 30000) :
    Calls Try.prog 47 #[.int .i64 3, .int .i64 y] w fun e w' => e = .returned (.int .i64 (y + 1)) ∧ w = w' := by
  go_enter Try.func47, Try.ntmps47
  go_wp2
  go_ret
  exact ⟨rfl, rfl⟩

theorem rBegins3_any (y : Int) (w : World) (h0 : -1 ≤ y) (h1 : y ≤ 20002) :
    Calls Try.prog 46 #[.int .i64 3, .int .i64 y] w fun e w' => e = .returned (.int .i64 (Heb.fst y)) ∧ w = w' := by
  go_enter Try.func46, Try.ntmps46
  go_wp2_with ((go_at_call 71; refine (rNewYear_any _ _ (by omega) (by omega)).mono ?_; rintro e w' ⟨rfl, rfl⟩))
  go_ret
  exact ⟨rfl, rfl⟩

theorem rLeast3_any (w : World) :
    Calls Try.prog 49 #[.int .i64 3] w fun e w' => e = .returned (.int .i64 3000) ∧ w = w' := by
  go_enter Try.func49, Try.ntmps49
  go_wp2
  go_ret
  exact ⟨rfl, rfl⟩

theorem rYears3_any (w : World) :
    Calls Try.prog 43 #[.int .i64 3] w fun e w' => e = .returned (.tuple #[.int .i64 1, .int .i64 20000]) ∧ w = w' := by
  go_enter Try.func43, Try.ntmps43
  go_wp2
  go_ret2
  exact ⟨rfl, rfl⟩

set_option maxHeartbeats 1000000 in
theorem rLength3_any (y m : Int) (w : World) (h0 : 0 ≤ y) (h1 : y ≤ 20000) :
    Calls Try.prog 23 #[.int .i64 3, .int .i64 y, .int .i64 m] w fun e w' => e = .returned (.int .i64 (Heb.len y m)) ∧ w = w' := by
  by_cases a : m < 1
  · have H := Lib.hid (show Heb.len y m = 0 by unfold Heb.len; rw [if_pos (Or.inl a)])
    have g0 : decide (m < 1) = true := decide_eq_true a
    go_enter Try.func23, Try.ntmps23
    go_wp2
    go_ret
    exact ⟨ret_int H.out.symm, rfl⟩
  · have g0 : decide (m < 1) = false := decide_eq_false a
    by_cases b : Heb.last y < m
    · have H := Lib.hid (show Heb.len y m = 0 by unfold Heb.len; rw [if_pos (Or.inr b)])
      have g1 : decide (Heb.last y < m) = true := decide_eq_true b
      go_enter Try.func23, Try.ntmps23
      go_wp2_with (go_at_call 37; refine (rMonths3_any _ _ (by omega) (by omega)).mono ?_; rintro e w' ⟨rfl, rfl⟩)
      go_ret
      exact ⟨ret_int H.out.symm, rfl⟩
    · have g1 : decide (Heb.last y < m) = false := decide_eq_false b
      have H := Lib.hid (Heb.len_eq (y := y) (m := m) (by omega) (by omega))
      have hl : Heb.last y ≤ 13 := by have := Heb.last_in y; omega
      go_enter Try.func23, Try.ntmps23
      go_wp2_with (first | (go_at_call 37; refine (rMonths3_any _ _ (by omega) (by omega)).mono ?_; rintro e w' ⟨rfl, rfl⟩) | (go_at_call 45; refine (rHebMonth_any _ _ _ (by omega) (by omega) (by omega) (by omega)).mono ?_; rintro e w' ⟨rfl, rfl⟩))
      go_ret
      exact ⟨ret_int H.out.symm, rfl⟩

end Go.Proofs.Ytfkbibjbdibcjaa
