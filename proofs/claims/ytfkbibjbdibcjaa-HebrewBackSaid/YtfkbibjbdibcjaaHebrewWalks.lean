/- The walks of package hebrew's inner functions: each hands back what the plain arithmetic says. -/
import Derived.Test.YtfkbibjbdibcjaaDays
import Derived.Test.YtfkbibjbdibcjaaHebrew
namespace Go.Proofs.Ytfkbibjbdibcjaa
open Go.RowKit

set_option maxHeartbeats 400000 in
theorem hebRight_any (y : Int) (w : World) :
    Calls Try.prog 57 #[.int .i64 y] w fun e w' => e = .returned (.bool (Heb.right y)) ∧ w = w' := by
  by_cases h0 : 1 ≤ y
  · by_cases h1 : y ≤ 20000
    · have H := Lib.hid (Heb.right_yes h0 h1)
      go_enter Try.func57, Try.ntmps57
      go_wp2
      go_ret
      exact ⟨ret_bool H.out.symm, rfl⟩
    · have H := Lib.hid (Heb.right_no (y := y) (by omega))
      go_enter Try.func57, Try.ntmps57
      go_wp2
      go_ret
      exact ⟨ret_bool H.out.symm, rfl⟩
  · have H := Lib.hid (Heb.right_no (y := y) (by omega))
    go_enter Try.func57, Try.ntmps57
    go_wp2
    go_ret
    exact ⟨ret_bool H.out.symm, rfl⟩

set_option maxHeartbeats 400000 in
theorem hebLp_any (y : Int) (w : World) (h0 : -1000000 ≤ y) (h1 : y ≤ 1000000) :
    Calls Try.prog 59 #[.int .i64 y] w fun e w' => e = .returned (.bool (Heb.lp y)) ∧ w = w' := by
  have H := Lib.hid (show Heb.lp y = decide ((7 * y + 1) % 19 < 7) from rfl)
  go_enter Try.func59, Try.ntmps59
  go_wp2_with (go_at_call 44; refine (mod_any _ _ _ (by omega) (by omega) (by omega) (by omega)).mono ?_; rintro e w' ⟨rfl, rfl⟩)
  go_ret
  exact ⟨ret_bool H.out.symm, rfl⟩
theorem hebLp_is (y : Int) (b : Bool) (w : World) (h0 : -1000000 ≤ y) (h1 : y ≤ 1000000) (h : Heb.lp y = b) :
    Calls Try.prog 59 #[.int .i64 y] w fun e w' => e = .returned (.bool b) ∧ w = w' := by
  rw [← h]; exact hebLp_any y w h0 h1

set_option maxHeartbeats 400000 in
theorem hebLeap_any (y : Int) (w : World) :
    Calls Try.prog 34 #[.int .i64 y] w fun e w' => e = .returned (.bool (Heb.leap y)) ∧ w = w' := by
  cases h : Heb.right y
  · have H := Lib.hid (show Heb.leap y = false by unfold Heb.leap; rw [h]; rfl)
    have HR := Lib.hid h
    clear h
    go_enter Try.func34, Try.ntmps34
    go_wp2_with (go_at_call 57; refine (hebRight_any _ _).mono ?_; rw [HR.out]; rintro e w' ⟨rfl, rfl⟩)
    go_ret
    exact ⟨ret_bool H.out.symm, rfl⟩
  · have H := Lib.hid (show Heb.leap y = Heb.lp y by unfold Heb.leap; rw [h]; rfl)
    have hin := Heb.right_in h
    have HR := Lib.hid h
    clear h
    go_enter Try.func34, Try.ntmps34
    go_wp2_with (first | (go_at_call 57; refine (hebRight_any _ _).mono ?_; rw [HR.out]; rintro e w' ⟨rfl, rfl⟩) | (go_at_call 59; refine (hebLp_any _ _ (by omega) (by omega)).mono ?_; rintro e w' ⟨rfl, rfl⟩))
    go_ret
    exact ⟨ret_bool H.out.symm, rfl⟩

set_option maxHeartbeats 400000 in
theorem hebLast_any (y : Int) (w : World) (h0 : -1000000 ≤ y) (h1 : y ≤ 1000000) :
    Calls Try.prog 60 #[.int .i64 y] w fun e w' => e = .returned (.int .i64 (Heb.last y)) ∧ w = w' := by
  cases h : Heb.lp y
  · have H := Lib.hid (show Heb.last y = 12 by unfold Heb.last; rw [if_neg (by simp [h])])
    have HR := Lib.hid h
    clear h
    go_enter Try.func60, Try.ntmps60
    go_wp2_with (go_at_call 59; refine (hebLp_is _ _ _ (by omega) (by omega) HR.out).mono ?_; rintro e w' ⟨rfl, rfl⟩)
    go_ret
    exact ⟨ret_int H.out.symm, rfl⟩
  · have H := Lib.hid (show Heb.last y = 13 by unfold Heb.last; rw [if_pos h])
    have HR := Lib.hid h
    clear h
    go_enter Try.func60, Try.ntmps60
    go_wp2_with (go_at_call 59; refine (hebLp_is _ _ _ (by omega) (by omega) HR.out).mono ?_; rintro e w' ⟨rfl, rfl⟩)
    go_ret
    exact ⟨ret_int H.out.symm, rfl⟩

theorem Heb.elp_up {y : Int} (h : (3 * (Heb.dys y + 1)) % 7 < 3) : Heb.elp y = Heb.dys y + 1 := by unfold Heb.elp; rw [if_pos h]
theorem Heb.elp_same {y : Int} (h : ¬ (3 * (Heb.dys y + 1)) % 7 < 3) : Heb.elp y = Heb.dys y := by unfold Heb.elp; rw [if_neg h]

set_option maxHeartbeats 1000000 in
theorem hebElapsed_any (y : Int) (w : World) (h0 : -2 ≤ y) (h1 : y ≤ 20003) :
    Calls Try.prog 72 #[.int .i64 y] w fun e w' => e = .returned (.int .i64 (Heb.elp y)) ∧ w = w' := by
  have hm := Heb.mon_in h0 h1
  have hd := Heb.dys_in h0 h1
  have HM := Lib.hid (show (235 * y - 234) / 19 = Heb.mon y from rfl)
  have hd' : -1200 ≤ 29 * Heb.mon y + (12084 + 13753 * Heb.mon y) / 25920 ∧ 29 * Heb.mon y + (12084 + 13753 * Heb.mon y) / 25920 ≤ 8000000 := hd
  clear hd
  have hb : -1000000 ≤ (12084 + 13753 * Heb.mon y) / 25920 ∧ (12084 + 13753 * Heb.mon y) / 25920 ≤ 1000000 := by omega
  by_cases h : (3 * (Heb.dys y + 1)) % 7 < 3
  · have H := Lib.hid (Heb.elp_up h)
    have h' : (3 * (29 * Heb.mon y + (12084 + 13753 * Heb.mon y) / 25920 + 1)) % 7 < 3 := h
    clear h
    go_enter Try.func72, Try.ntmps72
    go_wp2_with (first | (go_at_call 48; have tok := HM; refine (floor_any _ _ _ (by omega) (by omega) (by omega) (by omega)).mono ?_; rw [HM.out]; rintro e w' ⟨rfl, rfl⟩) | (go_at_call 48; refine (floor_any _ _ _ (by omega) (by omega) (by omega) (by omega)).mono ?_; rintro e w' ⟨rfl, rfl⟩) | (go_at_call 44; refine (mod_any _ _ _ (by omega) (by omega) (by omega) (by omega)).mono ?_; rintro e w' ⟨rfl, rfl⟩))
    go_ret
    exact ⟨ret_int H.out.symm, rfl⟩
  · have H := Lib.hid (Heb.elp_same h)
    have h' : ¬ (3 * (29 * Heb.mon y + (12084 + 13753 * Heb.mon y) / 25920 + 1)) % 7 < 3 := h
    clear h
    go_enter Try.func72, Try.ntmps72
    go_wp2_with (first | (go_at_call 48; have tok := HM; refine (floor_any _ _ _ (by omega) (by omega) (by omega) (by omega)).mono ?_; rw [HM.out]; rintro e w' ⟨rfl, rfl⟩) | (go_at_call 48; refine (floor_any _ _ _ (by omega) (by omega) (by omega) (by omega)).mono ?_; rintro e w' ⟨rfl, rfl⟩) | (go_at_call 44; refine (mod_any _ _ _ (by omega) (by omega) (by omega) (by omega)).mono ?_; rintro e w' ⟨rfl, rfl⟩))
    go_ret
    exact ⟨ret_int H.out.symm, rfl⟩

end Go.Proofs.Ytfkbibjbdibcjaa
