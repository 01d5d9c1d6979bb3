/- The walks of package persian's inner functions: each hands back what the plain arithmetic says. -/
import Derived.Test.YtfkbibjbdibcjaaDays
import Derived.Test.YtfkbibjbdibcjaaPersian
namespace Go.Proofs.Ytfkbibjbdibcjaa
open Go.RowKit

set_option maxHeartbeats 400000 in
theorem persRight_any (y : Int) (w : World) :
    Calls Try.prog 52 #[.int .i64 y] w fun e w' => e = .returned (.bool (Pers.right y)) ∧ w = w' := by
  by_cases h0 : -10000 ≤ y
  · by_cases h1 : y ≤ 20000
    · by_cases h2 : y = 0
      · have H := Lib.hid (Pers.right_no (y := y) (by omega))
        have g2 : (y != 0) = false := bne_eq_false_iff_eq.mpr h2
        clear h2
        go_enter Try.func52, Try.ntmps52
        go_wp2
        go_ret
        exact ⟨ret_bool H.out.symm, rfl⟩
      · have H := Lib.hid (Pers.right_yes h0 h1 h2)
        have g2 : (y != 0) = true := bne_iff_ne.mpr h2
        clear h2
        go_enter Try.func52, Try.ntmps52
        go_wp2
        go_ret
        exact ⟨ret_bool H.out.symm, rfl⟩
    · have H := Lib.hid (Pers.right_no (y := y) (by omega))
      go_enter Try.func52, Try.ntmps52
      go_wp2
      go_ret
      exact ⟨ret_bool H.out.symm, rfl⟩
  · have H := Lib.hid (Pers.right_no (y := y) (by omega))
    go_enter Try.func52, Try.ntmps52
    go_wp2
    go_ret
    exact ⟨ret_bool H.out.symm, rfl⟩

set_option maxHeartbeats 400000 in
theorem persShifted_any (y : Int) (w : World) (h0 : -1000000 ≤ y) (h1 : y ≤ 1000000) :
    Calls Try.prog 55 #[.int .i64 y] w fun e w' => e = .returned (.int .i64 (Pers.shf y)) ∧ w = w' := by
  by_cases h : 0 < y
  · have H := Lib.hid (show Pers.shf y = y - 474 by unfold Pers.shf; rw [if_pos h])
    go_enter Try.func55, Try.ntmps55
    go_wp2
    go_ret
    exact ⟨ret_int H.out.symm, rfl⟩
  · have H := Lib.hid (show Pers.shf y = y - 474 + 1 by unfold Pers.shf; rw [if_neg h])
    go_enter Try.func55, Try.ntmps55
    go_wp2
    go_ret
    exact ⟨ret_int H.out.symm, rfl⟩

/-- Some number is handed back, and the world is as it was. -/
def SomeNumber (w : World) (e : Ending) (w' : World) : Prop := ∃ r : Int, e = .returned (.int .i64 r) ∧ w = w'

set_option maxHeartbeats 400000 in
theorem persShifted_some (y : Int) (w : World) : Calls Try.prog 55 #[.int .i64 y] w (SomeNumber w) := by
  by_cases h : 0 < y
  · go_enter Try.func55, Try.ntmps55
    go_wp2
    go_ret
    exact ⟨_, rfl, rfl⟩
  · go_enter Try.func55, Try.ntmps55
    go_wp2
    go_ret
    exact ⟨_, rfl, rfl⟩

set_option maxHeartbeats 400000 in
theorem floor_some (a b : Int) (w : World) (hb : 0 < b) : Calls Try.prog 48 #[.int .i64 a, .int .i64 b] w (SomeNumber w) := by
  go_enter Try.func48, Try.ntmps48
  go_wp2
  all_goals (go_ret; exact ⟨_, rfl, rfl⟩)

set_option maxHeartbeats 400000 in
theorem mod_some (a b : Int) (w : World) (hb : 0 < b) : Calls Try.prog 44 #[.int .i64 a, .int .i64 b] w (SomeNumber w) := by
  go_enter Try.func44, Try.ntmps44
  go_wp2_with (go_at_call 48; refine (floor_some _ _ _ hb).mono ?_; rintro e w' ⟨r, rfl, rfl⟩)
  go_ret
  exact ⟨_, rfl, rfl⟩

set_option maxHeartbeats 400000 in
theorem persLeap_in (y : Int) (w : World) (h : Pers.right y = true) :
    Calls Try.prog 29 #[.int .i64 y] w fun e w' => e = .returned (.bool (Pers.leap y)) ∧ w = w' := by
  obtain ⟨h0, h1, h2⟩ := Pers.right_in h
  have HR := Lib.hid h
  have HS := Lib.hid (Pers.shf_eq h2)
  have H := Lib.hid (show Pers.leap y = decide (((Pers.zed y % 2820 + 474 + 38) * 31) % 128 < 31) by rw [Pers.leap_in h]; rfl)
  have hz : -20000 ≤ Pers.zed y ∧ Pers.zed y ≤ 30000 := by unfold Pers.zed; split <;> omega
  clear h h2
  go_enter Try.func29, Try.ntmps29
  go_wp2_with (first | (go_at_call 55; refine (persShifted_any _ _ (by omega) (by omega)).mono ?_; rw [HS.out]; rintro e w' ⟨rfl, rfl⟩) | (go_at_call 44; refine (mod_any _ _ _ (by omega) (by omega) (by omega) (by omega)).mono ?_; rintro e w' ⟨rfl, rfl⟩) | (go_at_call 52; refine (persRight_any _ _).mono ?_; rw [HR.out]; rintro e w' ⟨rfl, rfl⟩))
  go_ret
  exact ⟨ret_bool H.out.symm, rfl⟩

set_option maxHeartbeats 400000 in
theorem persLeap_out (y : Int) (w : World) (h : Pers.right y = false) :
    Calls Try.prog 29 #[.int .i64 y] w fun e w' => e = .returned (.bool (Pers.leap y)) ∧ w = w' := by
  have HR := Lib.hid h
  have H := Lib.hid (Pers.leap_out h)
  clear h
  go_enter Try.func29, Try.ntmps29
  go_wp2_with (first | (go_at_call 55; refine (persShifted_some _ _).mono ?_; rintro e w' ⟨r, rfl, rfl⟩) | (go_at_call 44; refine (mod_some _ _ _ (by omega)).mono ?_; rintro e w' ⟨q, rfl, rfl⟩) | (go_at_call 52; refine (persRight_any _ _).mono ?_; rw [HR.out]; rintro e w' ⟨rfl, rfl⟩))
  go_ret
  exact ⟨ret_bool H.out.symm, rfl⟩

theorem persLeap_any (y : Int) (w : World) :
    Calls Try.prog 29 #[.int .i64 y] w fun e w' => e = .returned (.bool (Pers.leap y)) ∧ w = w' := by
  cases h : Pers.right y
  · exact persLeap_out y w h
  · exact persLeap_in y w h

set_option maxHeartbeats 400000 in
theorem persLength_any (y m : Int) (w : World) (h : Pers.right y = true) :
    Calls Try.prog 53 #[.int .i64 y, .int .i64 m] w fun e w' => e = .returned (.int .i64 (Pers.len y m)) ∧ w = w' := by
  have hl := Pers.leap_in h
  clear h
  by_cases a : m < 1
  · have H := Lib.hid (show Pers.len y m = 0 by unfold Pers.len; rw [if_pos (Or.inl a)])
    clear hl
    go_enter Try.func53, Try.ntmps53
    go_wp2
    go_ret
    exact ⟨ret_int H.out.symm, rfl⟩
  · by_cases b : 12 < m
    · have H := Lib.hid (show Pers.len y m = 0 by unfold Pers.len; rw [if_pos (Or.inr b)])
      clear hl
      go_enter Try.func53, Try.ntmps53
      go_wp2
      go_ret
      exact ⟨ret_int H.out.symm, rfl⟩
    · by_cases c : m ≤ 6
      · have H := Lib.hid (show Pers.len y m = 31 by unfold Pers.len; rw [if_neg (by omega), if_pos c])
        clear hl
        go_enter Try.func53, Try.ntmps53
        go_wp2
        go_ret
        exact ⟨ret_int H.out.symm, rfl⟩
      · by_cases d : m < 12
        · have H := Lib.hid (show Pers.len y m = 30 by unfold Pers.len; rw [if_neg (by omega), if_neg c, if_pos (Or.inl d)])
          clear hl
          go_enter Try.func53, Try.ntmps53
          go_wp2
          go_ret
          exact ⟨ret_int H.out.symm, rfl⟩
        · cases e : Pers.lp y
          · have H := Lib.hid (show Pers.len y m = 29 by unfold Pers.len; rw [if_neg (by omega), if_neg c, if_neg (by simp [d, e])])
            have HE := Lib.hid (hl.trans e)
            clear hl e
            go_enter Try.func53, Try.ntmps53
            go_wp2_with (go_at_call 29; refine (persLeap_any _ _).mono ?_; rw [HE.out]; rintro e w' ⟨rfl, rfl⟩)
            go_ret
            exact ⟨ret_int H.out.symm, rfl⟩
          · have H := Lib.hid (show Pers.len y m = 30 by unfold Pers.len; rw [if_neg (by omega), if_neg c, if_pos (by simp [e])])
            have HE := Lib.hid (hl.trans e)
            clear hl e
            go_enter Try.func53, Try.ntmps53
            go_wp2_with (go_at_call 29; refine (persLeap_any _ _).mono ?_; rw [HE.out]; rintro e w' ⟨rfl, rfl⟩)
            go_ret
            exact ⟨ret_int H.out.symm, rfl⟩

set_option maxHeartbeats 400000 in
theorem persFirst_any (y : Int) (w : World) (h0 : -20000 ≤ y) (h1 : y ≤ 30000) (h2 : y ≠ 0) :
    Calls Try.prog 54 #[.int .i64 y] w fun e w' => e = .returned (.int .i64 (Pers.fst y)) ∧ w = w' := by
  have HS := Lib.hid (Pers.shf_eq h2)
  have hz : -21000 ≤ Pers.zed y ∧ Pers.zed y ≤ 31000 := by unfold Pers.zed; split <;> omega
  have H := Lib.hid (show Pers.fst y = 226896 + 1029983 * (Pers.zed y / 2820) + 365 * (Pers.zed y % 2820 + 474 - 1) + (31 * (Pers.zed y % 2820 + 474) - 5) / 128 from rfl)
  clear h2
  go_enter Try.func54, Try.ntmps54
  go_wp2_with (first | (go_at_call 55; refine (persShifted_any _ _ (by omega) (by omega)).mono ?_; rw [HS.out]; rintro e w' ⟨rfl, rfl⟩) | (go_at_call 44; refine (mod_any _ _ _ (by omega) (by omega) (by omega) (by omega)).mono ?_; rintro e w' ⟨rfl, rfl⟩) | (go_at_call 48; refine (floor_any _ _ _ (by omega) (by omega) (by omega) (by omega)).mono ?_; rintro e w' ⟨rfl, rfl⟩))
  go_ret
  exact ⟨ret_int H.out.symm, rfl⟩

set_option maxHeartbeats 400000 in
theorem persNext_any (y : Int) (w : World) (h0 : -20000 ≤ y) (h1 : y ≤ 30000) :
    Calls Try.prog 56 #[.int .i64 y] w fun e w' => e = .returned (.int .i64 (Pers.nxt y)) ∧ w = w' := by
  by_cases h : y = -1
  · have H := Lib.hid (show Pers.nxt y = 1 by unfold Pers.nxt; rw [if_pos h])
    have g : (y == -1) = true := beq_iff_eq.mpr h
    clear h
    go_enter Try.func56, Try.ntmps56
    go_wp2
    go_ret
    exact ⟨ret_int H.out.symm, rfl⟩
  · have H := Lib.hid (show Pers.nxt y = y + 1 by unfold Pers.nxt; rw [if_neg h])
    have g : (y == -1) = false := beq_eq_false_iff_ne.mpr h
    clear h
    go_enter Try.func56, Try.ntmps56
    go_wp2
    go_ret
    exact ⟨ret_int H.out.symm, rfl⟩

theorem persRight_is (y : Int) (b : Bool) (w : World) (h : Pers.right y = b) :
    Calls Try.prog 52 #[.int .i64 y] w fun e w' => e = .returned (.bool b) ∧ w = w' := by
  rw [← h]; exact persRight_any y w

end Go.Proofs.Ytfkbibjbdibcjaa
