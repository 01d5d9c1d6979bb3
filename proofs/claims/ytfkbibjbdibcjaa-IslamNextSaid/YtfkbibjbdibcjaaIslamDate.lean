/- The walk of Islamic: of a day it hands back the date, else the error of the range. -/
import Derived.Test.YtfkbibjbdibcjaaIslamWalks
namespace Go.Proofs.Ytfkbibjbdibcjaa
open Go.RowKit

theorem islDate_out (n : Int) (w : World) (h : n < 1 ∨ 3652059 < n) :
    Calls Try.prog 24 #[.int .i64 n] w fun e w' => e = .returned (.tuple #[.agg #[.int .i64 0, .int .i64 0, .int .i64 0], .int .i64 2]) ∧ Below w.heap.size w w' := by
  have HO := Lib.hid (isDay_no h)
  clear h
  go_enter Try.func24, Try.ntmps24
  go_wp2_with (go_at_call 42; refine (of_any _ _).mono ?_; rw [HO.out]; rintro e w' ⟨rfl, rfl⟩)
  exact bodyPost_ret (v := .tuple #[.agg #[.int .i64 0, .int .i64 0, .int .i64 0], .int .i64 2]) (by simp [results, Try.results24, go_sem]) rfl ⟨rfl, (Below.refl _ _).alloc (Nat.le_refl _) _⟩

set_option maxHeartbeats 400000 in
theorem islDate_in (n y m d : Int) (w : World) (h1 : 1 ≤ n) (h2 : n ≤ 3652059) (h : Isl.Is n y m d) :
    Calls Try.prog 24 #[.int .i64 n] w fun e w' => e = .returned (.tuple #[.agg #[.int .i64 y, .int .i64 m, .int .i64 d], .int .i64 0]) ∧ Below w.heap.size w w' := by
  have HO := Lib.hid (isDay_yes h1 h2)
  have HY := Lib.hid h.year
  have hy := h.near h1 h2
  have hf := Isl.fst_in (y := y) (by omega) (by omega)
  have HI := Lib.hid h
  clear h
  go_enter Try.func24, Try.ntmps24
  go_wp2_with (first | (go_at_call 42; refine (of_any _ _).mono ?_; rw [HO.out]; rintro e w' ⟨rfl, rfl⟩) | (go_at_call 48; refine (floor_any _ _ _ (by omega) (by omega) (by omega) (by omega)).mono ?_; rw [HY.out]; rintro e w' ⟨rfl, rfl⟩) | (go_at_call 41; refine (islFirst_any _ _ (by omega) (by omega)).mono ?_; rintro e w' ⟨rfl, rfl⟩))
  go_loopw [5] (fun t wr => ∃ k : Int, 1 ≤ k ∧ k ≤ m ∧ t = .int .i64 (n - Isl.fst y - Isl.cum k) ∧ wr = (w.alloc (.cells #[.int .i64 0, .int .i64 0, .int .i64 0] 23)).alloc (.cells #[.int .i64 y, .int .i64 k, .int .i64 0] 23)) (fun t _ => (intOf t).toNat)
  case atStart => exact ⟨1, by omega, HI.out.m1, by rw [Isl.cum_one]; go_num, rfl⟩
  case round =>
    obtain ⟨k, hk1, hk2, rfl, rfl⟩ := hrel
    have hm := HI.out.m12
    have hc := Isl.cum_in hk1 (by omega : k ≤ 13)
    have hk := Isl.len_in y k
    have hk' := Isl.len_ge (y := y) hk1 (by omega)
    have he := HI.out.eq
    have hd1 := HI.out.d1
    have hd2 := HI.out.dm
    by_cases hlt : k < m
    · have hcm := Isl.cum_mono (y := y) hk1 hm hlt
      have hge : Isl.len y k ≤ n - Isl.fst y - Isl.cum k := by omega
      have HN := Lib.hid (Isl.cum_next (y := y) hk1 (by omega : k ≤ 11))
      clear he hd1 hd2 hcm
      go_wp2_with (go_at_call 40; refine (islLength_any _ _ _ (by omega) (by omega)).mono ?_; rintro e w' ⟨rfl, rfl⟩)
      go_roundw
      case rel => exact ⟨k + 1, by omega, by omega, by rw [HN.out]; go_num, rfl⟩
      case measure => simp [intOf]; omega
    · obtain rfl : k = m := by omega
      have hlt' : n - Isl.fst y - Isl.cum k < Isl.len y k := by omega
      have HD : Hid (n - Isl.fst y - Isl.cum k + 1 = d) := Lib.hid (by omega)
      clear he hd1 hd2
      go_wp2_with (go_at_call 40; refine (islLength_any _ _ _ (by omega) (by omega)).mono ?_; rintro e w' ⟨rfl, rfl⟩)
      rw [HD.out]
      exact bodyPost_ret (v := .tuple #[.agg #[.int .i64 y, .int .i64 k, .int .i64 d], .int .i64 0]) (by simp [results, Try.results24, go_sem]) rfl ⟨rfl, ((Below.refl _ _).alloc (Nat.le_refl _) _).alloc (by simp) _⟩
end Go.Proofs.Ytfkbibjbdibcjaa
