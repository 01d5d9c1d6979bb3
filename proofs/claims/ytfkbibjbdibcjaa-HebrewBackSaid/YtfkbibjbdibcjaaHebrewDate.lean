/- The walk of Hebrew: of a day it hands back the date, else the error of the range. -/
import Derived.Test.YtfkbibjbdibcjaaHebrewFrom
import Derived.Deep.LoopGhost
namespace Go.Proofs.Ytfkbibjbdibcjaa
open Go.RowKit

theorem hebDate_out (n : Int) (w : World) (h : n < 1 ∨ 3652059 < n) :
    Calls Try.prog 39 #[.int .i64 n] w fun e w' => e = .returned (.tuple #[.agg #[.int .i64 0, .int .i64 0, .int .i64 0], .int .i64 2]) ∧ Below w.heap.size w w' := by
  have HO := Lib.hid (isDay_no h)
  clear h
  go_enter Try.func39, Try.ntmps39
  go_wp2_with (go_at_call 42; refine (of_any _ _).mono ?_; rw [HO.out]; rintro e w' ⟨rfl, rfl⟩)
  exact bodyPost_ret (v := .tuple #[.agg #[.int .i64 0, .int .i64 0, .int .i64 0], .int .i64 2]) (by simp [results, Try.results39, go_sem]) rfl ⟨rfl, (Below.refl _ _).alloc (Nat.le_refl _) _⟩

theorem Heb.Is.above {n y m d a : Int} (h : Heb.Is n y m d) (h1 : Heb.fst a ≤ n) : a ≤ y := by
  by_cases g : y < a
  · have := Heb.fst_mono (a := y + 1) (b := a) (by omega)
    have := h.to_y
    omega
  · omega
theorem Heb.Is.ahead {n y m d a : Int} (h : Heb.Is n y m d) (h1 : a < y) : Heb.fst (a + 1) ≤ n := by
  have := Heb.fst_mono (a := a + 1) (b := y) (by omega)
  have := h.from_y
  omega
theorem Heb.Is.step {n y m d k : Int} (h : Heb.Is n y m d) (h1 : 1 ≤ k) (h2 : k ≤ Heb.last y) (h3 : Heb.pos k ≤ Heb.pos m) (h4 : k ≠ m) : Heb.hm y k ≤ n - Heb.fst y - Heb.cum y k := by
  have := h.eq; have := h.d1
  have hp := Heb.pos_lt h1 h2 h.m1 h.ml h3 h4
  have := Heb.cum_mono h.m1 h.ml (Heb.pos m - Heb.pos k).toNat k h1 h2 (by omega) (by omega)
  omega
theorem Heb.Is.stop {n y m d : Int} (h : Heb.Is n y m d) : n - Heb.fst y - Heb.cum y m < Heb.hm y m ∧ n - Heb.fst y - Heb.cum y m + 1 = d := by
  have := h.eq; have := h.dh
  omega
theorem Heb.Is.off {n y m d : Int} (h : Heb.Is n y m d) : 0 ≤ n - Heb.fst y ∧ n - Heb.fst y ≤ 400 := by
  have := h.from_y; have := h.to_y; have := Heb.days_in y; have := Heb.fst_next y
  omega

set_option maxHeartbeats 4000000 in
theorem hebDate_in (n y m d : Int) (w : World) (h1 : 1 ≤ n) (h2 : n ≤ 3652059) (h : Heb.Is n y m d) :
    Calls Try.prog 39 #[.int .i64 n] w fun e w' => e = .returned (.tuple #[.agg #[.int .i64 y, .int .i64 m, .int .i64 d], .int .i64 0]) ∧ Below w.heap.size w w' := by
  have HO := Lib.hid (isDay_yes h1 h2)
  have HG := Lib.hid (Heb.guess_in h1 h2)
  have HR := Lib.hid (h.right h1 h2)
  have hy := h.near h1 h2
  have hf := Heb.fst_in (y := y) (by omega) (by omega)
  have HI := Lib.hid h
  clear h
  go_enter Try.func39, Try.ntmps39
  go_wp2_with (first | (go_at_call 42; refine (of_any _ _).mono ?_; rw [HO.out]; rintro e w' ⟨rfl, rfl⟩) | (go_at_call 48; refine (floor_any _ _ _ (by omega) (by omega) (by omega) (by omega)).mono ?_; rintro e w' ⟨rfl, rfl⟩))
  go_loopg [] 20000 (fun g wr => ∃ a : Int, 3700 ≤ a ∧ a ≤ y ∧ Heb.fst a ≤ n ∧ (14000 - a).toNat ≤ g ∧ wr = (w.alloc (.cells #[.int .i64 0, .int .i64 0, .int .i64 0] 23)).alloc (.cells #[.int .i64 a, .int .i64 7, .int .i64 0] 23))
  case atStart => exact ⟨_, HG.out.1, HI.out.above HG.out.2.2, HG.out.2.2, by have := HG.out; omega, rfl⟩
  case round =>
    obtain ⟨a, ha1, ha2, ha3, hgk, rfl⟩ := hrel
    by_cases hlt : a < y
    · have hle := HI.out.ahead hlt
      go_wp2_with (first | (go_at_call 58; refine (hebBegins_any _ _ (by omega) (by omega)).mono ?_; rintro e w' ⟨rfl, rfl⟩))
      go_roundg (14000 - (a + 1)).toNat
      case measure => omega
      case rel => exact ⟨a + 1, by omega, by omega, hle, by omega, rfl⟩
    · obtain rfl : a = y := by omega
      have hto := HI.out.to_y
      clear hlt ha2 ha3 hgk
      have hm1 := HI.out.m1
      have hml := HI.out.ml
      have hla := Heb.last_in a
      have hl1 : 12 ≤ Heb.last a := by omega
      have hl2 : Heb.last a ≤ 13 := by omega
      have hoff := HI.out.off
      clear hla
      go_wp2_with (first | (go_at_call 58; refine (hebBegins_any _ _ (by omega) (by omega)).mono ?_; rintro e w' ⟨rfl, rfl⟩))
      go_loopw [5] (fun t wr => ∃ k : Int, 1 ≤ k ∧ k ≤ Heb.last a ∧ Heb.pos k ≤ Heb.pos m ∧ t = .int .i64 (n - Heb.fst a - Heb.cum a k) ∧ wr = (w.alloc (.cells #[.int .i64 0, .int .i64 0, .int .i64 0] 23)).alloc (.cells #[.int .i64 a, .int .i64 k, .int .i64 0] 23)) (fun t _ => (intOf t + 1).toNat)
      case atStart => exact ⟨7, by omega, by omega, Heb.pos_7 hm1, by rw [Heb.cum_7]; go_num, rfl⟩
      case round =>
        obtain ⟨k, hk1, hk2, hk3, rfl, rfl⟩ := hrel
        have hc := Heb.cum_small hk1 hk2
        have hk := Heb.hm_in a k
        by_cases hlt : k = m
        · subst hlt
          have hst := HI.out.stop.1
          have HD := Lib.hid HI.out.stop.2
          clear hk3
          go_wp2_with (first | (go_at_call 35; refine (hebLength_hm _ _ _ HR.out (by omega) (by omega)).mono ?_; rintro e w' ⟨rfl, rfl⟩) | (go_at_call 70; refine (hebNext_any _ _ _ (by omega) (by omega) (by omega) (by omega)).mono ?_; rintro e w' ⟨rfl, rfl⟩))
          rw [HD.out]
          exact bodyPost_ret (v := .tuple #[.agg #[.int .i64 a, .int .i64 k, .int .i64 d], .int .i64 0]) (by simp [results, Try.results39, go_sem]) rfl ⟨rfl, ((Below.refl _ _).alloc (Nat.le_refl _) _).alloc (by simp) _⟩
        · have hge := HI.out.step hk1 hk2 hk3 hlt
          have HP := Lib.hid (Heb.pos_lt hk1 hk2 hm1 hml hk3 hlt)
          have HC := Lib.hid (Heb.cum_next hk1 hk2 HP.out.1)
          have HX := Lib.hid (Heb.nxt_in hk1 hk2)
          clear hlt hk3
          go_wp2_with (first | (go_at_call 35; refine (hebLength_hm _ _ _ HR.out (by omega) (by omega)).mono ?_; rintro e w' ⟨rfl, rfl⟩) | (go_at_call 70; refine (hebNext_any _ _ _ (by omega) (by omega) (by omega) (by omega)).mono ?_; rintro e w' ⟨rfl, rfl⟩))
          go_roundw
          case rel => exact ⟨_, HX.out.1, HX.out.2, HP.out.2.1, by rw [HC.out]; go_num, rfl⟩
          case measure => simp [intOf]; omega
end Go.Proofs.Ytfkbibjbdibcjaa
