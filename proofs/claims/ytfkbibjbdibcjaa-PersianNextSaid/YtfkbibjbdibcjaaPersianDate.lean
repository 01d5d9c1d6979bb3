/- The walk of Persian: of a day it hands back the date, else the error of the range. -/
import Derived.Test.YtfkbibjbdibcjaaPersianWalks
import Derived.Deep.LoopGhost
namespace Go.Proofs.Ytfkbibjbdibcjaa
open Go.RowKit

theorem persDate_out (n : Int) (w : World) (h : n < 1 ∨ 3652059 < n) :
    Calls Try.prog 30 #[.int .i64 n] w fun e w' => e = .returned (.tuple #[.agg #[.int .i64 0, .int .i64 0, .int .i64 0], .int .i64 2]) ∧ Below w.heap.size w w' := by
  have HO := Lib.hid (isDay_no h)
  clear h
  go_enter Try.func30, Try.ntmps30
  go_wp2_with (go_at_call 42; refine (of_any _ _).mono ?_; rw [HO.out]; rintro e w' ⟨rfl, rfl⟩)
  exact bodyPost_ret (v := .tuple #[.agg #[.int .i64 0, .int .i64 0, .int .i64 0], .int .i64 2]) (by simp [results, Try.results30, go_sem]) rfl ⟨rfl, (Below.refl _ _).alloc (Nat.le_refl _) _⟩

theorem Pers.Is.above {n y m d a : Int} (h : Pers.Is n y m d) (h0 : a ≠ 0) (h1 : Pers.fst a ≤ n) : a ≤ y := by
  by_cases g : y < a
  · have := Pers.fst_mono (Pers.nxt_le h0 g)
    have := h.to_y
    omega
  · omega
theorem Pers.Is.ahead {n y m d a : Int} (h : Pers.Is n y m d) (h1 : a < y) : Pers.fst (Pers.nxt a) ≤ n := by
  have := Pers.fst_mono (Pers.nxt_le h.y0 h1)
  have := h.from_y
  omega
theorem Pers.first_low {n : Int} (h : (n - 226896) / 366 < 1) : Pers.guess n = (n - 226896) / 366 - 3 := by unfold Pers.guess; rw [if_pos h]
theorem Pers.first_high {n : Int} (h : ¬ (n - 226896) / 366 < 1) : Pers.guess n = (n - 226896) / 366 := by unfold Pers.guess; rw [if_neg h]
theorem Pers.Is.step {n y m d k : Int} (h : Pers.Is n y m d) (h1 : 1 ≤ k) (h2 : k < m) : Pers.len y k ≤ n - Pers.fst y - Pers.cum k := by
  have := h.eq; have := h.d1
  have := Pers.cum_mono (y := y) h1 h.m12 h2
  omega
theorem Pers.Is.stop {n y m d : Int} (h : Pers.Is n y m d) : n - Pers.fst y - Pers.cum m < Pers.len y m ∧ n - Pers.fst y - Pers.cum m + 1 = d := by
  have := h.eq; have := h.dm
  omega

set_option maxHeartbeats 4000000 in
theorem persDate_in (n y m d : Int) (w : World) (h1 : 1 ≤ n) (h2 : n ≤ 3652059) (h : Pers.Is n y m d) :
    Calls Try.prog 30 #[.int .i64 n] w fun e w' => e = .returned (.tuple #[.agg #[.int .i64 y, .int .i64 m, .int .i64 d], .int .i64 0]) ∧ Below w.heap.size w w' := by
  have HO := Lib.hid (isDay_yes h1 h2)
  have HG := Lib.hid (Pers.guess_in h1 h2)
  have HR := Lib.hid (h.right h1 h2)
  have hy := h.near h1 h2
  have hf := Pers.fst_in (y := y) (by omega) (by omega)
  have HI := Lib.hid h
  clear h
  by_cases hg : (n - 226896) / 366 < 1
  all_goals
    have HE := Lib.hid (fun h => Pers.first_low (n := n) h)
    have HF := Lib.hid (fun h => Pers.first_high (n := n) h)
    go_enter Try.func30, Try.ntmps30
    go_wp2_with (first | (go_at_call 42; refine (of_any _ _).mono ?_; rw [HO.out]; rintro e w' ⟨rfl, rfl⟩) | (go_at_call 48; refine (floor_any _ _ _ (by omega) (by omega) (by omega) (by omega)).mono ?_; rintro e w' ⟨rfl, rfl⟩))
    go_loopg [] 20000 (fun g wr => ∃ a : Int, a ≠ 0 ∧ -700 ≤ a ∧ a ≤ y ∧ Pers.fst a ≤ n ∧ (10000 - a).toNat ≤ g ∧ wr = (w.alloc (.cells #[.int .i64 0, .int .i64 0, .int .i64 0] 23)).alloc (.cells #[.int .i64 a, .int .i64 1, .int .i64 0] 23))
    case atStart =>
      first
        | (have q := HG.out; rw [HE.out hg] at q; exact ⟨_, q.2.2.1, q.1, HI.out.above q.2.2.1 q.2.2.2, q.2.2.2, by omega, rfl⟩)
        | (have q := HG.out; rw [HF.out hg] at q; exact ⟨_, q.2.2.1, q.1, HI.out.above q.2.2.1 q.2.2.2, q.2.2.2, by omega, rfl⟩)
    case round =>
      obtain ⟨a, ha0, ha1, ha2, ha3, hgk, rfl⟩ := hrel
      have HA := Lib.hid ha0
      have HN := Lib.hid (Pers.nxt_ne a)
      have hx : -800 ≤ Pers.nxt a ∧ Pers.nxt a ≤ 9900 ∧ a < Pers.nxt a := ⟨by have := Pers.nxt_gt a; omega, by unfold Pers.nxt; split <;> omega, Pers.nxt_gt a⟩
      clear ha0
      by_cases hlt : a < y
      · have hle := HI.out.ahead hlt
        have HL := Lib.hid (Pers.nxt_le HI.out.y0 hlt)
        go_wp2_with (first | (go_at_call 54; refine (persFirst_any _ _ (by omega) (by omega) (by have := HN.out; have := HA.out; omega)).mono ?_; rintro e w' ⟨rfl, rfl⟩) | (go_at_call 56; refine (persNext_any _ _ (by omega) (by omega)).mono ?_; rintro e w' ⟨rfl, rfl⟩))
        go_roundg (10000 - Pers.nxt a).toNat
        case measure => omega
        case rel => exact ⟨_, HN.out, by omega, HL.out, hle, by omega, rfl⟩
      · obtain rfl : a = y := by omega
        have hto := HI.out.to_y
        clear hlt ha2 ha3 hgk
        have hm12 := HI.out.m12
        go_wp2_with (first | (go_at_call 54; refine (persFirst_any _ _ (by omega) (by omega) (by have := HN.out; have := HA.out; omega)).mono ?_; rintro e w' ⟨rfl, rfl⟩) | (go_at_call 56; refine (persNext_any _ _ (by omega) (by omega)).mono ?_; rintro e w' ⟨rfl, rfl⟩))
        go_loopw [5] (fun t wr => ∃ k : Int, 1 ≤ k ∧ k ≤ m ∧ t = .int .i64 (n - Pers.fst a - Pers.cum k) ∧ wr = (w.alloc (.cells #[.int .i64 0, .int .i64 0, .int .i64 0] 23)).alloc (.cells #[.int .i64 a, .int .i64 k, .int .i64 0] 23)) (fun t _ => (intOf t).toNat)
        case atStart => exact ⟨1, by omega, HI.out.m1, by rw [Pers.cum_one]; go_num, rfl⟩
        case round =>
          obtain ⟨k, hk1, hk2, rfl, rfl⟩ := hrel
          have hc := Pers.cum_in hk1 (by omega : k ≤ 13)
          have hk := Pers.len_in a k
          have hk' := Pers.len_ge (y := a) hk1 (by omega)
          by_cases hlt : k < m
          · have hge := HI.out.step hk1 hlt
            have HC := Lib.hid (Pers.cum_next (y := a) hk1 (by omega : k ≤ 11))
            go_wp2_with (first | (go_at_call 53; refine (persLength_any _ _ _ HR.out).mono ?_; rintro e w' ⟨rfl, rfl⟩))
            go_roundw
            case rel => exact ⟨k + 1, by omega, by omega, by rw [HC.out]; go_num, rfl⟩
            case measure => simp [intOf]; omega
          · obtain rfl : k = m := by omega
            have hst := HI.out.stop.1
            have HD := Lib.hid HI.out.stop.2
            go_wp2_with (first | (go_at_call 53; refine (persLength_any _ _ _ HR.out).mono ?_; rintro e w' ⟨rfl, rfl⟩))
            rw [HD.out]
            exact bodyPost_ret (v := .tuple #[.agg #[.int .i64 a, .int .i64 k, .int .i64 d], .int .i64 0]) (by simp [results, Try.results30, go_sem]) rfl ⟨rfl, ((Below.refl _ _).alloc (Nat.le_refl _) _).alloc (by simp) _⟩
end Go.Proofs.Ytfkbibjbdibcjaa
