/- The walk of the reference's Date at calendar 5: a search for the year, then for the month. -/
import Derived.Test.YtfkbibjbdibcjaaPersianRef
namespace Go.Proofs.Ytfkbibjbdibcjaa
open Go.RowKit

set_option maxHeartbeats 400000 in
theorem rDate5_out (n : Int) (w : World) (h : n < 1 ∨ 3652059 < n) :
    Calls Try.prog 25 #[.int .i64 5, .int .i64 n] w fun e w' => e = .returned (.tuple #[.agg #[.int .i64 0, .int .i64 0, .int .i64 0], .int .i64 2]) ∧ Below w.heap.size w w' := by
  have HO := Lib.hid (isDay_no h)
  clear h
  go_enter Try.func25, Try.ntmps25
  go_wp2_with (go_at_call 26; refine (rIn_any _ _).mono ?_; rw [HO.out]; rintro e w' ⟨rfl, rfl⟩)
  exact bodyPost_ret (v := .tuple #[.agg #[.int .i64 0, .int .i64 0, .int .i64 0], .int .i64 2]) (by simp [results, Try.results25, go_sem]) rfl ⟨rfl, (Below.refl _ _).alloc (Nat.le_refl _) _⟩

theorem Pers.half_in {a b : Int} (h : Pers.nxt a < b) : a < b ∧ ((a + b) / 2 ≠ 0 → a < (a + b) / 2 ∧ (a + b) / 2 < b) ∧ ((a + b) / 2 = 0 → a = -1 → 1 < b) ∧ ((a + b) / 2 = 0 → a ≠ -1 → a < -1 ∧ -1 < b) := by
  unfold Pers.nxt at h; split at h <;> omega
theorem Pers.nxt_not {a b : Int} (hb : b ≠ 0) (h : a < b) (g : ¬ Pers.nxt a < b) : b = Pers.nxt a := by
  have := Pers.nxt_le hb h; omega

set_option maxHeartbeats 4000000 in
theorem rDate5_in (n y m d : Int) (w : World) (h1 : 1 ≤ n) (h2 : n ≤ 3652059) (h : Pers.Is n y m d) :
    Calls Try.prog 25 #[.int .i64 5, .int .i64 n] w fun e w' => e = .returned (.tuple #[.agg #[.int .i64 y, .int .i64 m, .int .i64 d], .int .i64 0]) ∧ Below w.heap.size w w' := by
  have HO := Lib.hid (isDay_yes h1 h2)
  have HS := Lib.hid (Pers.span n h1 h2)
  have HI := Lib.hid h
  have hy := h.near h1 h2
  clear h
  go_enter Try.func25, Try.ntmps25
  go_wp2_with (first | (go_at_call 26; refine (rIn_any _ _).mono ?_; rw [HO.out]; rintro e w' ⟨rfl, rfl⟩) | (go_at_call 49; refine (rLeast5_any _).mono ?_; rintro e w' ⟨rfl, rfl⟩))
  go_loop [6, 7] (fun p q => ∃ a b : Int, -800 ≤ a ∧ b ≤ 15000 ∧ a < b ∧ a ≠ 0 ∧ b ≠ 0 ∧ Pers.fst a ≤ n ∧ n < Pers.fst b ∧ p = .int .i64 a ∧ q = .int .i64 b) (fun p q => (intOf q - intOf p).toNat)
  case atStart => exact ⟨-800, 15000, by omega, by omega, by omega, by omega, by omega, HS.out.1, HS.out.2, rfl, rfl⟩
  case round =>
    obtain ⟨a, b, ha, hb, hab, ha0, hb0, hfa, hfb, rfl, rfl⟩ := hrel
    have HZ := Lib.hid (And.intro ha0 hb0)
    clear ha0 hb0
    by_cases hlt : Pers.nxt a < b
    · have HH := Lib.hid (Pers.half_in hlt)
      by_cases hz : (a + b) / 2 = 0
      · have hz0 : ((a + b) / 2 == 0) = true := beq_iff_eq.mpr hz
        by_cases ha1 : a = -1
        · have hb1 := HH.out.2.2.1 hz ha1
          have hz1 : (a == -1) = true := beq_iff_eq.mpr ha1
          have HM := Lib.hid (show (1 : Int) ≠ 0 by omega)
          have ha2 : a ≤ -1 := by omega
          clear hz ha1
          by_cases hle : Pers.fst 1 ≤ n
          all_goals
            go_wp2_with (first | (go_at_call 47; refine (rNext5_any _ _ (by omega) (by omega)).mono ?_; rintro e w' ⟨rfl, rfl⟩) | (go_at_call 50; refine (rfloor_any _ _ _ (by omega) (by omega) (by omega) (by omega)).mono ?_; rintro e w' ⟨rfl, rfl⟩) | (go_at_call 46; refine (rBegins5_any _ _ (by omega) (by omega)).mono ?_; rintro e w' ⟨rfl, rfl⟩))
            go_round
            case rel => first | exact ⟨_, _, by omega, by omega, by omega, HM.out, HZ.out.2, hle, hfb, rfl, rfl⟩ | exact ⟨_, _, by omega, by omega, by omega, HZ.out.1, HM.out, hfa, by omega, rfl, rfl⟩
            case measure => simp [intOf]; omega

        · have hb1 := HH.out.2.2.2 hz ha1
          have hz1 : (a == -1) = false := beq_eq_false_iff_ne.mpr ha1
          have HM := Lib.hid (show (-1 : Int) ≠ 0 by omega)
          clear hz ha1
          by_cases hle : Pers.fst (-1) ≤ n
          all_goals
            go_wp2_with (first | (go_at_call 47; refine (rNext5_any _ _ (by omega) (by omega)).mono ?_; rintro e w' ⟨rfl, rfl⟩) | (go_at_call 50; refine (rfloor_any _ _ _ (by omega) (by omega) (by omega) (by omega)).mono ?_; rintro e w' ⟨rfl, rfl⟩) | (go_at_call 46; refine (rBegins5_any _ _ (by omega) (by omega)).mono ?_; rintro e w' ⟨rfl, rfl⟩))
            go_round
            case rel => first | exact ⟨_, _, by omega, by omega, by omega, HM.out, HZ.out.2, hle, hfb, rfl, rfl⟩ | exact ⟨_, _, by omega, by omega, by omega, HZ.out.1, HM.out, hfa, by omega, rfl, rfl⟩
            case measure => simp [intOf]; omega

      · have hz0 : ((a + b) / 2 == 0) = false := beq_eq_false_iff_ne.mpr hz
        have hm := HH.out.2.1 hz
        have HM := Lib.hid hz
        clear hz
        by_cases hle : Pers.fst ((a + b) / 2) ≤ n
        all_goals
          go_wp2_with (first | (go_at_call 47; refine (rNext5_any _ _ (by omega) (by omega)).mono ?_; rintro e w' ⟨rfl, rfl⟩) | (go_at_call 50; refine (rfloor_any _ _ _ (by omega) (by omega) (by omega) (by omega)).mono ?_; rintro e w' ⟨rfl, rfl⟩) | (go_at_call 46; refine (rBegins5_any _ _ (by omega) (by omega)).mono ?_; rintro e w' ⟨rfl, rfl⟩))
          go_round
          case rel => first | exact ⟨_, _, by omega, by omega, by omega, HM.out, HZ.out.2, hle, hfb, rfl, rfl⟩ | exact ⟨_, _, by omega, by omega, by omega, HZ.out.1, HM.out, hfa, by omega, rfl, rfl⟩
          case measure => simp [intOf]; omega

    · have HB := Lib.hid (Pers.nxt_not HZ.out.2 hab hlt)
      have HY := Lib.hid (Pers.year_of HZ.out.1 HI.out.y0 hfa (by rw [← HB.out]; exact hfb) HI.out.from_y HI.out.to_y)
      clear hfa hfb
      go_wp2_with (first | (go_at_call 47; refine (rNext5_any _ _ (by omega) (by omega)).mono ?_; rintro e w' ⟨rfl, rfl⟩))
      have hay := HY.out
      subst hay
      have hm12 := HI.out.m12
      have hm1 := HI.out.m1
      go_loop [9] (fun p => ∃ k : Int, 1 ≤ k ∧ k ≤ m ∧ p = .int .i64 k) (fun p => (12 - intOf p).toNat)
      case atStart => exact ⟨1, by omega, hm1, rfl⟩
      case round =>
        obtain ⟨k, hk1, hk2, rfl⟩ := hrel
        by_cases hlt : k < m
        · have hle := HI.out.before hk1 hlt
          have hk12 : k < 12 := by omega
          go_wp2_with (first | (go_at_call 36; refine (rFixed5_any _ _ _ _ (by omega) (by omega) (by omega) (by omega) (by omega) (by omega)).mono ?_; rintro e w' ⟨rfl, rfl⟩) | (go_at_call 37; refine (rMonths5_any _ _).mono ?_; rintro e w' ⟨rfl, rfl⟩))
          go_round
          case rel => exact ⟨k + 1, by omega, by omega, rfl⟩
          case measure => simp [intOf]; omega
        · obtain rfl : k = m := by omega
          clear hlt
          have HD := Lib.hid HI.out.the_day
          have hdi := Pers.day_in (y := a) (m := k) (d := 1) (by omega) (by omega) (by omega) (by omega) (by omega) (by omega)
          by_cases hk12 : k < 12
          · have hgt := HI.out.behind hk12
            go_wp2_with (first | (go_at_call 36; refine (rFixed5_any _ _ _ _ (by omega) (by omega) (by omega) (by omega) (by omega) (by omega)).mono ?_; rintro e w' ⟨rfl, rfl⟩) | (go_at_call 37; refine (rMonths5_any _ _).mono ?_; rintro e w' ⟨rfl, rfl⟩))
            rw [HD.out]
            exact bodyPost_ret (v := .tuple #[.agg #[.int .i64 a, .int .i64 k, .int .i64 d], .int .i64 0]) (by simp [results, Try.results25, go_sem]) rfl ⟨rfl, (Below.refl _ _).alloc (Nat.le_refl _) _⟩
          · go_wp2_with (first | (go_at_call 36; refine (rFixed5_any _ _ _ _ (by omega) (by omega) (by omega) (by omega) (by omega) (by omega)).mono ?_; rintro e w' ⟨rfl, rfl⟩) | (go_at_call 37; refine (rMonths5_any _ _).mono ?_; rintro e w' ⟨rfl, rfl⟩))
            rw [HD.out]
            exact bodyPost_ret (v := .tuple #[.agg #[.int .i64 a, .int .i64 k, .int .i64 d], .int .i64 0]) (by simp [results, Try.results25, go_sem]) rfl ⟨rfl, (Below.refl _ _).alloc (Nat.le_refl _) _⟩
end Go.Proofs.Ytfkbibjbdibcjaa
