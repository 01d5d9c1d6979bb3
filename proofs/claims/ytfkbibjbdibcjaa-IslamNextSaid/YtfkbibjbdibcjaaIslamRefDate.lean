/- The walk of the reference's Date at calendar 4: a search for the year, then for the month. -/
import Derived.Test.YtfkbibjbdibcjaaIslamRef
namespace Go.Proofs.Ytfkbibjbdibcjaa
open Go.RowKit

set_option maxHeartbeats 400000 in
theorem rDate4_out (n : Int) (w : World) (h : n < 1 ∨ 3652059 < n) :
    Calls Try.prog 25 #[.int .i64 4, .int .i64 n] w fun e w' => e = .returned (.tuple #[.agg #[.int .i64 0, .int .i64 0, .int .i64 0], .int .i64 2]) ∧ Below w.heap.size w w' := by
  have HO := Lib.hid (isDay_no h)
  clear h
  go_enter Try.func25, Try.ntmps25
  go_wp2_with (go_at_call 26; refine (rIn_any _ _).mono ?_; rw [HO.out]; rintro e w' ⟨rfl, rfl⟩)
  exact bodyPost_ret (v := .tuple #[.agg #[.int .i64 0, .int .i64 0, .int .i64 0], .int .i64 2]) (by simp [results, Try.results25, go_sem]) rfl ⟨rfl, (Below.refl _ _).alloc (Nat.le_refl _) _⟩

theorem half_in {a b : Int} (h : a + 1 < b) : a < (a + b) / 2 ∧ (a + b) / 2 < b := by omega
theorem span (n : Int) (h1 : 1 ≤ n) (h2 : n ≤ 3652059) : Isl.fst (-800) ≤ n ∧ n < Isl.fst 15000 := by unfold Isl.fst; omega

theorem Isl.Is.before {n y m d k : Int} (h : Isl.Is n y m d) (h1 : 1 ≤ k) (h2 : k < m) : Isl.day y (k + 1) 1 ≤ n := by
  have := h.eq; have := h.d1; have := h.m12
  have := Isl.cum_mono (y := y) h1 h.m12 h2
  have := Isl.cum_next (y := y) h1 (by omega : k ≤ 11)
  unfold Isl.day; omega
theorem Isl.Is.behind {n y m d : Int} (h : Isl.Is n y m d) (h1 : m < 12) : n < Isl.day y (m + 1) 1 := by
  have := h.eq; have := h.dm; have := h.m1
  have := Isl.cum_next (y := y) h.m1 (by omega : m ≤ 11)
  unfold Isl.day; omega
theorem Isl.Is.the_day {n y m d : Int} (h : Isl.Is n y m d) : n - Isl.day y m 1 + 1 = d := by
  have := h.eq
  unfold Isl.day; omega

set_option maxHeartbeats 2000000 in
theorem rDate4_in (n y m d : Int) (w : World) (h1 : 1 ≤ n) (h2 : n ≤ 3652059) (h : Isl.Is n y m d) :
    Calls Try.prog 25 #[.int .i64 4, .int .i64 n] w fun e w' => e = .returned (.tuple #[.agg #[.int .i64 y, .int .i64 m, .int .i64 d], .int .i64 0]) ∧ Below w.heap.size w w' := by
  have HO := Lib.hid (isDay_yes h1 h2)
  have HS := Lib.hid (span n h1 h2)
  have HI := Lib.hid h
  have hy := h.near h1 h2
  clear h
  go_enter Try.func25, Try.ntmps25
  go_wp2_with (first | (go_at_call 26; refine (rIn_any _ _).mono ?_; rw [HO.out]; rintro e w' ⟨rfl, rfl⟩) | (go_at_call 49; refine (rLeast4_any _).mono ?_; rintro e w' ⟨rfl, rfl⟩))
  go_loop [6, 7] (fun p q => ∃ a b : Int, -800 ≤ a ∧ b ≤ 15000 ∧ a < b ∧ Isl.fst a ≤ n ∧ n < Isl.fst b ∧ p = .int .i64 a ∧ q = .int .i64 b) (fun p q => (intOf q - intOf p).toNat)
  case atStart => exact ⟨-800, 15000, by omega, by omega, by omega, HS.out.1, HS.out.2, rfl, rfl⟩
  case round =>
    obtain ⟨a, b, ha, hb, hab, hfa, hfb, rfl, rfl⟩ := hrel
    by_cases hlt : a + 1 < b
    · have hm := half_in hlt
      by_cases hle : Isl.fst ((a + b) / 2) ≤ n
      all_goals
        go_wp2_with (first | (go_at_call 47; refine (rNext4_any _ _ (by omega) (by omega)).mono ?_; rintro e w' ⟨rfl, rfl⟩) | (go_at_call 50; refine (rfloor_any _ _ _ (by omega) (by omega) (by omega) (by omega)).mono ?_; rintro e w' ⟨rfl, rfl⟩) | (go_at_call 46; refine (rBegins4_any _ _ (by omega) (by omega)).mono ?_; rintro e w' ⟨rfl, rfl⟩))
        go_round
        case rel => first | exact ⟨_, _, by omega, by omega, by omega, hle, hfb, rfl, rfl⟩ | exact ⟨_, _, by omega, by omega, by omega, hfa, by omega, rfl, rfl⟩
        case measure => simp [intOf]; omega
    · obtain rfl : b = a + 1 := by omega
      obtain rfl : a = y := Isl.year_of hfa hfb HI.out.from_y HI.out.to_y
      clear hfa hfb hlt hab
      go_wp2_with (first | (go_at_call 47; refine (rNext4_any _ _ (by omega) (by omega)).mono ?_; rintro e w' ⟨rfl, rfl⟩))
      have hm12 := HI.out.m12
      have hm1 := HI.out.m1
      go_loop [9] (fun p => ∃ k : Int, 1 ≤ k ∧ k ≤ m ∧ p = .int .i64 k) (fun p => (12 - intOf p).toNat)
      case atStart => exact ⟨1, by omega, hm1, rfl⟩
      case round =>
        obtain ⟨k, hk1, hk2, rfl⟩ := hrel
        by_cases hlt : k < m
        · have hle := HI.out.before hk1 hlt
          have hk12 : k < 12 := by omega
          go_wp2_with (first | (go_at_call 36; refine (rFixed4_any _ _ _ _ (by omega) (by omega) (by omega) (by omega) (by omega) (by omega)).mono ?_; rintro e w' ⟨rfl, rfl⟩) | (go_at_call 37; refine (rMonths4_any _ _).mono ?_; rintro e w' ⟨rfl, rfl⟩))
          go_round
          case rel => exact ⟨k + 1, by omega, by omega, rfl⟩
          case measure => simp [intOf]; omega
        · obtain rfl : k = m := by omega
          clear hlt
          have HD := Lib.hid HI.out.the_day
          have hdi := day_in (y := a) (m := k) (d := 1) (by omega) (by omega) (by omega) (by omega) (by omega) (by omega)
          by_cases hk12 : k < 12
          · have hgt := HI.out.behind hk12
            go_wp2_with (first | (go_at_call 36; refine (rFixed4_any _ _ _ _ (by omega) (by omega) (by omega) (by omega) (by omega) (by omega)).mono ?_; rintro e w' ⟨rfl, rfl⟩) | (go_at_call 37; refine (rMonths4_any _ _).mono ?_; rintro e w' ⟨rfl, rfl⟩))
            rw [HD.out]
            exact bodyPost_ret (v := .tuple #[.agg #[.int .i64 a, .int .i64 k, .int .i64 d], .int .i64 0]) (by simp [results, Try.results25, go_sem]) rfl ⟨rfl, (Below.refl _ _).alloc (Nat.le_refl _) _⟩
          · go_wp2_with (first | (go_at_call 36; refine (rFixed4_any _ _ _ _ (by omega) (by omega) (by omega) (by omega) (by omega) (by omega)).mono ?_; rintro e w' ⟨rfl, rfl⟩) | (go_at_call 37; refine (rMonths4_any _ _).mono ?_; rintro e w' ⟨rfl, rfl⟩))
            rw [HD.out]
            exact bodyPost_ret (v := .tuple #[.agg #[.int .i64 a, .int .i64 k, .int .i64 d], .int .i64 0]) (by simp [results, Try.results25, go_sem]) rfl ⟨rfl, (Below.refl _ _).alloc (Nat.le_refl _) _⟩
end Go.Proofs.Ytfkbibjbdibcjaa
