/- The walk of FromPersian. -/
import Derived.Test.YtfkbibjbdibcjaaPersianWalks
namespace Go.Proofs.Ytfkbibjbdibcjaa
open Go.RowKit

set_option maxHeartbeats 1000000 in
theorem persFrom_good (y m d : Int) (w : World) (h0 : Pers.right y = true) (h2 : 1 ≤ d) (h3 : d ≤ Pers.len y m) :
    Calls Try.prog 28 #[.agg #[.int .i64 y, .int .i64 m, .int .i64 d]] w fun e w' => e = .returned (.tuple #[.int .i64 (Pers.dayN y m d), .int .i64 (Pers.dayE y m d)]) ∧ Below w.heap.size w w' := by
  have hm := Pers.len_pos (y := y) (m := m) (by omega)
  have hl := Pers.len_in y m
  obtain ⟨hy0, hy1, hy2⟩ := Pers.right_in h0
  have hf := Pers.fst_in (y := y) (by omega) (by omega)
  have HR := Lib.hid h0
  have HZ := Lib.hid hy2
  have g2 : decide (d < 1) = false := decide_eq_false (by omega)
  have g3 : decide (Pers.len y m < d) = false := decide_eq_false (by omega)
  clear h0 hy2
  go_enter Try.func28, Try.ntmps28
  go_wp2
  go_quiet ((first | (go_at_call 52; exact stillFirst (persRight_is _ _ _ HR.out)) | (go_at_call 53; exact stillFirst (persLength_any _ _ _ HR.out))))
  go_wp2
  go_quiet ((go_at_call 54; exact stillLater (persFirst_any _ _ (by omega) (by omega) HZ.out)))
  go_wp2
  rw [World.drewN_drewN]
  go_loop [4, 5] (fun n i => ∃ k : Int, 1 ≤ k ∧ k ≤ m ∧ i = .int .i64 k ∧ n = .int .i64 (Pers.fst y + d - 1 + Pers.cum k)) (fun _ i => (m - intOf i).toNat)
  case atStart => exact ⟨1, by omega, by omega, rfl, by rw [Pers.cum_one]; go_num⟩
  case round =>
    obtain ⟨k, hk1, hk2, rfl, rfl⟩ := hrel
    have hc := Pers.cum_in hk1 (by omega : k ≤ 13)
    have hk := Pers.len_in y k
    by_cases hlt : k < m
    · have HN := Lib.hid (Pers.cum_next (y := y) hk1 (by omega : k ≤ 11))
      go_wp2_with (go_at_call 53; refine (persLength_any _ _ _ HR.out).mono ?_; rintro e w' ⟨rfl, rfl⟩)
      go_round
      case rel => exact ⟨k + 1, by omega, by omega, by go_num, by rw [HN.out]; go_num⟩
      case measure => simp [intOf]; omega
    · obtain rfl : k = m := by omega
      by_cases hd : 1 ≤ Pers.fst y + d - 1 + Pers.cum k ∧ Pers.fst y + d - 1 + Pers.cum k ≤ 3652059
      · have HO := Lib.hid (isDay_yes hd.1 hd.2)
        have HB := Lib.hid (Pers.day_good HR.out h2 h3 hd.1 hd.2)
        clear hd
        go_wp2_with (go_at_call 42; refine (of_any _ _).mono ?_; rw [HO.out]; rintro e w' ⟨rfl, rfl⟩)
        go_ret2
        exact ⟨ret_two HB.out.1 HB.out.2, drawnBelow ((Below.refl _ _).alloc (Nat.le_refl _) _) _⟩
      · have HO := Lib.hid (isDay_no (n := Pers.fst y + d - 1 + Pers.cum k) (by omega))
        have HB := Lib.hid (Pers.day_bad (y := y) (m := k) (d := d) (by unfold Pers.bad Pers.day; omega))
        clear hd
        go_wp2_with (go_at_call 42; refine (of_any _ _).mono ?_; rw [HO.out]; rintro e w' ⟨rfl, rfl⟩)
        go_ret2
        exact ⟨ret_two HB.out.1 HB.out.2, drawnBelow ((Below.refl _ _).alloc (Nat.le_refl _) _) _⟩

set_option maxHeartbeats 1000000 in
theorem persFrom_wrong (y m d : Int) (w : World) (h : Pers.right y = false) :
    Calls Try.prog 28 #[.agg #[.int .i64 y, .int .i64 m, .int .i64 d]] w fun e w' => e = .returned (.tuple #[.int .i64 (Pers.dayN y m d), .int .i64 (Pers.dayE y m d)]) ∧ Below w.heap.size w w' := by
  have HB := Lib.hid (Pers.day_bad (y := y) (m := m) (d := d) (Or.inl h))
  have HR := Lib.hid h
  clear h
  go_enter Try.func28, Try.ntmps28
  go_wp2
  go_quiet ((go_at_call 52; exact stillFirst (persRight_is _ _ _ HR.out)))
  go_wp2
  go_ret2
  exact ⟨ret_two HB.out.1 HB.out.2, drawnBelow ((Below.refl _ _).alloc (Nat.le_refl _) _) _⟩

set_option maxHeartbeats 1000000 in
theorem persFrom_early (y m d : Int) (w : World) (h0 : Pers.right y = true) (h : d < 1) :
    Calls Try.prog 28 #[.agg #[.int .i64 y, .int .i64 m, .int .i64 d]] w fun e w' => e = .returned (.tuple #[.int .i64 (Pers.dayN y m d), .int .i64 (Pers.dayE y m d)]) ∧ Below w.heap.size w w' := by
  have HB := Lib.hid (Pers.day_bad (y := y) (m := m) (d := d) (Or.inr (Or.inl h)))
  have HR := Lib.hid h0
  clear h0
  have g2 : decide (d < 1) = true := decide_eq_true (by omega)
  go_enter Try.func28, Try.ntmps28
  go_wp2
  go_quiet ((go_at_call 52; exact stillFirst (persRight_is _ _ _ HR.out)))
  go_wp2
  go_ret2
  exact ⟨ret_two HB.out.1 HB.out.2, drawnBelow ((Below.refl _ _).alloc (Nat.le_refl _) _) _⟩

set_option maxHeartbeats 1000000 in
theorem persFrom_long (y m d : Int) (w : World) (h0 : Pers.right y = true) (h2 : 1 ≤ d) (h3 : Pers.len y m < d) :
    Calls Try.prog 28 #[.agg #[.int .i64 y, .int .i64 m, .int .i64 d]] w fun e w' => e = .returned (.tuple #[.int .i64 (Pers.dayN y m d), .int .i64 (Pers.dayE y m d)]) ∧ Below w.heap.size w w' := by
  have HB := Lib.hid (Pers.day_bad (y := y) (m := m) (d := d) (Or.inr (Or.inr (Or.inl h3))))
  have HR := Lib.hid h0
  clear h0
  have g2 : decide (d < 1) = false := decide_eq_false (by omega)
  have g3 : decide (Pers.len y m < d) = true := decide_eq_true (by omega)
  go_enter Try.func28, Try.ntmps28
  go_wp2
  go_quiet ((first | (go_at_call 52; exact stillFirst (persRight_is _ _ _ HR.out)) | (go_at_call 53; exact stillFirst (persLength_any _ _ _ HR.out))))
  go_wp2
  go_ret2
  exact ⟨ret_two HB.out.1 HB.out.2, drawnBelow ((Below.refl _ _).alloc (Nat.le_refl _) _) _⟩

theorem persFrom_any (y m d : Int) (w : World) :
    Calls Try.prog 28 #[.agg #[.int .i64 y, .int .i64 m, .int .i64 d]] w fun e w' => e = .returned (.tuple #[.int .i64 (Pers.dayN y m d), .int .i64 (Pers.dayE y m d)]) ∧ Below w.heap.size w w' := by
  cases h0 : Pers.right y
  · exact persFrom_wrong y m d w h0
  · by_cases c : d < 1
    · exact persFrom_early y m d w h0 c
    · by_cases h3 : d ≤ Pers.len y m
      · exact persFrom_good y m d w h0 (by omega) h3
      · exact persFrom_long y m d w h0 (by omega) (by omega)

end Go.Proofs.Ytfkbibjbdibcjaa
