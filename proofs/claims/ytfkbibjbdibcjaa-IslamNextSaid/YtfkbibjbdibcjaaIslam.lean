/- The plain arithmetic of the tabular Islamic calendar: when its years begin, how long its months are, and which year and month a day lies in. -/
import Derived.RowKit
namespace Go.Proofs.Ytfkbibjbdibcjaa.Isl
open Go.RowKit

theorem wrapIn {n : Int} (h0 : -9223372036854775808 ≤ n) (h1 : n ≤ 9223372036854775807) : wrap64 n = n := by unfold wrap64; omega

/-- Is the year leap? -/
def lp (y : Int) : Bool := decide ((14 + 11 * y) % 30 < 11)
/-- The day with which a year begins. -/
def fst (y : Int) : Int := 227015 + 354 * (y - 1) + (3 + 11 * y) / 30
/-- How many days a month has; 0: there is none. -/
def len (y m : Int) : Int := if m < 1 ∨ 12 < m then 0 else if m % 2 = 1 ∨ m = 12 ∧ lp y = true then 30 else 29
/-- How many days of its year lie ahead of a month. -/
def cum (m : Int) : Int := 29 * (m - 1) + (6 * m - 1) / 11

/-- Leap, as the program tells it: of the years that it speaks of alone. -/
def leap (y : Int) : Bool := decide (-10000 ≤ y) && (decide (y ≤ 20000) && lp y)
/-- The day of a date, and the error's number. -/
def day (y m d : Int) : Int := fst y + cum m + d - 1
def bad (y m d : Int) : Prop := y < -10000 ∨ 20000 < y ∨ d < 1 ∨ len y m < d ∨ day y m d < 1 ∨ 3652059 < day y m d
instance (y m d : Int) : Decidable (bad y m d) := by unfold bad; infer_instance
def dayN (y m d : Int) : Int := if bad y m d then 0 else day y m d
def dayE (y m d : Int) : Int := if bad y m d then 2 else 0
theorem day_good {y m d : Int} (h0 : -10000 ≤ y) (h1 : y ≤ 20000) (h2 : 1 ≤ d) (h3 : d ≤ len y m) (h4 : 1 ≤ fst y + d - 1 + cum m) (h5 : fst y + d - 1 + cum m ≤ 3652059) :
    fst y + d - 1 + cum m = dayN y m d ∧ 0 = dayE y m d := by
  have h : ¬ bad y m d := by unfold bad day; omega
  unfold dayN dayE
  rw [if_neg h, if_neg h]; unfold day; omega
theorem day_fine {y m d : Int} (h0 : -10000 ≤ y) (h1 : y ≤ 20000) (h2 : 1 ≤ d) (h3 : d ≤ len y m) (h4 : 1 ≤ day y m d) (h5 : day y m d ≤ 3652059) :
    day y m d = dayN y m d ∧ 0 = dayE y m d := by
  have h : ¬ bad y m d := by unfold bad; omega
  unfold dayN dayE
  rw [if_neg h, if_neg h]; omega
theorem day_bad {y m d : Int} (h : bad y m d) : 0 = dayN y m d ∧ 2 = dayE y m d := by
  unfold dayN dayE
  rw [if_pos h, if_pos h]; omega

theorem leap_in {y : Int} (h0 : -10000 ≤ y) (h1 : y ≤ 20000) : leap y = lp y := by simp [leap, h0, h1]
theorem leap_out {y : Int} (h : y < -10000 ∨ 20000 < y) : leap y = false := by unfold leap; rcases h with h | h <;> simp <;> omega
theorem len_in (y m : Int) : 0 ≤ len y m ∧ len y m ≤ 30 := by unfold len; split <;> (try split) <;> omega
theorem len_pos {y m : Int} (h : 0 < len y m) : 1 ≤ m ∧ m ≤ 12 := by unfold len at h; split at h <;> omega
theorem len_ge {y m : Int} (h1 : 1 ≤ m) (h2 : m ≤ 12) : 29 ≤ len y m := by unfold len; rw [if_neg (by omega)]; split <;> omega
theorem cum_in {m : Int} (h1 : 1 ≤ m) (h2 : m ≤ 13) : 0 ≤ cum m ∧ cum m ≤ 355 := by unfold cum; omega
theorem cum_one : cum 1 = 0 := by unfold cum; omega
theorem cum_next {y m : Int} (h1 : 1 ≤ m) (h2 : m ≤ 11) : cum (m + 1) = cum m + len y m := by
  unfold len
  rw [if_neg (by omega)]
  have : m = 1 ∨ m = 2 ∨ m = 3 ∨ m = 4 ∨ m = 5 ∨ m = 6 ∨ m = 7 ∨ m = 8 ∨ m = 9 ∨ m = 10 ∨ m = 11 := by omega
  rcases this with rfl | rfl | rfl | rfl | rfl | rfl | rfl | rfl | rfl | rfl | rfl <;> simp [cum]
theorem fst_next (y : Int) : fst (y + 1) = fst y + cum 12 + len y 12 := by
  unfold len lp fst cum
  rw [if_neg (by omega), show 3 + 11 * (y + 1) = 14 + 11 * y by omega]
  by_cases h : (14 + 11 * y) % 30 < 11
  · rw [if_pos (by simp [h])]; omega
  · rw [if_neg (by simp [h])]; omega
theorem fst_mono {a b : Int} (h : a ≤ b) : fst a ≤ fst b := by unfold fst; omega
theorem fst_in {y : Int} (h0 : -10001 ≤ y) (h1 : y ≤ 20001) : -3600000 ≤ fst y ∧ fst y ≤ 7400000 := by unfold fst; omega
theorem year_of {n a b : Int} (ha : fst a ≤ n) (ha' : n < fst (a + 1)) (hb : fst b ≤ n) (hb' : n < fst (b + 1)) : a = b := by
  unfold fst at *; omega
theorem year_found (n : Int) : fst ((30 * (n - 227015) + 10646) / 10631) ≤ n ∧ n < fst ((30 * (n - 227015) + 10646) / 10631 + 1) := by
  unfold fst; omega
theorem cum_mono {y a b : Int} (h1 : 1 ≤ a) (h2 : b ≤ 12) (h : a < b) : cum a + len y a ≤ cum b := by
  rw [← cum_next h1 (by omega)]; unfold cum; omega

/-- The date (y, m, d) is that of day n. -/
structure Is (n y m d : Int) : Prop where
  from_y : fst y ≤ n
  to_y : n < fst (y + 1)
  m1 : 1 ≤ m
  m12 : m ≤ 12
  d1 : 1 ≤ d
  dm : d ≤ len y m
  eq : n = fst y + cum m + d - 1

theorem month_of {y r a b : Int} (h1 : 1 ≤ a) (h2 : a ≤ 12) (h3 : 1 ≤ b) (h4 : b ≤ 12) (ha : cum a ≤ r) (ha' : r < cum a + len y a) (hb : cum b ≤ r) (hb' : r < cum b + len y b) : a = b := by
  rcases Int.lt_trichotomy a b with h | h | h
  · have := cum_mono (y := y) h1 h4 h; omega
  · exact h
  · have := cum_mono (y := y) h3 h2 h; omega
theorem Is.only {n y m d y' m' d' : Int} (a : Is n y m d) (b : Is n y' m' d') : y = y' ∧ m = m' ∧ d = d' := by
  have hy := year_of a.from_y a.to_y b.from_y b.to_y
  subst hy
  have ha := a.eq
  have hb := b.eq
  have := a.d1; have := a.dm; have := b.d1; have := b.dm
  have hm : m = m' := month_of (y := y) (r := n - fst y) a.m1 a.m12 b.m1 b.m12 (by omega) (by omega) (by omega) (by omega)
  subst hm
  omega
theorem Is.mk' {n y m d : Int} (h1 : 1 ≤ d) (h2 : d ≤ len y m) (h : n = fst y + cum m + d - 1) : Is n y m d := by
  have hm := len_pos (y := y) (m := m) (by omega)
  have hc := cum_in hm.1 (by omega : m ≤ 13)
  refine ⟨by omega, ?_, hm.1, hm.2, h1, h2, h⟩
  rw [fst_next]
  by_cases e : m = 12
  · subst e; omega
  · have := cum_mono (y := y) hm.1 (by omega : (12 : Int) ≤ 12) (by omega : m < 12)
    have := len_in y 12
    omega
theorem month_found (y r : Int) (N : Nat) : N ≤ 11 → 0 ≤ r → r < cum (N + 1) + len y (N + 1) → ∃ k : Int, 1 ≤ k ∧ k ≤ N + 1 ∧ cum k ≤ r ∧ r < cum k + len y k := by
  induction N with
  | zero => intro _ h0 h1; exact ⟨1, by omega, by omega, by rw [cum_one]; exact h0, by simpa using h1⟩
  | succ N ih =>
    intro hN h0 h1
    by_cases h : r < cum (N + 1) + len y (N + 1)
    · obtain ⟨k, a, b, c, d⟩ := ih (by omega) h0 h
      exact ⟨k, a, by omega, c, d⟩
    · have hc := cum_next (y := y) (m := N + 1) (by omega) (by omega)
      exact ⟨N + 1 + 1, by omega, by omega, by omega, by exact_mod_cast h1⟩
theorem found (n : Int) : ∃ y m d : Int, Is n y m d := by
  have h := year_found n
  generalize (30 * (n - 227015) + 10646) / 10631 = y at h
  have hn := fst_next y
  obtain ⟨k, h1, h2, h3, h4⟩ := month_found y (n - fst y) 11 (by omega) (by omega) (by simp; omega)
  exact ⟨y, k, n - fst y - cum k + 1, Is.mk' (by omega) (by omega) (by omega)⟩
theorem Is.year {n y m d : Int} (h : Is n y m d) : (30 * (n - 227015) + 10646) / 10631 = y :=
  year_of (year_found n).1 (year_found n).2 h.from_y h.to_y
theorem Is.near {n y m d : Int} (h : Is n y m d) (h1 : 1 ≤ n) (h2 : n ≤ 3652059) : -700 ≤ y ∧ y ≤ 9800 := by
  have a := h.from_y
  have b := h.to_y
  unfold fst at a b; omega

/-- What is told of day n: its date and no error, or no date and the error of the range. -/
def Told (n y m d e : Int) : Prop := (1 ≤ n ∧ n ≤ 3652059 ∧ Is n y m d ∧ e = 0) ∨ ((n < 1 ∨ 3652059 < n) ∧ y = 0 ∧ m = 0 ∧ d = 0 ∧ e = 2)
theorem told (n : Int) : ∃ y m d e : Int, Told n y m d e := by
  by_cases h : 1 ≤ n ∧ n ≤ 3652059
  · obtain ⟨y, m, d, g⟩ := found n
    exact ⟨y, m, d, 0, Or.inl ⟨h.1, h.2, g, rfl⟩⟩
  · exact ⟨0, 0, 0, 2, Or.inr ⟨by omega, rfl, rfl, rfl, rfl⟩⟩
theorem from_told {n y m d : Int} (h : Is n y m d) (h1 : 1 ≤ n) (h2 : n ≤ 3652059) : dayN y m d = n ∧ dayE y m d = 0 := by
  have hy := h.near h1 h2
  have he := h.eq
  have := day_fine (y := y) (m := m) (d := d) (by omega) (by omega) h.d1 h.dm (by unfold day; omega) (by unfold day; omega)
  unfold day at this; omega
theorem back_told (y m d : Int) : (dayE y m d = 2 ∧ dayN y m d = 0) ∨ (dayE y m d = 0 ∧ 1 ≤ dayN y m d ∧ dayN y m d ≤ 3652059 ∧ Is (dayN y m d) y m d) := by
  unfold dayE dayN
  by_cases h : bad y m d
  · rw [if_pos h, if_pos h]; omega
  · rw [if_neg h, if_neg h]
    unfold bad at h
    exact Or.inr ⟨rfl, by omega, by omega, Is.mk' (by omega) (by omega) (by unfold day; omega)⟩
theorem zero_told : dayN 0 0 0 = 0 ∧ dayE 0 0 0 = 2 := by decide
/-- The date of the next day. -/
theorem next_told {n y m d y' m' d' : Int} (a : Is n y m d) (b : Is (n + 1) y' m' d') :
    (y = y' ∧ m = m' ∧ d' = d + 1) ∨ (¬ (y = y' ∧ m = m') ∧ d' = 1 ∧ d = len y m) := by
  have he := a.eq
  by_cases hd : d < len y m
  · obtain ⟨rfl, rfl, rfl⟩ := Is.only b (Is.mk' (n := n + 1) (y := y) (m := m) (d := d + 1) (by have := a.d1; omega) (by omega) (by omega))
    exact Or.inl ⟨rfl, rfl, rfl⟩
  · have hl : d = len y m := by have := a.dm; omega
    right
    by_cases hm : m = 12
    · subst hm
      have hn := fst_next y
      have hl1 := len_ge (y := y + 1) (m := 1) (by omega) (by omega)
      obtain ⟨rfl, rfl, rfl⟩ := Is.only b (Is.mk' (n := n + 1) (y := y + 1) (m := 1) (d := 1) (by omega) (by omega) (by rw [cum_one]; omega))
      exact ⟨by omega, rfl, hl⟩
    · have h1 := a.m1
      have h12 := a.m12
      have hn := cum_next (y := y) (m := m) h1 (by omega)
      have hl1 := len_ge (y := y) (m := m + 1) (by omega) (by omega)
      obtain ⟨rfl, rfl, rfl⟩ := Is.only b (Is.mk' (n := n + 1) (y := y) (m := m + 1) (d := 1) (by omega) (by omega) (by omega))
      exact ⟨by omega, rfl, hl⟩

end Go.Proofs.Ytfkbibjbdibcjaa.Isl
