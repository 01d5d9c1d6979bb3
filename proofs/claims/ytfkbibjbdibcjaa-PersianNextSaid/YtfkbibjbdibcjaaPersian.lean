/- The plain arithmetic of the arithmetic Persian calendar: when its years begin, how long its months are, and which year and month a day lies in. -/
import Derived.RowKit
namespace Go.Proofs.Ytfkbibjbdibcjaa.Pers

/-- The year, counted from 474 on, without the gap at 0. -/
def zed (y : Int) : Int := if y < 0 then y - 473 else y - 474
/-- Is the year leap? -/
def lp (y : Int) : Bool := decide (((zed y % 2820 + 474 + 38) * 31) % 128 < 31)
/-- The day with which the year of a count begins. -/
def beg (z : Int) : Int := 226896 + 1029983 * (z / 2820) + 365 * (z % 2820 + 474 - 1) + (31 * (z % 2820 + 474) - 5) / 128
/-- The day with which a year begins. -/
def fst (y : Int) : Int := beg (zed y)
/-- The year behind one. -/
def nxt (y : Int) : Int := if y = -1 then 1 else y + 1
/-- How many days a month has; 0: there is none. -/
def len (y m : Int) : Int := if m < 1 ∨ 12 < m then 0 else if m ≤ 6 then 31 else if m < 12 ∨ lp y = true then 30 else 29
/-- How many days of its year lie ahead of a month. -/
def cum (m : Int) : Int := if m ≤ 7 then 31 * (m - 1) else 30 * (m - 1) + 6

theorem zed_nxt (y : Int) : zed (nxt y) = zed y + 1 := by unfold zed nxt; split <;> split <;> (try split) <;> omega
theorem nxt_ne (y : Int) : nxt y ≠ 0 := by unfold nxt; split <;> omega
theorem nxt_gt (y : Int) : y < nxt y := by unfold nxt; split <;> omega
theorem nxt_le {a b : Int} (hb : b ≠ 0) (h : a < b) : nxt a ≤ b := by unfold nxt; split <;> omega
theorem zed_mono {a b : Int} (h : a ≤ b) : zed a ≤ zed b := by unfold zed; split <;> split <;> omega
theorem zed_inj {a b : Int} (ha : a ≠ 0) (hb : b ≠ 0) (h : zed a = zed b) : a = b := by unfold zed at h; split at h <;> split at h <;> omega
theorem len_in (y m : Int) : 0 ≤ len y m ∧ len y m ≤ 31 := by unfold len; split <;> (try split) <;> (try split) <;> omega
theorem len_pos {y m : Int} (h : 0 < len y m) : 1 ≤ m ∧ m ≤ 12 := by unfold len at h; split at h <;> omega
theorem len_ge {y m : Int} (h1 : 1 ≤ m) (h2 : m ≤ 12) : 29 ≤ len y m := by unfold len; rw [if_neg (by omega)]; split <;> (try split) <;> omega
theorem cum_in {m : Int} (h1 : 1 ≤ m) (h2 : m ≤ 13) : 0 ≤ cum m ∧ cum m ≤ 366 := by unfold cum; split <;> omega
theorem cum_one : cum 1 = 0 := by unfold cum; rfl
theorem cum_next {y m : Int} (h1 : 1 ≤ m) (h2 : m ≤ 11) : cum (m + 1) = cum m + len y m := by
  unfold len cum
  rw [if_neg (by omega : ¬ (m < 1 ∨ 12 < m))]
  by_cases a : m ≤ 6
  · rw [if_pos a, if_pos (by omega), if_pos (by omega)]; omega
  · rw [if_neg a, if_pos (Or.inl (by omega)), if_neg (by omega)]
    by_cases b : m ≤ 7
    · rw [if_pos b]; omega
    · rw [if_neg b]; omega
theorem cum_12 : cum 12 = 336 := by unfold cum; rfl
/-- The year of a count has 366 days in a leap year, 365 in any other. -/
theorem beg_next (z : Int) : beg (z + 1) = beg z + if ((z % 2820 + 474 + 38) * 31) % 128 < 31 then 366 else 365 := by
  unfold beg
  have hz := Int.mul_ediv_add_emod z 2820
  have h0 := Int.emod_nonneg z (show (2820 : Int) ≠ 0 by omega)
  have h1 := Int.emod_lt_of_pos z (show (0 : Int) < 2820 by omega)
  generalize hr : z % 2820 = r at *
  generalize hq : z / 2820 = q at *
  by_cases h : r = 2819
  · have e1 : (z + 1) / 2820 = q + 1 := by omega
    have e2 : (z + 1) % 2820 = 0 := by omega
    subst h
    rw [e1, e2, if_neg (by omega)]; omega
  · have e1 : (z + 1) / 2820 = q := by omega
    have e2 : (z + 1) % 2820 = r + 1 := by omega
    rw [e1, e2]
    rw [show (r + 474 + 38) * 31 = 31 * r + 15872 by omega, show 31 * (r + 1 + 474) - 5 = 31 * r + 14720 by omega, show 31 * (r + 474) - 5 = 31 * r + 14689 by omega]
    rw [show (31 * r + 15872) % 128 = (31 * r) % 128 by omega, show (31 * r + 14720) / 128 = 31 * r / 128 + 115 by omega]
    split <;> omega
theorem fst_nxt (y : Int) : fst (nxt y) = fst y + cum 12 + len y 12 := by
  unfold fst
  rw [zed_nxt, beg_next, cum_12]
  unfold len lp
  by_cases c : ((zed y % 2820 + 474 + 38) * 31) % 128 < 31
  · rw [if_pos c, if_neg (by decide), if_neg (by decide), if_pos (by simp [c])]; omega
  · rw [if_neg c, if_neg (by decide), if_neg (by decide), if_neg (by simp [c])]; omega
theorem beg_lt {a b : Int} (h : a < b) : beg a < beg b := by
  unfold beg; omega
theorem fst_mono {a b : Int} (h : a ≤ b) : fst a ≤ fst b := by
  have := zed_mono h
  unfold fst
  by_cases e : zed a = zed b
  · rw [e]; omega
  · have := beg_lt (a := zed a) (b := zed b) (by omega); omega
theorem fst_in {y : Int} (h0 : -10001 ≤ y) (h1 : y ≤ 20001) : -3700000 ≤ fst y ∧ fst y ≤ 7600000 := by
  unfold fst beg zed; split <;> omega
theorem year_of {n a b : Int} (ha0 : a ≠ 0) (hb0 : b ≠ 0) (ha : fst a ≤ n) (ha' : n < fst (nxt a)) (hb : fst b ≤ n) (hb' : n < fst (nxt b)) : a = b := by
  rcases Int.lt_trichotomy a b with h | h | h
  · have := fst_mono (nxt_le hb0 h); omega
  · exact h
  · have := fst_mono (nxt_le ha0 h); omega
theorem cum_mono {y a b : Int} (h1 : 1 ≤ a) (h2 : b ≤ 12) (h : a < b) : cum a + len y a ≤ cum b := by
  rw [← cum_next h1 (by omega)]; unfold cum; split <;> split <;> omega
/-- The first guess lies at or ahead of the year. -/
theorem guess_pos {n : Int} (h1 : 1 ≤ n) (h2 : n ≤ 3652059) (h : 1 ≤ (n - 226896) / 366) : fst ((n - 226896) / 366) ≤ n := by
  unfold fst beg zed; rw [if_neg (by omega)]; omega
theorem guess_neg {n : Int} (h1 : 1 ≤ n) (h2 : n ≤ 3652059) (h : (n - 226896) / 366 < 1) : fst ((n - 226896) / 366 - 3) ≤ n := by
  unfold fst beg zed; rw [if_pos (by omega)]; omega

/-- The years of which the program speaks. -/
def right (y : Int) : Bool := decide (-10000 ≤ y) && (decide (y ≤ 20000) && (y != 0))
/-- Leap, as the program tells it: of the years that it speaks of alone. -/
def leap (y : Int) : Bool := right y && lp y
/-- The count, as the program reckons it. -/
def shf (y : Int) : Int := if 0 < y then y - 474 else y - 474 + 1
theorem shf_eq {y : Int} (h : y ≠ 0) : shf y = zed y := by unfold shf zed; split <;> split <;> omega
theorem right_yes {y : Int} (h0 : -10000 ≤ y) (h1 : y ≤ 20000) (h2 : y ≠ 0) : right y = true := by simp [right, h0, h1, h2]
theorem right_no {y : Int} (h : y < -10000 ∨ 20000 < y ∨ y = 0) : right y = false := by
  unfold right
  rcases h with h | h | h
  · simp; omega
  · simp; omega
  · simp [h]
theorem right_in {y : Int} (h : right y = true) : -10000 ≤ y ∧ y ≤ 20000 ∧ y ≠ 0 := by simpa [right] using h
theorem leap_in {y : Int} (h : right y = true) : leap y = lp y := by simp [leap, h]
theorem leap_out {y : Int} (h : right y = false) : leap y = false := by simp [leap, h]

/-- The day of a date, and the error's number. -/
def day (y m d : Int) : Int := fst y + cum m + d - 1
def bad (y m d : Int) : Prop := right y = false ∨ d < 1 ∨ len y m < d ∨ day y m d < 1 ∨ 3652059 < day y m d
instance (y m d : Int) : Decidable (bad y m d) := by unfold bad; infer_instance
def dayN (y m d : Int) : Int := if bad y m d then 0 else day y m d
def dayE (y m d : Int) : Int := if bad y m d then 2 else 0
theorem day_fine {y m d : Int} (h0 : right y = true) (h2 : 1 ≤ d) (h3 : d ≤ len y m) (h4 : 1 ≤ day y m d) (h5 : day y m d ≤ 3652059) :
    day y m d = dayN y m d ∧ 0 = dayE y m d := by
  have h : ¬ bad y m d := by unfold bad; simp only [h0]; simp; omega
  unfold dayN dayE
  rw [if_neg h, if_neg h]; omega
theorem day_good {y m d : Int} (h0 : right y = true) (h2 : 1 ≤ d) (h3 : d ≤ len y m) (h4 : 1 ≤ fst y + d - 1 + cum m) (h5 : fst y + d - 1 + cum m ≤ 3652059) :
    fst y + d - 1 + cum m = dayN y m d ∧ 0 = dayE y m d := by
  have := day_fine (y := y) (m := m) (d := d) h0 h2 h3 (by unfold day; omega) (by unfold day; omega)
  unfold day at this; omega
theorem day_bad {y m d : Int} (h : bad y m d) : 0 = dayN y m d ∧ 2 = dayE y m d := by
  unfold dayN dayE
  rw [if_pos h, if_pos h]; omega

/-- The date (y, m, d) is that of day n. -/
structure Is (n y m d : Int) : Prop where
  y0 : y ≠ 0
  from_y : fst y ≤ n
  to_y : n < fst (nxt y)
  m1 : 1 ≤ m
  m12 : m ≤ 12
  d1 : 1 ≤ d
  dm : d ≤ len y m
  eq : n = fst y + cum m + d - 1

theorem month_of {y r a b : Int} (h1 : 1 ≤ a) (h2 : a ≤ 12) (h3 : 1 ≤ b) (h4 : b ≤ 12) (ha : cum a ≤ r) (ha' : r < cum a + len y a) (hb : cum b ≤ r) (hb' : r < cum b + len y b) : a = b := by
  rcases Int.lt_trichotomy a b with h | h | h
  · have := cum_mono (y := y) h1 h4 h; omega
  · exact h
  · have := cum_mono (y := y) h3 h2 h; omega
theorem Is.only {n y m d y' m' d' : Int} (a : Is n y m d) (b : Is n y' m' d') : y = y' ∧ m = m' ∧ d = d' := by
  have hy := year_of a.y0 b.y0 a.from_y a.to_y b.from_y b.to_y
  subst hy
  have ha := a.eq
  have hb := b.eq
  have := a.d1; have := a.dm; have := b.d1; have := b.dm
  have hm : m = m' := month_of (y := y) (r := n - fst y) a.m1 a.m12 b.m1 b.m12 (by omega) (by omega) (by omega) (by omega)
  subst hm
  omega
theorem Is.mk' {n y m d : Int} (h0 : y ≠ 0) (h1 : 1 ≤ d) (h2 : d ≤ len y m) (h : n = fst y + cum m + d - 1) : Is n y m d := by
  have hm := len_pos (y := y) (m := m) (by omega)
  have hc := cum_in hm.1 (by omega : m ≤ 13)
  refine ⟨h0, by omega, ?_, hm.1, hm.2, h1, h2, h⟩
  rw [fst_nxt]
  by_cases e : m = 12
  · subst e; omega
  · have := cum_mono (y := y) hm.1 (by omega : (12 : Int) ≤ 12) (by omega : m < 12)
    have := len_in y 12
    omega
theorem month_found (y r : Int) (N : Nat) : N ≤ 11 → 0 ≤ r → r < cum (N + 1) + len y (N + 1) → ∃ k : Int, 1 ≤ k ∧ k ≤ N + 1 ∧ cum k ≤ r ∧ r < cum k + len y k := by
  induction N with
  | zero => intro _ h0 h1; exact ⟨1, by omega, by omega, by rw [cum_one]; exact h0, by simpa using h1⟩
  | succ N ih =>
    intro hN h0 h1
    by_cases h : r < cum (N + 1) + len y (N + 1)
    · obtain ⟨k, a, b, c, d⟩ := ih (by omega) h0 h
      exact ⟨k, a, by omega, c, d⟩
    · have hc := cum_next (y := y) (m := N + 1) (by omega) (by omega)
      exact ⟨N + 1 + 1, by omega, by omega, by omega, by exact_mod_cast h1⟩
theorem year_found (n : Int) (N : Nat) : ∀ a : Int, a ≠ 0 → fst a ≤ n → n < fst (nxt a) + N → ∃ y : Int, y ≠ 0 ∧ a ≤ y ∧ fst y ≤ n ∧ n < fst (nxt y) := by
  induction N with
  | zero => intro a h0 h1 h2; exact ⟨a, h0, by omega, h1, by simpa using h2⟩
  | succ N ih =>
    intro a h0 h1 h2
    by_cases h : n < fst (nxt a)
    · exact ⟨a, h0, by omega, h1, h⟩
    · have hg := nxt_gt a
      have hs := fst_nxt (nxt a)
      have := len_ge (y := nxt a) (m := 12) (by omega) (by omega)
      rw [cum_12] at hs
      obtain ⟨y, g0, g1, g2, g3⟩ := ih (nxt a) (nxt_ne a) (by omega) (by omega)
      exact ⟨y, g0, by omega, g2, g3⟩
/-- The year from which the program's search begins. -/
def guess (n : Int) : Int := if (n - 226896) / 366 < 1 then (n - 226896) / 366 - 3 else (n - 226896) / 366
theorem guess_in {n : Int} (h1 : 1 ≤ n) (h2 : n ≤ 3652059) : -700 ≤ guess n ∧ guess n ≤ 9500 ∧ guess n ≠ 0 ∧ fst (guess n) ≤ n := by
  unfold guess
  split
  · rename_i h
    exact ⟨by omega, by omega, by omega, guess_neg h1 h2 h⟩
  · rename_i h
    exact ⟨by omega, by omega, by omega, guess_pos h1 h2 (by omega)⟩
theorem found (n : Int) (h1 : 1 ≤ n) (h2 : n ≤ 3652059) : ∃ y m d : Int, Is n y m d := by
  obtain ⟨g1, g2, g3, g4⟩ := guess_in h1 h2
  have hf := fst_in (y := nxt (guess n)) (by unfold nxt; split <;> omega) (by unfold nxt; split <;> omega)
  obtain ⟨y, e0, e1, e2, e3⟩ := year_found n 9000000 (guess n) g3 g4 (by omega)
  have hn := fst_nxt y
  obtain ⟨k, a1, a2, a3, a4⟩ := month_found y (n - fst y) 11 (by omega) (by omega) (by simp; omega)
  exact ⟨y, k, n - fst y - cum k + 1, Is.mk' e0 (by omega) (by omega) (by omega)⟩
theorem Is.near {n y m d : Int} (h : Is n y m d) (h1 : 1 ≤ n) (h2 : n ≤ 3652059) : -700 ≤ y ∧ y ≤ 9800 := by
  have a := h.from_y
  have b := h.to_y
  have c := h.y0
  constructor
  · by_cases g : y < -700
    · have := fst_mono (a := nxt y) (b := -700) (nxt_le (by omega) g)
      have e : fst (-700) = -28774 := by decide
      omega
    · omega
  · by_cases g : 9800 < y
    · have := fst_mono (a := 9800) (b := y) (by omega)
      have e : fst 9800 = 3805904 := by decide
      omega
    · omega
theorem Is.right {n y m d : Int} (h : Is n y m d) (h1 : 1 ≤ n) (h2 : n ≤ 3652059) : right y = true := by
  have := h.near h1 h2
  exact right_yes (by omega) (by omega) h.y0

/-- What is told of day n: its date and no error, or no date and the error of the range. -/
def Told (n y m d e : Int) : Prop := (1 ≤ n ∧ n ≤ 3652059 ∧ Is n y m d ∧ e = 0) ∨ ((n < 1 ∨ 3652059 < n) ∧ y = 0 ∧ m = 0 ∧ d = 0 ∧ e = 2)
theorem told (n : Int) : ∃ y m d e : Int, Told n y m d e := by
  by_cases h : 1 ≤ n ∧ n ≤ 3652059
  · obtain ⟨y, m, d, g⟩ := found n h.1 h.2
    exact ⟨y, m, d, 0, Or.inl ⟨h.1, h.2, g, rfl⟩⟩
  · exact ⟨0, 0, 0, 2, Or.inr ⟨by omega, rfl, rfl, rfl, rfl⟩⟩
theorem from_told {n y m d : Int} (h : Is n y m d) (h1 : 1 ≤ n) (h2 : n ≤ 3652059) : dayN y m d = n ∧ dayE y m d = 0 := by
  have he := h.eq
  have := day_fine (y := y) (m := m) (d := d) (h.right h1 h2) h.d1 h.dm (by unfold day; omega) (by unfold day; omega)
  unfold day at this; omega
theorem back_told (y m d : Int) : (dayE y m d = 2 ∧ dayN y m d = 0) ∨ (dayE y m d = 0 ∧ 1 ≤ dayN y m d ∧ dayN y m d ≤ 3652059 ∧ Is (dayN y m d) y m d) := by
  unfold dayE dayN
  by_cases h : bad y m d
  · rw [if_pos h, if_pos h]; omega
  · rw [if_neg h, if_neg h]
    unfold bad at h
    simp only [not_or, Bool.not_eq_false] at h
    have hr := right_in h.1
    exact Or.inr ⟨rfl, by omega, by omega, Is.mk' hr.2.2 (by omega) (by omega) (by unfold day; omega)⟩
theorem zero_told : dayN 0 0 0 = 0 ∧ dayE 0 0 0 = 2 := by decide
/-- The date of the next day. -/
theorem next_told {n y m d y' m' d' : Int} (a : Is n y m d) (b : Is (n + 1) y' m' d') :
    (y = y' ∧ m = m' ∧ d' = d + 1) ∨ (¬ (y = y' ∧ m = m') ∧ d' = 1 ∧ d = len y m) := by
  have he := a.eq
  by_cases hd : d < len y m
  · obtain ⟨rfl, rfl, rfl⟩ := Is.only b (Is.mk' (n := n + 1) (y := y) (m := m) (d := d + 1) a.y0 (by have := a.d1; omega) (by omega) (by omega))
    exact Or.inl ⟨rfl, rfl, rfl⟩
  · have hl : d = len y m := by have := a.dm; omega
    right
    by_cases hm : m = 12
    · subst hm
      have hn := fst_nxt y
      have hg := nxt_gt y
      have hl1 := len_ge (y := nxt y) (m := 1) (by omega) (by omega)
      obtain ⟨rfl, rfl, rfl⟩ := Is.only b (Is.mk' (n := n + 1) (y := nxt y) (m := 1) (d := 1) (nxt_ne y) (by omega) (by omega) (by rw [cum_one]; omega))
      exact ⟨by omega, rfl, hl⟩
    · have h1 := a.m1
      have h12 := a.m12
      have hn := cum_next (y := y) (m := m) h1 (by omega)
      have hl1 := len_ge (y := y) (m := m + 1) (by omega) (by omega)
      obtain ⟨rfl, rfl, rfl⟩ := Is.only b (Is.mk' (n := n + 1) (y := y) (m := m + 1) (d := 1) a.y0 (by omega) (by omega) (by omega))
      exact ⟨by omega, rfl, hl⟩
theorem Is.before {n y m d k : Int} (h : Is n y m d) (h1 : 1 ≤ k) (h2 : k < m) : day y (k + 1) 1 ≤ n := by
  have := h.eq; have := h.d1; have := h.m12
  have := cum_mono (y := y) h1 h.m12 h2
  have := cum_next (y := y) h1 (by omega : k ≤ 11)
  unfold day; omega
theorem Is.behind {n y m d : Int} (h : Is n y m d) (h1 : m < 12) : n < day y (m + 1) 1 := by
  have := h.eq; have := h.dm; have := h.m1
  have := cum_next (y := y) h.m1 (by omega : m ≤ 11)
  unfold day; omega
theorem Is.the_day {n y m d : Int} (h : Is n y m d) : n - day y m 1 + 1 = d := by
  have := h.eq
  unfold day; omega
theorem day_first (y : Int) : day y 1 1 = fst y := by unfold day; rw [cum_one]; omega
theorem len_next {y m : Int} (h1 : 1 ≤ m) (h2 : m ≤ 11) : day y (m + 1) 1 - day y m 1 = len y m := by
  have := cum_next (y := y) h1 h2
  unfold day; omega
theorem len_year (y : Int) : fst (nxt y) - day y 12 1 = len y 12 := by
  have := fst_nxt y
  unfold day; omega
theorem day_in {y m d : Int} (h0 : -10001 ≤ y) (h1 : y ≤ 20001) (h2 : 1 ≤ m) (h3 : m ≤ 13) (h4 : 0 ≤ d) (h5 : d ≤ 1000) : -4000000 ≤ day y m d ∧ day y m d ≤ 8000000 := by
  have := fst_in h0 h1
  have := cum_in h2 h3
  unfold day; omega
theorem span (n : Int) (h1 : 1 ≤ n) (h2 : n ≤ 3652059) : fst (-800) ≤ n ∧ n < fst 15000 := by
  have a : fst (-800) = -65298 := by decide
  have b : fst 15000 = 5705163 := by decide
  omega

end Go.Proofs.Ytfkbibjbdibcjaa.Pers
