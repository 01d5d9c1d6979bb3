/- The plain arithmetic of the Hebrew calendar: when its years begin, how long they and their months are, and which year and month a day lies in. -/
import Derived.RowKit
namespace Go.Proofs.Ytfkbibjbdibcjaa.Heb

/-- Is the year leap? -/
def lp (y : Int) : Bool := decide ((7 * y + 1) % 19 < 7)
/-- A year's last month, by number. -/
def last (y : Int) : Int := if lp y = true then 13 else 12
def mon (y : Int) : Int := (235 * y - 234) / 19
def dys (y : Int) : Int := 29 * mon y + (12084 + 13753 * mon y) / 25920
/-- How many days have gone by ahead of a year. -/
def elp (y : Int) : Int := if (3 * (dys y + 1)) % 7 < 3 then dys y + 1 else dys y
/-- The begin of a year, by the elapsed days of the year ahead, of itself and of the next one. -/
def put (a b c : Int) : Int := if c - b = 356 then b + 2 else if b - a = 382 then b + 1 else b
/-- The day with which a year begins. -/
def fst (y : Int) : Int := put (elp (y - 1)) (elp y) (elp (y + 1)) - 1373427
/-- How many days a year has. -/
def days (y : Int) : Int := fst (y + 1) - fst y
/-- How many days a month has that there is. -/
def hm (y m : Int) : Int :=
  if m = 2 ∨ m = 4 ∨ m = 6 ∨ m = 10 ∨ m = 13 ∨ m = 12 ∧ lp y = false ∨ m = 8 ∧ days y ≠ 355 ∧ days y ≠ 385 ∨ m = 9 ∧ (days y = 353 ∨ days y = 383) then 29 else 30
/-- How many days a month has; 0: there is none. -/
def len (y m : Int) : Int := if m < 1 ∨ last y < m then 0 else hm y m

/-- The elapsed days of a count of days. -/
def bump (x : Int) : Int := if x % 7 = 2 ∨ x % 7 = 4 ∨ x % 7 = 6 then x + 1 else x
theorem elp_eq (y : Int) : elp y = bump (dys y) := by
  unfold elp bump
  generalize dys y = x
  have h : x % 7 = 0 ∨ x % 7 = 1 ∨ x % 7 = 2 ∨ x % 7 = 3 ∨ x % 7 = 4 ∨ x % 7 = 5 ∨ x % 7 = 6 := by omega
  rcases h with h | h | h | h | h | h | h
  all_goals
    obtain ⟨q, hq⟩ : ∃ q, x = 7 * q + x % 7 := ⟨x / 7, by omega⟩
    rw [h] at hq
    subst hq
    split <;> split <;> omega
theorem bump_add (q x : Int) : bump (7 * q + x) = 7 * q + bump x := by unfold bump; split <;> split <;> omega
theorem put_add (q a b c : Int) : put (7 * q + a) (7 * q + b) (7 * q + c) = 7 * q + put a b c := by
  unfold put
  rw [show 7 * q + c - (7 * q + b) = c - b by omega, show 7 * q + b - (7 * q + a) = b - a by omega]
  split
  · omega
  · split <;> omega

theorem mon_next (y : Int) : mon (y + 1) = mon y + if lp y = true then 13 else 12 := by
  unfold mon lp
  rw [show (235 * y - 234) / 19 = 12 * y - 13 + (7 * y + 13) / 19 by omega, show (235 * (y + 1) - 234) / 19 = 12 * y + (7 * y + 1) / 19 by omega]
  by_cases h : (7 * y + 1) % 19 < 7
  · rw [if_pos (by simp [h])]; omega
  · rw [if_neg (by simp [h])]; omega
theorem lp_next {y : Int} (h : lp y = true) : lp (y + 1) = false := by
  unfold lp at *
  simp only [decide_eq_true_eq, decide_eq_false_iff_not] at *
  obtain ⟨q, r, hq, hr0, hr1⟩ : ∃ q r : Int, 7 * y + 1 = 19 * q + r ∧ 0 ≤ r ∧ r < 7 := ⟨(7 * y + 1) / 19, (7 * y + 1) % 19, by omega, by omega, h⟩
  have e : 7 * (y + 1) + 1 = 19 * q + (r + 7) := by omega
  rw [e]
  clear e hq
  omega
theorem dys_next (y : Int) : (lp y = true ∧ (dys (y + 1) = dys y + 383 ∨ dys (y + 1) = dys y + 384)) ∨ (lp y = false ∧ (dys (y + 1) = dys y + 354 ∨ dys (y + 1) = dys y + 355)) := by
  have h := mon_next y
  unfold dys
  cases hl : lp y <;> simp only [hl] at h
  · right; refine ⟨rfl, ?_⟩; simp at h; rw [h]; omega
  · left; refine ⟨rfl, ?_⟩; simp at h; rw [h]; omega
theorem dys_two (y : Int) : dys (y + 1 + 1) = dys y + 708 ∨ dys (y + 1 + 1) = dys y + 709 ∨ dys (y + 1 + 1) = dys y + 738 ∨ dys (y + 1 + 1) = dys y + 739 := by
  have h := mon_next y
  have g := mon_next (y + 1)
  unfold dys
  rw [g, h]
  cases hl : lp y
  · cases hg : lp (y + 1) <;> simp <;> omega
  · rw [lp_next hl]; simp; omega

def good (r d0 d1 d2 : Int) : Bool :=
  !((d0 + d1 == 708 || d0 + d1 == 709 || d0 + d1 == 738 || d0 + d1 == 739) && (d1 + d2 == 708 || d1 + d2 == 709 || d1 + d2 == 738 || d1 + d2 == 739)) ||
  (let n := put (bump r) (bump (r + d1)) (bump (r + d1 + d2)) - put (bump (r - d0)) (bump r) (bump (r + d1))
   let w := (put (bump (r - d0)) (bump r) (bump (r + d1)) + 1) % 7
   (if d1 < 360 then n == 353 || n == 354 || n == 355 else n == 383 || n == 384 || n == 385) && w != 0 && w != 3 && w != 5)
theorem good_all : ∀ r ∈ ([0, 1, 2, 3, 4, 5, 6] : List Int), ∀ d0 ∈ ([354, 355, 383, 384] : List Int), ∀ d1 ∈ ([354, 355, 383, 384] : List Int), ∀ d2 ∈ ([354, 355, 383, 384] : List Int), good r d0 d1 d2 = true := by
  decide +kernel

theorem year_both (y : Int) : (lp y = true ∧ (days y = 383 ∨ days y = 384 ∨ days y = 385) ∨ lp y = false ∧ (days y = 353 ∨ days y = 354 ∨ days y = 355)) ∧ fst y % 7 ≠ 0 ∧ fst y % 7 ≠ 3 ∧ fst y % 7 ≠ 5 := by
  have h0 := dys_next (y - 1)
  have h1 := dys_next y
  have h2 := dys_next (y + 1)
  have p0 := dys_two (y - 1)
  have p1 := dys_two y
  rw [show y - 1 + 1 = y by omega] at h0 p0
  obtain ⟨q, r, hq, hr0, hr1⟩ : ∃ q r : Int, dys y = 7 * q + r ∧ 0 ≤ r ∧ r < 7 := ⟨dys y / 7, dys y % 7, by omega, by omega, by omega⟩
  obtain ⟨d0, e0⟩ : ∃ d0, dys (y - 1) = 7 * q + (r - d0) := ⟨7 * q + r - dys (y - 1), by omega⟩
  obtain ⟨d1, e1⟩ : ∃ d1, dys (y + 1) = 7 * q + (r + d1) := ⟨dys (y + 1) - 7 * q - r, by omega⟩
  obtain ⟨d2, e2⟩ : ∃ d2, dys (y + 1 + 1) = 7 * q + (r + d1 + d2) := ⟨dys (y + 1 + 1) - 7 * q - r - d1, by omega⟩
  have g := good_all r (by simp; omega) d0 (by simp; omega) d1 (by simp; omega) d2 (by simp; omega)
  unfold days fst
  rw [show y + 1 - 1 = y by omega, elp_eq (y - 1), elp_eq y, elp_eq (y + 1), elp_eq (y + 1 + 1), hq, e0, e1, e2]
  simp only [bump_add, put_add]
  unfold good at g
  generalize put (bump r) (bump (r + d1)) (bump (r + d1 + d2)) = B at *
  generalize put (bump (r - d0)) (bump r) (bump (r + d1)) = A at *
  simp only [Bool.or_eq_true, Bool.not_eq_true', Bool.and_eq_false_iff, Bool.or_eq_false_iff, beq_eq_false_iff_ne, Bool.and_eq_true, bne_iff_ne] at g
  rcases g with g | ⟨⟨⟨g, w0⟩, w3⟩, w5⟩
  · omega
  · refine ⟨?_, by omega, by omega, by omega⟩
    split at g
    · simp only [Bool.or_eq_true, beq_iff_eq] at g
      right; refine ⟨?_, by omega⟩
      rcases h1 with ⟨_, h1⟩ | ⟨h1, _⟩
      · omega
      · exact h1
    · simp only [Bool.or_eq_true, beq_iff_eq] at g
      left; refine ⟨?_, by omega⟩
      rcases h1 with ⟨h1, _⟩ | ⟨_, h1⟩
      · exact h1
      · omega

theorem days_in (y : Int) : 353 ≤ days y ∧ days y ≤ 385 := by have := (year_both y).1; omega

theorem last_in (y : Int) : last y = 12 ∨ last y = 13 := by unfold last; split <;> omega
theorem hm_in (y m : Int) : 29 ≤ hm y m ∧ hm y m ≤ 30 := by unfold hm; split <;> omega
theorem len_in (y m : Int) : 0 ≤ len y m ∧ len y m ≤ 30 := by have := hm_in y m; unfold len; split <;> omega
theorem len_pos {y m : Int} (h : 0 < len y m) : 1 ≤ m ∧ m ≤ last y := by unfold len at h; split at h <;> omega
theorem len_eq {y m : Int} (h1 : 1 ≤ m) (h2 : m ≤ last y) : len y m = hm y m := by unfold len; rw [if_neg (by omega)]

/-- The month behind one. -/
def nxt (y m : Int) : Int := if m = last y then 1 else m + 1
/-- The how-manieth month of its year a month is, from 0 on; month 13 has a place in each year. -/
def pos (m : Int) : Int := if 7 ≤ m then m - 7 else m + 6
/-- How many days of its year lie ahead of a month. -/
def cum (y m : Int) : Int :=
  let b := hm y 8 + hm y 9
  let t := if lp y = true then 148 + b else 118 + b
  if m = 7 then 0 else if m = 8 then 30 else if m = 9 then 30 + hm y 8 else if m = 10 then 30 + b else if m = 11 then 59 + b else if m = 12 then 89 + b else if m = 13 then 119 + b
  else if m = 1 then t else if m = 2 then t + 30 else if m = 3 then t + 59 else if m = 4 then t + 89 else if m = 5 then t + 118 else t + 148

theorem cum_7 (y : Int) : cum y 7 = 0 := by simp [cum]
theorem hm_89 (y : Int) : hm y 8 + hm y 9 = days y - 295 - if lp y = true then 30 else 0 := by
  have h := (year_both y).1
  unfold hm
  rcases h with ⟨h, g | g | g⟩ | ⟨h, g | g | g⟩ <;> simp [h, g]
theorem valid_cases {y m : Int} (h1 : 1 ≤ m) (h2 : m ≤ last y) : m = 1 ∨ m = 2 ∨ m = 3 ∨ m = 4 ∨ m = 5 ∨ m = 6 ∨ m = 7 ∨ m = 8 ∨ m = 9 ∨ m = 10 ∨ m = 11 ∨ m = 12 ∨ m = 13 ∧ lp y = true := by
  unfold last at h2; split at h2
  · rename_i h; simp only [h, and_true]; omega
  · omega
theorem cum_next {y m : Int} (h1 : 1 ≤ m) (h2 : m ≤ last y) (h6 : m ≠ 6) : cum y (nxt y m) = cum y m + hm y m := by
  unfold nxt last
  rcases valid_cases h1 h2 with rfl | rfl | rfl | rfl | rfl | rfl | rfl | rfl | rfl | rfl | rfl | rfl | ⟨rfl, h⟩
  all_goals first
    | (exfalso; omega)
    | (simp [cum, h]; simp [hm]; omega)
    | (cases hl : lp y <;> simp [cum, hl] <;> (try simp [hm, hl]) <;> (try omega))
theorem cum_last (y : Int) : cum y 6 + hm y 6 = days y := by
  have h := hm_89 y
  have e : hm y 6 = 29 := by simp [hm]
  unfold cum
  rw [e]
  cases hl : lp y <;> simp [hl] at h ⊢ <;> omega
theorem pos_in {m : Int} (h1 : 1 ≤ m) (h2 : m ≤ 13) : 0 ≤ pos m ∧ pos m ≤ 12 := by unfold pos; split <;> omega
theorem pos_inj {a b : Int} (h1 : 1 ≤ a) (h2 : a ≤ 13) (h3 : 1 ≤ b) (h4 : b ≤ 13) (h : pos a = pos b) : a = b := by unfold pos at h; split at h <;> split at h <;> omega
theorem nxt_in {y m : Int} (h1 : 1 ≤ m) (h2 : m ≤ last y) : 1 ≤ nxt y m ∧ nxt y m ≤ last y := by
  have := last_in y
  unfold nxt; split <;> omega
theorem pos_nxt {y a : Int} (h1 : 1 ≤ a) (h2 : a ≤ last y) (h6 : a ≠ 6) : pos a < pos (nxt y a) := by
  have := last_in y
  unfold nxt pos; split <;> split <;> (try split) <;> omega
theorem pos_between {y a b : Int} (h1 : 1 ≤ a) (h2 : a ≤ last y) (h3 : 1 ≤ b) (h4 : b ≤ last y) (h : pos a < pos b) : a ≠ 6 ∧ pos (nxt y a) ≤ pos b := by
  have := last_in y
  unfold nxt; unfold pos at *; split at h <;> split at h <;> split <;> split <;> omega
theorem cum_mono {y b : Int} (h3 : 1 ≤ b) (h4 : b ≤ last y) (n : Nat) : ∀ a : Int, 1 ≤ a → a ≤ last y → pos b - pos a = n → pos a < pos b → cum y a + hm y a ≤ cum y b := by
  have hl := last_in y
  induction n using Nat.strongRecOn with
  | _ n ih =>
    intro a h1 h2 hn h
    obtain ⟨g6, g⟩ := pos_between h1 h2 h3 h4 h
    have hin := nxt_in h1 h2
    have hp := pos_nxt h1 h2 g6
    rw [← cum_next h1 h2 g6]
    by_cases e : pos (nxt y a) = pos b
    · rw [pos_inj hin.1 (by omega) h3 (by omega) e]; omega
    · have := ih (pos b - pos (nxt y a)).toNat (by omega) (nxt y a) hin.1 hin.2 (by omega) (by omega)
      have := hm_in y (nxt y a)
      omega
theorem cum_in {y m : Int} (h1 : 1 ≤ m) (h2 : m ≤ last y) : 0 ≤ cum y m ∧ cum y m + hm y m ≤ days y := by
  have hl := last_in y
  constructor
  · by_cases e : m = 7
    · rw [e, cum_7]; omega
    · have hp : pos 7 < pos m := by unfold pos; rw [if_pos (by omega)]; split <;> omega
      have := cum_mono h1 h2 (pos m - pos 7).toNat 7 (by omega) (by omega) (by omega) hp
      rw [cum_7] at this
      have := hm_in y 7
      omega
  · by_cases e : m = 6
    · rw [e, cum_last]; omega
    · have hp : pos m < pos 6 := by unfold pos; split <;> split <;> omega
      have := cum_mono (y := y) (b := 6) (by omega) (by omega) (pos 6 - pos m).toNat m h1 h2 (by omega) hp
      have := cum_last y
      have := hm_in y 6
      omega
theorem month_of {y n a b : Int} (h1 : 1 ≤ a) (h2 : a ≤ last y) (h3 : 1 ≤ b) (h4 : b ≤ last y) (ha : cum y a ≤ n) (ha' : n < cum y a + hm y a) (hb : cum y b ≤ n) (hb' : n < cum y b + hm y b) : a = b := by
  have hl := last_in y
  rcases Int.lt_trichotomy (pos a) (pos b) with h | h | h
  · have := cum_mono h3 h4 (pos b - pos a).toNat a h1 h2 (by omega) h; omega
  · exact pos_inj h1 (by omega) h3 (by omega) h
  · have := cum_mono h1 h2 (pos a - pos b).toNat b h3 h4 (by omega) h; omega

theorem fst_next (y : Int) : fst (y + 1) = fst y + days y := by unfold days; omega
theorem fst_step (y : Int) (n : Nat) : fst y + n ≤ fst (y + n) := by
  induction n with
  | zero => simp
  | succ n ih =>
    have h := fst_next (y + n)
    have := days_in (y + n)
    rw [show y + ((n + 1 : Nat) : Int) = y + n + 1 by omega, h]
    omega
theorem fst_mono {a b : Int} (h : a ≤ b) : fst a ≤ fst b := by
  have := fst_step a (b - a).toNat
  rw [show a + ((b - a).toNat : Int) = b by omega] at this
  omega
theorem year_of {n a b : Int} (ha : fst a ≤ n) (ha' : n < fst (a + 1)) (hb : fst b ≤ n) (hb' : n < fst (b + 1)) : a = b := by
  rcases Int.lt_trichotomy a b with h | h | h
  · have := fst_mono (a := a + 1) (b := b) (by omega); omega
  · exact h
  · have := fst_mono (a := b + 1) (b := a) (by omega); omega
theorem mon_in {y : Int} (h0 : -2 ≤ y) (h1 : y ≤ 20003) : -40 ≤ mon y ∧ mon y ≤ 250000 := by unfold mon; omega
theorem dys_in {y : Int} (h0 : -2 ≤ y) (h1 : y ≤ 20003) : -1200 ≤ dys y ∧ dys y ≤ 8000000 := by
  have := mon_in h0 h1
  unfold dys; omega
theorem elp_in {y : Int} (h0 : -2 ≤ y) (h1 : y ≤ 20003) : -1200 ≤ elp y ∧ elp y ≤ 8000001 := by
  have := dys_in h0 h1
  unfold elp; split <;> omega
theorem fst_near (y : Int) : elp y - 1373427 ≤ fst y ∧ fst y ≤ elp y + 2 - 1373427 := by unfold fst put; split <;> (try split) <;> omega
theorem fst_in {y : Int} (h0 : -1 ≤ y) (h1 : y ≤ 20002) : -1375000 ≤ fst y ∧ fst y ≤ 7000000 := by
  have := elp_in (y := y) (by omega) (by omega)
  have := fst_near y
  omega
theorem elp_near (y : Int) : dys y ≤ elp y ∧ elp y ≤ dys y + 1 := by unfold elp; split <;> omega
theorem fst_up {y : Int} (h : 0 ≤ y) : fst y ≤ 366 * y - 1373427 := by
  have := fst_near y
  have := elp_near y
  have : dys y ≤ 366 * y - 3 := by unfold dys mon; omega
  omega
theorem fst_down {y : Int} (h : 0 ≤ y) : 365 * y - 1373827 ≤ fst y := by
  have := fst_near y
  have := elp_near y
  have : 365 * y - 400 ≤ dys y := by unfold dys mon; omega
  omega

/-- By how many days a year begins later. -/
def dly (y : Int) : Int := if elp (y + 1) - elp y = 356 then 2 else if elp y - elp (y - 1) = 382 then 1 else 0
theorem fst_dly (y : Int) : -1373427 + elp y + dly y = fst y := by unfold fst put dly; split <;> (try split) <;> omega
theorem dly_in (y : Int) : 0 ≤ dly y ∧ dly y ≤ 2 := by unfold dly; split <;> (try split) <;> omega
/-- The years of which the program speaks. -/
def right (y : Int) : Bool := decide (1 ≤ y) && decide (y ≤ 20000)
/-- Leap, as the program tells it: of the years that it speaks of alone. -/
def leap (y : Int) : Bool := right y && lp y
theorem right_yes {y : Int} (h0 : 1 ≤ y) (h1 : y ≤ 20000) : right y = true := by simp [right, h0, h1]
theorem right_no {y : Int} (h : y < 1 ∨ 20000 < y) : right y = false := by unfold right; rcases h with h | h <;> simp <;> omega
theorem right_in {y : Int} (h : right y = true) : 1 ≤ y ∧ y ≤ 20000 := by simpa [right] using h
/-- How many days a month has, as the program tells it. -/
def lenR (y m : Int) : Int := if right y = true then len y m else 0
theorem lenR_in (y m : Int) : 0 ≤ lenR y m ∧ lenR y m ≤ 30 := by have := len_in y m; unfold lenR; split <;> omega
theorem lenR_eq {y m : Int} (h : right y = true) : lenR y m = len y m := by unfold lenR; rw [if_pos h]
theorem lenR_no {y m : Int} (h : right y = false) : lenR y m = 0 := by unfold lenR; rw [if_neg (by simp [h])]

/-- The day of a date, and the error's number. -/
def day (y m d : Int) : Int := fst y + cum y m + d - 1
def bad (y m d : Int) : Prop := d < 1 ∨ lenR y m < d ∨ day y m d < 1 ∨ 3652059 < day y m d
instance (y m d : Int) : Decidable (bad y m d) := by unfold bad; infer_instance
def dayN (y m d : Int) : Int := if bad y m d then 0 else day y m d
def dayE (y m d : Int) : Int := if bad y m d then 2 else 0
theorem day_fine {y m d : Int} (h2 : 1 ≤ d) (h3 : d ≤ lenR y m) (h4 : 1 ≤ day y m d) (h5 : day y m d ≤ 3652059) :
    day y m d = dayN y m d ∧ 0 = dayE y m d := by
  have h : ¬ bad y m d := by unfold bad; omega
  unfold dayN dayE
  rw [if_neg h, if_neg h]; omega
theorem day_good {y m d : Int} (h2 : 1 ≤ d) (h3 : d ≤ lenR y m) (h4 : 1 ≤ fst y + d - 1 + cum y m) (h5 : fst y + d - 1 + cum y m ≤ 3652059) :
    fst y + d - 1 + cum y m = dayN y m d ∧ 0 = dayE y m d := by
  have := day_fine (y := y) (m := m) (d := d) h2 h3 (by unfold day; omega) (by unfold day; omega)
  unfold day at this; omega
theorem day_bad {y m d : Int} (h : bad y m d) : 0 = dayN y m d ∧ 2 = dayE y m d := by
  unfold dayN dayE
  rw [if_pos h, if_pos h]; omega
theorem lenR_pos {y m : Int} (h : 0 < lenR y m) : right y = true ∧ 1 ≤ m ∧ m ≤ last y ∧ lenR y m = hm y m := by
  unfold lenR at *
  split at h
  · rename_i g
    have hp := len_pos h
    rw [if_pos g]
    exact ⟨g, hp.1, hp.2, len_eq hp.1 hp.2⟩
  · omega

/-- The date (y, m, d) is that of day n. -/
structure Is (n y m d : Int) : Prop where
  from_y : fst y ≤ n
  to_y : n < fst (y + 1)
  m1 : 1 ≤ m
  ml : m ≤ last y
  d1 : 1 ≤ d
  dh : d ≤ hm y m
  eq : n = fst y + cum y m + d - 1

theorem Is.only {n y m d y' m' d' : Int} (a : Is n y m d) (b : Is n y' m' d') : y = y' ∧ m = m' ∧ d = d' := by
  have hy := year_of a.from_y a.to_y b.from_y b.to_y
  subst hy
  have ha := a.eq
  have hb := b.eq
  have := a.d1; have := a.dh; have := b.d1; have := b.dh
  have hm : m = m' := month_of (y := y) (n := n - fst y) a.m1 a.ml b.m1 b.ml (by omega) (by omega) (by omega) (by omega)
  subst hm
  omega
theorem Is.mk' {n y m d : Int} (hm1 : 1 ≤ m) (hml : m ≤ last y) (h1 : 1 ≤ d) (h2 : d ≤ hm y m) (h : n = fst y + cum y m + d - 1) : Is n y m d := by
  have hc := cum_in hm1 hml
  refine ⟨by omega, ?_, hm1, hml, h1, h2, h⟩
  rw [fst_next]; omega
theorem month_found (y r : Int) (N : Nat) : ∀ a : Int, 1 ≤ a → a ≤ last y → 12 - pos a ≤ N → cum y a ≤ r → r < days y → ∃ k : Int, 1 ≤ k ∧ k ≤ last y ∧ cum y k ≤ r ∧ r < cum y k + hm y k := by
  have hl := last_in y
  induction N with
  | zero =>
    intro a h1 h2 hN h3 h4
    have e : a = 6 := pos_inj h1 (by omega) (by omega) (by omega) (by have := pos_in h1 (by omega); have : pos 6 = 12 := by decide
                                                                      omega)
    subst e
    have := cum_last y
    exact ⟨6, h1, h2, h3, by omega⟩
  | succ N ih =>
    intro a h1 h2 hN h3 h4
    by_cases h : r < cum y a + hm y a
    · exact ⟨a, h1, h2, h3, h⟩
    · by_cases e : a = 6
      · subst e
        have := cum_last y
        omega
      · have hc := cum_next h1 h2 e
        have hi := nxt_in h1 h2
        have hp := pos_nxt h1 h2 e
        exact ih (nxt y a) hi.1 hi.2 (by omega) (by omega) h4
theorem year_found (n : Int) (N : Nat) : ∀ a : Int, fst a ≤ n → n < fst (a + 1) + N → ∃ y : Int, a ≤ y ∧ fst y ≤ n ∧ n < fst (y + 1) := by
  induction N with
  | zero => intro a h1 h2; exact ⟨a, by omega, h1, by simpa using h2⟩
  | succ N ih =>
    intro a h1 h2
    by_cases h : n < fst (a + 1)
    · exact ⟨a, by omega, h1, h⟩
    · have hs := fst_next (a + 1)
      have := days_in (a + 1)
      obtain ⟨y, g1, g2, g3⟩ := ih (a + 1) (by omega) (by omega)
      exact ⟨y, by omega, g2, g3⟩
theorem guess_in {n : Int} (h1 : 1 ≤ n) (h2 : n ≤ 3652059) : 3700 ≤ (n - -1373427) / 366 ∧ (n - -1373427) / 366 ≤ 13800 ∧ fst ((n - -1373427) / 366) ≤ n := by
  refine ⟨by omega, by omega, ?_⟩
  have := fst_up (y := (n - -1373427) / 366) (by omega)
  omega
theorem found (n : Int) (h1 : 1 ≤ n) (h2 : n ≤ 3652059) : ∃ y m d : Int, Is n y m d := by
  obtain ⟨g1, g2, g4⟩ := guess_in h1 h2
  generalize (n - -1373427) / 366 = a at *
  have hf := fst_in (y := a + 1) (by omega) (by omega)
  obtain ⟨y, e1, e2, e3⟩ := year_found n 9000000 a g4 (by omega)
  have hl := last_in y
  have hn := fst_next y
  have h7 := cum_7 y
  obtain ⟨k, a1, a2, a3, a4⟩ := month_found y (n - fst y) 12 7 (by omega) (by omega) (by decide) (by omega) (by omega)
  exact ⟨y, k, n - fst y - cum y k + 1, Is.mk' a1 a2 (by omega) (by omega) (by omega)⟩
theorem Is.near {n y m d : Int} (h : Is n y m d) (h1 : 1 ≤ n) (h2 : n ≤ 3652059) : 3700 ≤ y ∧ y ≤ 13800 := by
  obtain ⟨g1, g2, g4⟩ := guess_in h1 h2
  have a := h.from_y
  have b := h.to_y
  constructor
  · by_cases g : y < 3700
    · have := fst_mono (a := y + 1) (b := (n - -1373427) / 366) (by omega); omega
    · omega
  · by_cases g : 13800 < y
    · have := fst_down (y := y) (by omega); omega
    · omega
theorem Is.right {n y m d : Int} (h : Is n y m d) (h1 : 1 ≤ n) (h2 : n ≤ 3652059) : right y = true := by
  have := h.near h1 h2
  exact right_yes (by omega) (by omega)
theorem Is.dm' {n y m d : Int} (h : Is n y m d) (h1 : 1 ≤ n) (h2 : n ≤ 3652059) : d ≤ lenR y m := by
  rw [lenR_eq (h.right h1 h2), len_eq h.m1 h.ml]; exact h.dh
theorem Is.dm {n y m d : Int} (h : Is n y m d) : d ≤ len y m := by rw [len_eq h.m1 h.ml]; exact h.dh

/-- What is told of day n: its date and no error, or no date and the error of the range. -/
def Told (n y m d e : Int) : Prop := (1 ≤ n ∧ n ≤ 3652059 ∧ Is n y m d ∧ e = 0) ∨ ((n < 1 ∨ 3652059 < n) ∧ y = 0 ∧ m = 0 ∧ d = 0 ∧ e = 2)
theorem told (n : Int) : ∃ y m d e : Int, Told n y m d e := by
  by_cases h : 1 ≤ n ∧ n ≤ 3652059
  · obtain ⟨y, m, d, g⟩ := found n h.1 h.2
    exact ⟨y, m, d, 0, Or.inl ⟨h.1, h.2, g, rfl⟩⟩
  · exact ⟨0, 0, 0, 2, Or.inr ⟨by omega, rfl, rfl, rfl, rfl⟩⟩
theorem from_told {n y m d : Int} (h : Is n y m d) (h1 : 1 ≤ n) (h2 : n ≤ 3652059) : dayN y m d = n ∧ dayE y m d = 0 := by
  have he := h.eq
  have := day_fine (y := y) (m := m) (d := d) h.d1 (h.dm' h1 h2) (by unfold day; omega) (by unfold day; omega)
  unfold day at this; omega
theorem back_told (y m d : Int) : (dayE y m d = 2 ∧ dayN y m d = 0) ∨ (dayE y m d = 0 ∧ 1 ≤ dayN y m d ∧ dayN y m d ≤ 3652059 ∧ Is (dayN y m d) y m d) := by
  unfold dayE dayN
  by_cases h : bad y m d
  · rw [if_pos h, if_pos h]; omega
  · rw [if_neg h, if_neg h]
    unfold bad at h
    have hp := lenR_pos (y := y) (m := m) (by omega)
    exact Or.inr ⟨rfl, by omega, by omega, Is.mk' hp.2.1 hp.2.2.1 (by omega) (by omega) (by unfold day; omega)⟩
theorem zero_told : dayN 0 0 0 = 0 ∧ dayE 0 0 0 = 2 := by
  have h := day_bad (y := 0) (m := 0) (d := 0) (Or.inl (by omega))
  omega
/-- The date of the next day. -/
theorem next_told {n y m d y' m' d' : Int} (a : Is n y m d) (b : Is (n + 1) y' m' d') :
    (y = y' ∧ m = m' ∧ d' = d + 1) ∨ (¬ (y = y' ∧ m = m') ∧ d' = 1 ∧ d = len y m) := by
  have he := a.eq
  have hle := len_eq a.m1 a.ml
  by_cases hd : d < hm y m
  · obtain ⟨rfl, rfl, rfl⟩ := Is.only b (Is.mk' (n := n + 1) (y := y) (m := m) (d := d + 1) a.m1 a.ml (by have := a.d1; omega) (by omega) (by omega))
    exact Or.inl ⟨rfl, rfl, rfl⟩
  · have hl : d = len y m := by have := a.dh; omega
    right
    by_cases hm6 : m = 6
    · subst hm6
      have hn := fst_next y
      have hc := cum_last y
      have h7 := cum_7 (y + 1)
      have hla := last_in (y + 1)
      have hl1 := hm_in (y + 1) 7
      obtain ⟨rfl, rfl, rfl⟩ := Is.only b (Is.mk' (n := n + 1) (y := y + 1) (m := 7) (d := 1) (by omega) (by omega) (by omega) (by omega) (by omega))
      exact ⟨by omega, rfl, hl⟩
    · have hn := cum_next a.m1 a.ml hm6
      have hi := nxt_in a.m1 a.ml
      have hp := pos_nxt a.m1 a.ml hm6
      have hl1 := hm_in y (nxt y m)
      obtain ⟨rfl, rfl, rfl⟩ := Is.only b (Is.mk' (n := n + 1) (y := y) (m := nxt y m) (d := 1) hi.1 hi.2 (by omega) (by omega) (by omega))
      exact ⟨fun h => by rw [← h.2] at hp; omega, rfl, hl⟩
/-- The days ahead of a month, where the months from 7 on are counted on to the one behind the last. -/
def tally (y k : Int) : Int := if k = last y + 1 then cum y 1 else cum y k
theorem tally_next {y k : Int} (h1 : 7 ≤ k) (h2 : k ≤ last y) : tally y (k + 1) = tally y k + hm y k := by
  have hn := cum_next (y := y) (m := k) (by omega) h2 (by omega)
  unfold nxt at hn
  unfold tally
  rw [if_neg (by omega : ¬ k = last y + 1)]
  by_cases e : k = last y
  · rw [if_pos e] at hn
    rw [if_pos (by omega)]; exact hn
  · rw [if_neg e] at hn
    rw [if_neg (by omega)]; exact hn
theorem tally_7 (y : Int) : tally y 7 = 0 := by
  have := last_in y
  unfold tally; rw [if_neg (by omega), cum_7]
theorem tally_end (y : Int) : tally y (last y + 1) = cum y 1 := by unfold tally; rw [if_pos rfl]
theorem tally_in {y k : Int} (h1 : 7 ≤ k) (h2 : k ≤ last y + 1) : 0 ≤ tally y k ∧ tally y k ≤ 400 := by
  have hl := last_in y
  have hd := days_in y
  unfold tally
  split
  · have := cum_in (y := y) (m := 1) (by omega) (by omega)
    have := hm_in y 1
    omega
  · have := cum_in (y := y) (m := k) (by omega) (by omega)
    have := hm_in y k
    omega
theorem cum_up {y k : Int} (h1 : 7 ≤ k) (h2 : k < last y) : cum y (k + 1) = cum y k + hm y k := by
  have hn := cum_next (y := y) (m := k) (by omega) (by omega) (by omega)
  unfold nxt at hn
  rw [if_neg (by omega)] at hn; exact hn
theorem cum_low {y k : Int} (h1 : 1 ≤ k) (h2 : k < 6) : cum y (k + 1) = cum y k + hm y k := by
  have hl := last_in y
  have hn := cum_next (y := y) (m := k) (by omega) (by omega) (by omega)
  unfold nxt at hn
  rw [if_neg (by omega)] at hn; exact hn
theorem cum_small {y k : Int} (h1 : 1 ≤ k) (h2 : k ≤ last y) : 0 ≤ cum y k ∧ cum y k ≤ 400 := by
  have := cum_in h1 h2
  have := hm_in y k
  have := days_in y
  omega
theorem span (n : Int) (h1 : 1 ≤ n) (h2 : n ≤ 3652059) : fst 3000 ≤ n ∧ n < fst 15000 := by
  have a := fst_up (y := 3000) (by omega)
  have b := fst_down (y := 15000) (by omega)
  omega

end Go.Proofs.Ytfkbibjbdibcjaa.Heb
