/- Go's division and remainder, rounded down: plain arithmetic. -/
import Derived.RowKit
namespace Go.Proofs.Ytfkbibjbdibcjaa.Div

/-- Of a number below 0: the quotient that is cut towards 0. -/
theorem tdiv_low {a b : Int} (h : a.tmod b = 0) : a.tdiv b = a / b := by
  have hd : b ∣ a := Int.dvd_of_tmod_eq_zero h
  rw [Int.tdiv_eq_ediv_of_dvd hd]
theorem tdiv_less {a b : Int} (hb : 0 < b) (ha : a < 0) (h : a.tmod b ≠ 0) : a.tdiv b = a / b + 1 := by
  rw [Int.tdiv_eq_ediv]
  have hd : ¬ b ∣ a := fun hd => h (Int.tmod_eq_zero_of_dvd hd)
  rw [if_neg (by simp only [not_or]; exact ⟨by omega, hd⟩), Int.sign_eq_one_of_pos hb]
theorem ediv_le {a b : Int} (hb : 0 < b) (h0 : 0 ≤ a) : 0 ≤ a / b ∧ a / b ≤ a :=
  ⟨Int.ediv_nonneg h0 (by omega), Int.ediv_le_self _ h0⟩
theorem ediv_in {a b M : Int} (hb : 0 < b) (h0 : -M ≤ a) (h1 : a ≤ M) : -M ≤ a / b ∧ a / b ≤ M := by
  constructor
  · apply (Int.le_ediv_iff_mul_le hb).2
    have : -M * b ≤ -M * 1 ∨ M < 0 := by
      by_cases h : M < 0
      · exact Or.inr h
      · left; apply Int.mul_le_mul_of_nonpos_left <;> omega
    omega
  · by_cases h : 0 ≤ a
    · have := ediv_le hb h; omega
    · have := Int.ediv_neg_of_neg_of_pos (a := a) (b := b) (by omega) hb
      omega
theorem mul_near {a b : Int} (hb : 0 < b) : b * (a / b) ≤ a ∧ a < b * (a / b) + b := by
  have := Int.mul_ediv_add_emod a b
  have := Int.emod_nonneg a (by omega : b ≠ 0)
  have := Int.emod_lt_of_pos a hb
  omega
end Go.Proofs.Ytfkbibjbdibcjaa.Div
