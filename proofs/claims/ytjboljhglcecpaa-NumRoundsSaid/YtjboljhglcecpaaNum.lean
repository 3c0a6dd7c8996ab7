/- Plain facts on quotients cut towards nought, on products, and on numbers of 64 bits: no program is in sight. -/
import Derived.RowKit
namespace Go.Proofs.Ytjboljhglcecpaa.NumPlain
open Go.RowKit

def In (a : Int) : Prop := -9223372036854775808 ≤ a ∧ a ≤ 9223372036854775807

theorem in_of_wf {a : Int} (h : (Lit.int .i64 a).wf = true) : In a := by
  simp only [Lit.wf, IntKind.min, IntKind.max, IntKind.signed, IntKind.bits, Bool.and_eq_true, decide_eq_true_eq, if_true] at h
  unfold In; omega

theorem wrap_in {a : Int} (h : In a) : wrap64 a = a := by unfold In at h; unfold wrap64; omega

theorem wrap_always (a : Int) : In (wrap64 a) := by unfold In wrap64; omega

theorem r0 {a : Int} (b : Int) (h : 0 ≤ a) : 0 ≤ a.tmod b := Int.tmod_nonneg b h
theorem r1 {a : Int} (b : Int) (h : a ≤ 0) : a.tmod b ≤ 0 := by
  have := Int.tmod_nonneg b (a := -a) (by omega)
  rw [Int.neg_tmod] at this; omega
theorem r2 (a : Int) {b : Int} (h : 0 < b) : a.tmod b < b ∧ -b < a.tmod b := by
  have h1 := Int.tmod_lt_of_pos a h
  have h2 := Int.tmod_lt_of_pos (-a) h
  rw [Int.neg_tmod] at h2; omega
theorem r4 (a : Int) {b : Int} (h : b < 0) : a.tmod b < -b ∧ b < a.tmod b := by
  have h1 := Int.tmod_lt_of_pos a (b := -b) (by omega)
  have h2 := Int.tmod_lt_of_pos (-a) (b := -b) (by omega)
  rw [Int.tmod_neg] at h1 h2
  rw [Int.neg_tmod] at h2; omega
theorem q0 {a b : Int} (x : 0 ≤ a) (y : 0 ≤ b) : 0 ≤ a.tdiv b := Int.tdiv_nonneg x y
theorem q1 {a b : Int} (x : 0 ≤ a) (y : b ≤ 0) : a.tdiv b ≤ 0 := by
  have := Int.tdiv_nonneg x (b := -b) (by omega)
  rw [Int.tdiv_neg] at this; omega
theorem q2 {a b : Int} (x : a ≤ 0) (y : 0 ≤ b) : a.tdiv b ≤ 0 := by
  have := Int.tdiv_nonneg (a := -a) (b := b) (by omega) (by omega)
  rw [Int.neg_tdiv] at this; omega
theorem q3 {a b : Int} (x : a ≤ 0) (y : b ≤ 0) : 0 ≤ a.tdiv b := by
  have := Int.tdiv_nonneg (a := -a) (b := -b) (by omega) (by omega)
  rw [Int.neg_tdiv, Int.tdiv_neg] at this; omega
theorem p0 {a : Int} (b : Int) (h : 0 ≤ a) : 0 ≤ b * a.tdiv b := by
  by_cases hp : 0 ≤ b
  · exact Int.mul_nonneg hp (q0 h hp)
  · have h1 := q1 h (b := b) (by omega)
    have h2 := Int.mul_nonneg (a := -b) (b := -(a.tdiv b)) (by omega) (by omega)
    rw [Int.neg_mul_neg] at h2; exact h2
theorem p1 {a : Int} (b : Int) (h : a ≤ 0) : b * a.tdiv b ≤ 0 := by
  by_cases hp : 0 ≤ b
  · have h1 := q2 h hp
    have h2 := Int.mul_nonneg (a := b) (b := -(a.tdiv b)) (by omega) (by omega)
    rw [Int.mul_neg] at h2; omega
  · have h1 := q3 h (b := b) (by omega)
    have h2 := Int.mul_nonneg (a := -b) (b := a.tdiv b) (by omega) (by omega)
    rw [Int.neg_mul] at h2; omega
theorem whole (a b : Int) : b * a.tdiv b + a.tmod b = a := Int.mul_tdiv_add_tmod a b
theorem m0 {a b : Int} (h : 2 ≤ b) (h' : 0 ≤ a) : 2 * a.tdiv b ≤ a := by
  have h1 := Int.mul_nonneg (a := b - 2) (b := a.tdiv b) (by omega) (q0 h' (by omega))
  rw [Int.sub_mul] at h1
  have h2 := r0 b h'
  have h3 := whole a b
  omega
theorem m1 {a b : Int} (h : 2 ≤ b) (h' : a ≤ 0) : a ≤ 2 * a.tdiv b := by
  have h0 := q2 h' (b := b) (by omega)
  have h1 := Int.mul_nonneg (a := b - 2) (b := -(a.tdiv b)) (by omega) (by omega)
  rw [Int.sub_mul, Int.mul_neg] at h1
  have h2 := r1 b h'
  have h3 := whole a b
  omega
theorem m2 {a b : Int} (h : b ≤ -2) (h' : 0 ≤ a) : -a ≤ 2 * a.tdiv b := by
  have h0 := q1 h' (b := b) (by omega)
  have h1 := Int.mul_nonneg (a := -b - 2) (b := -(a.tdiv b)) (by omega) (by omega)
  rw [Int.sub_mul, Int.neg_mul_neg] at h1
  have h2 := r0 b h'
  have h3 := whole a b
  omega
theorem m3 {a b : Int} (h : b ≤ -2) (h' : a ≤ 0) : 2 * a.tdiv b ≤ -a := by
  have h0 := q3 h' (b := b) (by omega)
  have h1 := Int.mul_nonneg (a := -b - 2) (b := a.tdiv b) (by omega) (by omega)
  rw [Int.sub_mul, Int.neg_mul] at h1
  have h2 := r1 b h'
  have h3 := whole a b
  omega

/-- A quotient of two numbers without their signs. -/
theorem td_abs (a b : Int) : (if a < 0 then -a else a).tdiv (if b < 0 then -b else b) = if (decide (a < 0) != decide (b < 0)) = true then -(a.tdiv b) else a.tdiv b := by
  by_cases ha : a < 0 <;> by_cases hb : b < 0 <;> simp [ha, hb, Int.neg_tdiv, Int.tdiv_neg]

theorem u64w (n : Int) : IntKind.u64.wrap n = n % 18446744073709551616 := by
  simp [IntKind.wrap, IntKind.bits, IntKind.signed]

/-- A number without its sign, of 64 bits. -/
theorem size_neg {a : Int} (h : In a) (ha : a < 0) : IntKind.u64.wrap ((IntKind.u64.wrap (wrap64 (-(wrap64 (a + 1))))) + 1) = -a := by
  unfold In at h
  rw [u64w, u64w, wrap_in (a := a + 1) (by unfold In; omega), wrap_in (a := -(a + 1)) (by unfold In; omega)]
  omega

theorem size_pos {a : Int} (h : In a) (ha : ¬ a < 0) : IntKind.u64.wrap a = a := by
  unfold In at h
  rw [u64w]; omega

theorem u64_in {a : Int} (h0 : 0 ≤ a) (h1 : a ≤ 18446744073709551615) : IntKind.u64.wrap a = a := by
  rw [u64w]; omega

theorem sgn (a b : Int) : ((decide (a < 0) != decide (b < 0)) = true ∧ ((a < 0 ∧ 0 ≤ b) ∨ (0 ≤ a ∧ b < 0))) ∨ (¬ (decide (a < 0) != decide (b < 0)) = true ∧ ((a < 0 ∧ b < 0) ∨ (0 ≤ a ∧ 0 ≤ b))) := by
  by_cases x : a < 0 <;> by_cases y : b < 0 <;> simp [x, y] <;> omega

/-- A quotient is of 64 bits, but for one. -/
theorem td_in {a b : Int} (ha : In a) (hb0 : b ≠ 0) (hBad : ¬ (b = -1 ∧ a = -9223372036854775808)) : In (a.tdiv b) := by
  unfold In at *
  by_cases e1 : b = 1
  · rw [e1, Int.tdiv_one]; omega
  · by_cases e2 : b = -1
    · rw [e2, Int.tdiv_neg, Int.tdiv_one]; omega
    · by_cases s : 0 ≤ a
      · by_cases t : 0 < b
        · have h1 := q0 s (b := b) (by omega); have h2 := m0 (b := b) (by omega) s; omega
        · have h1 := q1 s (b := b) (by omega); have h2 := m2 (b := b) (by omega) s; omega
      · by_cases t : 0 < b
        · have h1 := q2 (a := a) (b := b) (by omega) (by omega); have h2 := m1 (a := a) (b := b) (by omega) (by omega); omega
        · have h1 := q3 (a := a) (b := b) (by omega) (by omega); have h2 := m3 (a := a) (b := b) (by omega) (by omega); omega

/-- What is left of a quotient, told anew by its product. -/
theorem td_p {a : Int} (b : Int) (ha : In a) : wrap64 (b * a.tdiv b) = b * a.tdiv b ∧ wrap64 (a - b * a.tdiv b) = a.tmod b ∧ (b * a.tdiv b = a ↔ a.tmod b = 0) := by
  have hw := whole a b
  have h0 : 0 ≤ a → 0 ≤ b * a.tdiv b ∧ 0 ≤ a.tmod b := fun h => ⟨p0 b h, r0 b h⟩
  have h1 : a ≤ 0 → b * a.tdiv b ≤ 0 ∧ a.tmod b ≤ 0 := fun h => ⟨p1 b h, r1 b h⟩
  generalize b * a.tdiv b = p at *
  generalize a.tmod b = r at *
  unfold In at ha
  have hpr : In p ∧ In r := by
    unfold In
    by_cases s : 0 ≤ a
    · have := h0 s; omega
    · have := h1 (by omega); omega
  refine ⟨wrap_in hpr.1, ?_, by omega⟩
  rw [show a - p = r by omega]; exact wrap_in hpr.2

end Go.Proofs.Ytjboljhglcecpaa.NumPlain
