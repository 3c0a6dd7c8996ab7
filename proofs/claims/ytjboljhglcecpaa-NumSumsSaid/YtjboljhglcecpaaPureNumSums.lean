/- For every two numbers of 64 bits the law NumSums answers true; no condition. -/
import Derived.Test.YtjboljhglcecpaaXNumSumsx2
import Derived.Test.YtjboljhglcecpaaNum
namespace Go.Proofs.Ytjboljhglcecpaa.Pure
open Go.RowKit Go.Proofs.Ytjboljhglcecpaa.XNumSums Go.Proofs.YtjboljhglcecpaaW.PrintWords Go.Proofs.YtjboljhglcecpaaW.PrintLast Go.Proofs.Ytjboljhglcecpaa.NumPlain

/-- There is no quotient. -/
def Bad (a b : Int) : Prop := b = 0 ∨ (b = -1 ∧ a = -9223372036854775808)

theorem right_eq (a b : Int) : (Bad a b → num_right.f a b = some false) ∧ (¬ Bad a b → num_right.f a b = some true) := by
  unfold Bad num_right.f
  by_cases h0 : b = 0
  · simp [h0]
  · by_cases h1 : b = -1
    · by_cases h2 : a = -9223372036854775808
      · simp [h1, h2]
      · simp [h1, h2]
    · simp [h0, h1]

theorem quo_bad {a b : Int} (h : Bad a b) : num_Quo.f a b = some (0, false) := by
  unfold num_Quo.f; rw [(right_eq a b).1 h]; simp

theorem quo_ok {a b : Int} (h : ¬ Bad a b) : num_Quo.f a b = some (wrap64 (a.tdiv b), true) := by
  have hb : ¬ b = 0 := fun e => h (Or.inl e)
  unfold num_Quo.f; rw [(right_eq a b).2 h]; simp [hb]

theorem rem_bad {a b : Int} (h : Bad a b) : num_Rem.f a b = some (0, false) := by
  unfold num_Rem.f; rw [(right_eq a b).1 h]; simp

theorem rem_ok {a b : Int} (h : ¬ Bad a b) : num_Rem.f a b = some (a.tmod b, true) := by
  have hb : ¬ b = 0 := fun e => h (Or.inl e)
  unfold num_Rem.f; rw [(right_eq a b).2 h]; simp [hb]

theorem floor_bad {a b : Int} (h : Bad a b) : num_Floor.f a b = some (0, false) := by
  unfold num_Floor.f; rw [(right_eq a b).1 h]; simp

theorem floor_ok {a b : Int} (h : ¬ Bad a b) : num_Floor.f a b = some (if a.tmod b = 0 then wrap64 (a.tdiv b) else if (decide (a < 0) != decide (b < 0)) = true then wrap64 (wrap64 (a.tdiv b) - 1) else wrap64 (a.tdiv b), true) := by
  have hb : ¬ b = 0 := fun e => h (Or.inl e)
  unfold num_Floor.f; rw [(right_eq a b).2 h]; simp only [Option.bind_some, if_true, if_neg hb]
  split
  · rfl
  · split <;> rfl

theorem ceil_bad {a b : Int} (h : Bad a b) : num_Ceil.f a b = some (0, false) := by
  unfold num_Ceil.f; rw [(right_eq a b).1 h]; simp

theorem ceil_ok {a b : Int} (h : ¬ Bad a b) : num_Ceil.f a b = some (if a.tmod b = 0 then wrap64 (a.tdiv b) else if (decide (a < 0) == decide (b < 0)) = true then wrap64 (wrap64 (a.tdiv b) + 1) else wrap64 (a.tdiv b), true) := by
  have hb : ¬ b = 0 := fun e => h (Or.inl e)
  unfold num_Ceil.f; rw [(right_eq a b).2 h]; simp only [Option.bind_some, if_true, if_neg hb]
  split
  · rfl
  · split <;> rfl

theorem wakes_true : jigsawlaw01_wakes.f = some true := by decide +kernel

theorem mul_nought {a b : Int} (k : Nat) (h : a = 0 ∨ b = 0) : num_Mul.f (k + 2) a b = some (0, true) := by
  unfold num_Mul.f
  by_cases h0 : a = 0
  · rw [if_pos h0]; simp only [num_Mul.j0, if_true]
  · rw [if_neg h0, beq_iff_eq.mpr (by omega : b = 0)]; simp only [num_Mul.j0, if_true]

theorem mul_bad {a b : Int} (k : Nat) (ha : a ≠ 0) (hb : b ≠ 0) (h : a = -1 ∧ b = -9223372036854775808 ∨ b = -1 ∧ a = -9223372036854775808) : num_Mul.f (k + 2) a b = some (0, false) := by
  unfold num_Mul.f
  rw [if_neg ha, beq_eq_false_iff_ne.mpr hb]
  rcases h with ⟨h, h'⟩ | ⟨h, h'⟩
  · subst h h'; simp [num_Mul.j0, num_Mul.j1]
  · subst h h'; simp [num_Mul.j0, num_Mul.j1]

theorem mul_ok {a b : Int} (k : Nat) (ha : a ≠ 0) (hb : b ≠ 0) (h : ¬ (a = -1 ∧ b = -9223372036854775808 ∨ b = -1 ∧ a = -9223372036854775808)) :
    num_Mul.f (k + 2) a b = if (wrap64 (Int.tdiv (wrap64 (a * b)) b)) = a then some (wrap64 (a * b), true) else some (0, false) := by
  have e : num_Mul.j1 (k + 1) a b false = if (wrap64 (Int.tdiv (wrap64 (a * b)) b)) = a then some (wrap64 (a * b), true) else some (0, false) := by
    simp only [num_Mul.j1, Bool.false_eq_true, if_false, if_neg hb]
  rw [← e]
  unfold num_Mul.f
  rw [if_neg ha, beq_eq_false_iff_ne.mpr hb]
  simp only [num_Mul.j0, Bool.false_eq_true, if_false]
  by_cases h1 : a = -1
  · have h2 : b ≠ -9223372036854775808 := fun e => h (Or.inl ⟨h1, e⟩)
    rw [if_pos h1, if_neg h2]
    by_cases h3 : b = -1
    · rw [if_pos h3, beq_eq_false_iff_ne.mpr (by omega : a ≠ -9223372036854775808)]
    · rw [if_neg h3]
  · rw [if_neg h1]
    by_cases h3 : b = -1
    · rw [if_pos h3, beq_eq_false_iff_ne.mpr (fun e => h (Or.inr ⟨h3, e⟩))]
    · rw [if_neg h3]

instance (a : Int) : Decidable (In a) := by unfold In; infer_instance

theorem add_eq {a b : Int} (ha : In a) (hb : In b) : jigsawref01_Add.f a b = num_Add.f a b := by
  unfold In at ha hb
  unfold num_Add.f jigsawref01_Add.f
  by_cases x : b > 0
  · rw [if_pos x, wrap_in (a := 9223372036854775807 - b) (by unfold In; omega), if_neg (by omega : ¬ b < 0), decide_eq_false (by omega : ¬ b < 0)]
    by_cases y : a > 9223372036854775807 - b
    · rw [if_pos y, decide_eq_true (by unfold wrap64; omega : wrap64 (a + b) < a)]; rfl
    · rw [if_neg y, decide_eq_false (by unfold wrap64; omega : ¬ wrap64 (a + b) < a)]; rfl
  · rw [if_neg x]
    by_cases z : b < 0
    · rw [if_pos z, wrap_in (a := -9223372036854775808 - b) (by unfold In; omega), decide_eq_true z]
      by_cases y : a < -9223372036854775808 - b
      · rw [if_pos y, decide_eq_false (by unfold wrap64; omega : ¬ wrap64 (a + b) < a)]; rfl
      · rw [if_neg y, decide_eq_true (by unfold wrap64; omega : wrap64 (a + b) < a)]; rfl
    · rw [if_neg z, decide_eq_false z, decide_eq_false (by unfold wrap64; omega : ¬ wrap64 (a + b) < a)]; rfl

theorem sub_eq {a b : Int} (ha : In a) (hb : In b) : jigsawref01_Sub.f a b = num_Sub.f a b := by
  unfold In at ha hb
  unfold num_Sub.f jigsawref01_Sub.f
  by_cases x : b > 0
  · rw [if_pos x, wrap_in (a := -9223372036854775808 + b) (by unfold In; omega), if_neg (by omega : ¬ b < 0), decide_eq_false (by omega : ¬ b < 0)]
    by_cases y : a < -9223372036854775808 + b
    · rw [if_pos y, decide_eq_true (by unfold wrap64; omega : wrap64 (a - b) > a)]; rfl
    · rw [if_neg y, decide_eq_false (by unfold wrap64; omega : ¬ wrap64 (a - b) > a)]; rfl
  · rw [if_neg x]
    by_cases z : b < 0
    · rw [if_pos z, wrap_in (a := 9223372036854775807 + b) (by unfold In; omega), decide_eq_true z]
      by_cases y : a > 9223372036854775807 + b
      · rw [if_pos y, decide_eq_false (by unfold wrap64; omega : ¬ wrap64 (a - b) > a)]; rfl
      · rw [if_neg y, decide_eq_true (by unfold wrap64; omega : wrap64 (a - b) > a)]; rfl
    · rw [if_neg z, decide_eq_false z, decide_eq_false (by unfold wrap64; omega : ¬ wrap64 (a - b) > a)]; rfl

theorem size_eq {a : Int} (h : In a) : jigsawref01_size.f a = some (if a < 0 then -a else a) := by
  unfold jigsawref01_size.f
  by_cases ha : a < 0
  · rw [if_pos ha, if_pos ha, size_neg h ha]
  · rw [if_neg ha, if_neg ha, size_pos h ha]

/-- 'x > most / y' says that the product is greater than most. -/
theorem great_iff {x y : Int} (m : Int) (hy : 0 < y) (hm : 0 ≤ m) : x > m.tdiv y ↔ x * y > m := by
  rw [Int.tdiv_eq_ediv_of_nonneg hm]
  exact ⟨fun h => (Int.ediv_lt_iff_lt_mul hy).mp h, fun h => (Int.ediv_lt_iff_lt_mul hy).mpr h⟩

theorem rmul_eq {a b : Int} (ha : In a) (hb : In b) : jigsawref01_Mul.f a b = some (if In (a * b) then (a * b, true) else (0, false)) := by
  have hprod : (if a < 0 then -a else a) * (if b < 0 then -b else b) = if (decide (a < 0) != decide (b < 0)) = true then -(a * b) else a * b := by
    by_cases x : a < 0 <;> by_cases y : b < 0 <;> simp [x, y, Int.neg_mul, Int.mul_neg]
  have hx0 : 0 ≤ (if a < 0 then -a else a) := by split <;> omega
  have hy0 : 0 ≤ (if b < 0 then -b else b) := by split <;> omega
  have hpos : 0 ≤ (if a < 0 then -a else a) * (if b < 0 then -b else b) := Int.mul_nonneg hx0 hy0
  have hyb : (if b < 0 then -b else b) = 0 → b = 0 := by split <;> omega
  have hdiv : ∀ m y : Int, 0 ≤ m → m ≤ 9223372036854775808 → 0 < y → IntKind.u64.wrap (m.tdiv y) = m.tdiv y := by
    intro m y h0 h1 h2
    have h3 := q0 h0 (b := y) (by omega)
    have h4 : m.tdiv y ≤ m := by rw [Int.tdiv_eq_ediv_of_nonneg h0]; exact Int.ediv_le_self y h0
    exact u64_in h3 (by omega)
  unfold jigsawref01_Mul.f
  rw [size_eq ha, size_eq hb]
  simp only [Option.bind_some]
  generalize (if a < 0 then -a else a) = x at *
  generalize (if b < 0 then -b else b) = y at *
  rcases sgn a b with ⟨s, hs⟩ | ⟨s, hs⟩
  · rw [if_pos s]
    rw [if_pos s] at hprod
    by_cases hy : y > 0
    · rw [if_pos hy, if_neg (by omega), hdiv _ _ (by omega) (by omega) hy]
      by_cases hg : x > (9223372036854775808 : Int).tdiv y
      · have := (great_iff _ hy (by omega)).mp hg
        rw [if_pos hg, if_neg (by unfold In; omega)]
      · have : ¬ x * y > 9223372036854775808 := fun h => hg ((great_iff _ hy (by omega)).mpr h)
        have hin : In (a * b) := by unfold In; omega
        rw [if_neg hg, if_pos hin, wrap_in hin]
    · have hb0 := hyb (by omega)
      rw [if_neg hy, hb0]; simp [In, wrap64]
  · rw [if_neg s]
    rw [if_neg s] at hprod
    by_cases hy : y > 0
    · rw [if_pos hy, if_neg (by omega), hdiv _ _ (by omega) (by omega) hy]
      by_cases hg : x > (9223372036854775807 : Int).tdiv y
      · have := (great_iff _ hy (by omega)).mp hg
        rw [if_pos hg, if_neg (by unfold In; omega)]
      · have : ¬ x * y > 9223372036854775807 := fun h => hg ((great_iff _ hy (by omega)).mpr h)
        have hin : In (a * b) := by unfold In; omega
        rw [if_neg hg, if_pos hin, wrap_in hin]
    · have hb0 := hyb (by omega)
      rw [if_neg hy, hb0]; simp [In, wrap64]

theorem mul_eq {a b : Int} (k : Nat) (ha : In a) (hb : In b) : num_Mul.f (k + 2) a b = some (if In (a * b) then (a * b, true) else (0, false)) := by
  by_cases hn : a = 0 ∨ b = 0
  · rw [mul_nought k hn]
    have : a * b = 0 := by rcases hn with h | h <;> simp [h]
    rw [this]; simp [In]
  · by_cases hbd : a = -1 ∧ b = -9223372036854775808 ∨ b = -1 ∧ a = -9223372036854775808
    · rw [mul_bad k (by omega) (by omega) hbd]
      have : a * b = 9223372036854775808 := by rcases hbd with ⟨h, h'⟩ | ⟨h, h'⟩ <;> rw [h, h'] <;> rfl
      rw [this]; simp [In]
    · rw [mul_ok k (by omega) (by omega) hbd]
      have hb0 : b ≠ 0 := by omega
      by_cases hin : In (a * b)
      · rw [if_pos hin, wrap_in hin, Int.mul_tdiv_cancel a hb0, wrap_in ha, if_pos rfl]
      · rw [if_neg hin, if_neg]
        intro h
        apply hin
        have hnb : ¬ (b = -1 ∧ wrap64 (a * b) = -9223372036854775808) := by
          rintro ⟨h1, h2⟩
          rw [h1, Int.mul_neg, Int.mul_one] at h2 hin
          unfold In at ha hin
          unfold wrap64 at h2
          omega
        have hq := td_in (wrap_always (a * b)) hb0 hnb
        rw [wrap_in hq] at h
        have hw := whole (wrap64 (a * b)) b
        rw [h, Int.mul_comm b a] at hw
        have s2 : 0 < b → (wrap64 (a * b)).tmod b < b ∧ -b < (wrap64 (a * b)).tmod b := fun h => r2 _ h
        have s4 : b < 0 → (wrap64 (a * b)).tmod b < -b ∧ b < (wrap64 (a * b)).tmod b := fun h => r4 _ h
        have hwr : ∃ z, wrap64 (a * b) = a * b + 18446744073709551616 * z := by
          unfold wrap64
          exact ⟨-((a * b + 9223372036854775808) / 18446744073709551616), by omega⟩
        obtain ⟨z, hz⟩ := hwr
        have hal := wrap_always (a * b)
        unfold In at hb hal ⊢
        generalize (wrap64 (a * b)).tmod b = r at *
        generalize wrap64 (a * b) = c at *
        generalize a * b = p at *
        clear h hq hin hnb hn hbd ha
        by_cases t : 0 < b
        · have := s2 t; clear s2 s4; omega
        · have := s4 (by omega); clear s2 s4; omega

theorem NumSums : jigsawlaw01_NumSums.Pure := by
  intro a b wa wb
  have ha := in_of_wf wa
  have hb := in_of_wf wb
  refine ⟨0 + 2, ?_⟩
  have hA : ∃ p, num_Add.f a b = some p := by unfold num_Add.f; split <;> exact ⟨_, rfl⟩
  have hS : ∃ p, num_Sub.f a b = some p := by unfold num_Sub.f; split <;> exact ⟨_, rfl⟩
  obtain ⟨p, hp⟩ := hA
  obtain ⟨q, hq⟩ := hS
  unfold jigsawlaw01_NumSums.f
  rw [add_eq ha hb, sub_eq ha hb, mul_eq 0 ha hb, rmul_eq ha hb, hp, hq, wakes_true]
  simp only [Option.bind_some, if_true, beq_self_eq_true]

end Go.Proofs.Ytjboljhglcecpaa.Pure
