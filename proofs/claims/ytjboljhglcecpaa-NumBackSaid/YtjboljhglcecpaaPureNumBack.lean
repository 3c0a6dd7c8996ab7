/- For every two numbers of 64 bits the law NumBack answers true; no condition. -/
import Derived.Test.YtjboljhglcecpaaPNumBackx2
import Derived.Test.YtjboljhglcecpaaNum
namespace Go.Proofs.Ytjboljhglcecpaa.Pure
open Go.RowKit Go.Proofs.Ytjboljhglcecpaa.PNumBack Go.Proofs.YtjboljhglcecpaaW.PrintWords Go.Proofs.YtjboljhglcecpaaW.PrintLast Go.Proofs.Ytjboljhglcecpaa.NumPlain

/-- There is no quotient. -/
def Bad (a b : Int) : Prop := b = 0 ∨ (b = -1 ∧ a = -9223372036854775808)

theorem right_eq (a b : Int) : (Bad a b → num_right.f a b = some false) ∧ (¬ Bad a b → num_right.f a b = some true) := by
  unfold Bad num_right.f
  by_cases h0 : b = 0
  · simp [h0]
  · by_cases h1 : b = -1
    · by_cases h2 : a = -9223372036854775808
      · simp [h1, h2]
      · simp [h1, h2]
    · simp [h0, h1]

theorem quo_bad {a b : Int} (h : Bad a b) : num_Quo.f a b = some (0, false) := by
  unfold num_Quo.f; rw [(right_eq a b).1 h]; simp

theorem quo_ok {a b : Int} (h : ¬ Bad a b) : num_Quo.f a b = some (wrap64 (a.tdiv b), true) := by
  have hb : ¬ b = 0 := fun e => h (Or.inl e)
  unfold num_Quo.f; rw [(right_eq a b).2 h]; simp [hb]

theorem rem_bad {a b : Int} (h : Bad a b) : num_Rem.f a b = some (0, false) := by
  unfold num_Rem.f; rw [(right_eq a b).1 h]; simp

theorem rem_ok {a b : Int} (h : ¬ Bad a b) : num_Rem.f a b = some (a.tmod b, true) := by
  have hb : ¬ b = 0 := fun e => h (Or.inl e)
  unfold num_Rem.f; rw [(right_eq a b).2 h]; simp [hb]

theorem floor_bad {a b : Int} (h : Bad a b) : num_Floor.f a b = some (0, false) := by
  unfold num_Floor.f; rw [(right_eq a b).1 h]; simp

theorem floor_ok {a b : Int} (h : ¬ Bad a b) : num_Floor.f a b = some (if a.tmod b = 0 then wrap64 (a.tdiv b) else if (decide (a < 0) != decide (b < 0)) = true then wrap64 (wrap64 (a.tdiv b) - 1) else wrap64 (a.tdiv b), true) := by
  have hb : ¬ b = 0 := fun e => h (Or.inl e)
  unfold num_Floor.f; rw [(right_eq a b).2 h]; simp only [Option.bind_some, if_true, if_neg hb]
  split
  · rfl
  · split <;> rfl

theorem ceil_bad {a b : Int} (h : Bad a b) : num_Ceil.f a b = some (0, false) := by
  unfold num_Ceil.f; rw [(right_eq a b).1 h]; simp

theorem ceil_ok {a b : Int} (h : ¬ Bad a b) : num_Ceil.f a b = some (if a.tmod b = 0 then wrap64 (a.tdiv b) else if (decide (a < 0) == decide (b < 0)) = true then wrap64 (wrap64 (a.tdiv b) + 1) else wrap64 (a.tdiv b), true) := by
  have hb : ¬ b = 0 := fun e => h (Or.inl e)
  unfold num_Ceil.f; rw [(right_eq a b).2 h]; simp only [Option.bind_some, if_true, if_neg hb]
  split
  · rfl
  · split <;> rfl

theorem wakes_true : jigsawlaw01_wakes.f = some true := by decide +kernel

theorem mul_nought {a b : Int} (k : Nat) (h : a = 0 ∨ b = 0) : num_Mul.f (k + 2) a b = some (0, true) := by
  unfold num_Mul.f
  by_cases h0 : a = 0
  · rw [if_pos h0]; simp only [num_Mul.j0, if_true]
  · rw [if_neg h0, beq_iff_eq.mpr (by omega : b = 0)]; simp only [num_Mul.j0, if_true]

theorem mul_bad {a b : Int} (k : Nat) (ha : a ≠ 0) (hb : b ≠ 0) (h : a = -1 ∧ b = -9223372036854775808 ∨ b = -1 ∧ a = -9223372036854775808) : num_Mul.f (k + 2) a b = some (0, false) := by
  unfold num_Mul.f
  rw [if_neg ha, beq_eq_false_iff_ne.mpr hb]
  rcases h with ⟨h, h'⟩ | ⟨h, h'⟩
  · subst h h'; simp [num_Mul.j0, num_Mul.j1]
  · subst h h'; simp [num_Mul.j0, num_Mul.j1]

theorem mul_ok {a b : Int} (k : Nat) (ha : a ≠ 0) (hb : b ≠ 0) (h : ¬ (a = -1 ∧ b = -9223372036854775808 ∨ b = -1 ∧ a = -9223372036854775808)) :
    num_Mul.f (k + 2) a b = if (wrap64 (Int.tdiv (wrap64 (a * b)) b)) = a then some (wrap64 (a * b), true) else some (0, false) := by
  have e : num_Mul.j1 (k + 1) a b false = if (wrap64 (Int.tdiv (wrap64 (a * b)) b)) = a then some (wrap64 (a * b), true) else some (0, false) := by
    simp only [num_Mul.j1, Bool.false_eq_true, if_false, if_neg hb]
  rw [← e]
  unfold num_Mul.f
  rw [if_neg ha, beq_eq_false_iff_ne.mpr hb]
  simp only [num_Mul.j0, Bool.false_eq_true, if_false]
  by_cases h1 : a = -1
  · have h2 : b ≠ -9223372036854775808 := fun e => h (Or.inl ⟨h1, e⟩)
    rw [if_pos h1, if_neg h2]
    by_cases h3 : b = -1
    · rw [if_pos h3, beq_eq_false_iff_ne.mpr (by omega : a ≠ -9223372036854775808)]
    · rw [if_neg h3]
  · rw [if_neg h1]
    by_cases h3 : b = -1
    · rw [if_pos h3, beq_eq_false_iff_ne.mpr (fun e => h (Or.inr ⟨h3, e⟩))]
    · rw [if_neg h3]

theorem last_step {a b : Int} (k : Nat) (ha : In a) (hb : In b) : jigsawlaw01_NumBack.j2 (k + 3) a b = some true := by
  simp only [jigsawlaw01_NumBack.j2]
  by_cases hbad : Bad a b
  · rw [quo_bad hbad, rem_bad hbad]
    simp [jigsawlaw01_NumBack.j3, jigsawlaw01_NumBack.j4, wakes_true]
  · rw [quo_ok hbad, rem_ok hbad]
    have hb0 : b ≠ 0 := fun e => hbad (Or.inl e)
    have hqn : In (a.tdiv b) := td_in ha hb0 (fun e => hbad (Or.inr e))
    obtain ⟨hpn, hrn, hiff⟩ := td_p b ha
    have hw := whole a b
    have s0 : 0 ≤ a → 0 ≤ a.tmod b := fun h => r0 b h
    have s1 : a ≤ 0 → a.tmod b ≤ 0 := fun h => r1 b h
    have s2 : 0 < b → a.tmod b < b ∧ -b < a.tmod b := fun h => r2 a h
    have s4 : b < 0 → a.tmod b < -b ∧ b < a.tmod b := fun h => r4 a h
    simp only [Option.bind_some]
    rw [wrap_in hqn, hpn, hw, wrap_in ha]
    generalize b * a.tdiv b = p at *
    generalize a.tdiv b = q at *
    generalize a.tmod b = r at *
    simp only [bne_self_eq_false, Bool.false_eq_true, if_false, if_true, jigsawlaw01_NumBack.j3, jigsawlaw01_NumBack.j4, wakes_true, Option.bind_some]
    by_cases hr0 : r = 0
    · simp [hr0]
    · have e1 : (r == 0) = false := beq_eq_false_iff_ne.mpr hr0
      unfold In at ha hb
      have hsg : (decide (r < 0) == decide (a < 0)) = true := by
        by_cases x : 0 ≤ a
        · have := s0 x
          rw [decide_eq_false (by omega : ¬ r < 0), decide_eq_false (by omega : ¬ a < 0)]; rfl
        · have := s1 (by omega)
          rw [decide_eq_true (by omega : r < 0), decide_eq_true (by omega : a < 0)]; rfl
      rw [e1, hsg]
      simp only [Bool.false_eq_true, if_false, if_true]
      by_cases hp : r > 0
      · rw [if_pos hp]
        have e2 : wrap64 (-r) = -r := wrap_in (by unfold In; by_cases t : 0 < b <;> omega)
        rw [e2]
        by_cases t : b < 0
        · have := s4 t
          rw [if_pos t, if_pos (by omega)]
        · have h0 : b > 0 := by omega
          have := s2 h0
          rw [if_neg t, if_pos h0, wrap_in (a := -b) (by unfold In; omega), decide_eq_true (by omega)]
      · rw [if_neg hp]
        by_cases t : b < 0
        · have := s4 t
          rw [if_pos t, if_pos (by omega)]
        · have h0 : b > 0 := by omega
          have := s2 h0
          rw [if_neg t, if_pos h0, wrap_in (a := -b) (by unfold In; omega), decide_eq_true (by omega)]

/-- A product that can be divided again is the whole one. -/
theorem mul_whole {a b : Int} (hb : In b) (hb0 : b ≠ 0) (hnb : ¬ Bad (wrap64 (a * b)) b) (h : wrap64 ((wrap64 (a * b)).tdiv b) = a) :
    (wrap64 (a * b)).tdiv b = a ∧ (wrap64 (a * b)).tmod b = 0 := by
  have hc := wrap_always (a * b)
  have hqn := td_in hc hb0 (fun e => hnb (Or.inr e))
  rw [wrap_in hqn] at h
  refine ⟨h, ?_⟩
  have hw := whole (wrap64 (a * b)) b
  rw [h, Int.mul_comm b a] at hw
  have s2 : 0 < b → (wrap64 (a * b)).tmod b < b ∧ -b < (wrap64 (a * b)).tmod b := fun h => r2 _ h
  have s4 : b < 0 → (wrap64 (a * b)).tmod b < -b ∧ b < (wrap64 (a * b)).tmod b := fun h => r4 _ h
  have hwr : ∃ z, wrap64 (a * b) = a * b + 18446744073709551616 * z := by
    unfold wrap64
    exact ⟨-((a * b + 9223372036854775808) / 18446744073709551616), by omega⟩
  obtain ⟨z, hz⟩ := hwr
  unfold In at hb
  generalize (wrap64 (a * b)).tmod b = r at *
  generalize wrap64 (a * b) = c at *
  generalize a * b = p at *
  by_cases t : 0 < b
  · have := s2 t; clear s2 s4; omega
  · have := s4 (by omega); clear s2 s4; omega

theorem middle {a b : Int} (k : Nat) (ha : In a) (hb : In b) : jigsawlaw01_NumBack.j0 (k + 5) a b = some true := by
  have hl := last_step k ha hb
  simp only [jigsawlaw01_NumBack.j0]
  by_cases hn : a = 0 ∨ b = 0
  · rw [mul_nought (k + 2) hn]
    simp only [Option.bind_some, if_true, jigsawlaw01_NumBack.j1]
    by_cases hb0 : b = 0
    · simp [hb0, ← hl]
    · have ha0 : a = 0 := by omega
      have hnb : ¬ Bad 0 b := by unfold Bad; omega
      rw [(bne_iff_ne).mpr hb0, quo_ok hnb, floor_ok hnb, rem_ok hnb]
      subst ha0
      simp [hl, wrap64]
  · by_cases hbd : a = -1 ∧ b = -9223372036854775808 ∨ b = -1 ∧ a = -9223372036854775808
    · rw [mul_bad (k + 2) (by omega) (by omega) hbd]
      simp [jigsawlaw01_NumBack.j1, hl]
    · rw [mul_ok (k + 2) (by omega) (by omega) hbd]
      have hb0 : b ≠ 0 := by omega
      by_cases h : wrap64 ((wrap64 (a * b)).tdiv b) = a
      · rw [if_pos h]
        simp only [Option.bind_some, if_true, jigsawlaw01_NumBack.j1]
        rw [(bne_iff_ne).mpr hb0]
        simp only [if_true]
        by_cases hnb : Bad (wrap64 (a * b)) b
        · rw [quo_bad hnb, floor_bad hnb, rem_bad hnb]
          simp [hl]
        · rw [quo_ok hnb, floor_ok hnb, rem_ok hnb]
          obtain ⟨e1, e2⟩ := mul_whole hb hb0 hnb h
          rw [e1, e2]
          simp [hl, wrap_in ha]
      · rw [if_neg h]
        simp [jigsawlaw01_NumBack.j1, hl]

theorem add_sub {a b : Int} (ha : In a) (hb : In b) : num_Add.f a b = some (0, false) ∨ (num_Add.f a b = some (a + b, true) ∧ num_Sub.f (a + b) b = some (a, true)) := by
  unfold In at ha hb
  unfold num_Add.f num_Sub.f
  by_cases hr : In (a + b)
  · right
    rw [wrap_in hr, show a + b - b = a by omega, wrap_in (a := a) ha]
    constructor
    · rw [if_neg]
      by_cases x : b < 0
      · rw [decide_eq_true (by omega : a + b < a), decide_eq_true x]; decide
      · rw [decide_eq_false (by omega : ¬ a + b < a), decide_eq_false x]; decide
    · rw [if_neg]
      by_cases x : b < 0
      · rw [decide_eq_true (by omega : a > a + b), decide_eq_true x]; decide
      · rw [decide_eq_false (by omega : ¬ a > a + b), decide_eq_false x]; decide
  · left
    unfold In at hr
    rw [if_pos]
    by_cases x : b < 0
    · rw [decide_eq_false (by unfold wrap64; omega : ¬ wrap64 (a + b) < a), decide_eq_true x]; decide
    · rw [decide_eq_true (by unfold wrap64; omega : wrap64 (a + b) < a), decide_eq_false x]; decide

theorem NumBack : jigsawlaw01_NumBack.Pure := by
  intro a b wa wb
  have ha := in_of_wf wa
  have hb := in_of_wf wb
  refine ⟨0 + 5, ?_⟩
  have hm := middle 0 ha hb
  unfold jigsawlaw01_NumBack.f
  rcases add_sub ha hb with h | ⟨h, h'⟩
  · rw [h]; simp only [Option.bind_some, Bool.false_eq_true, if_false]; exact hm
  · rw [h]; simp only [Option.bind_some, if_true]
    rw [h']; simp only [Option.bind_some, if_true]; exact hm

end Go.Proofs.Ytjboljhglcecpaa.Pure
