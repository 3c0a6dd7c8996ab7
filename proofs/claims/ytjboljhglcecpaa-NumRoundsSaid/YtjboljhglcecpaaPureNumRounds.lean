/- For every two numbers of 64 bits the law NumRounds answers true; no condition. -/
import Derived.Test.YtjboljhglcecpaaXNumRoundsx1
import Derived.Test.YtjboljhglcecpaaNum
namespace Go.Proofs.Ytjboljhglcecpaa.Pure
open Go.RowKit Go.Proofs.Ytjboljhglcecpaa.XNumRounds Go.Proofs.YtjboljhglcecpaaW.PrintWords Go.Proofs.YtjboljhglcecpaaW.PrintLast Go.Proofs.Ytjboljhglcecpaa.NumPlain

/-- There is no quotient. -/
def Bad (a b : Int) : Prop := b = 0 ∨ (b = -1 ∧ a = -9223372036854775808)

theorem right_eq (a b : Int) : (Bad a b → num_right.f a b = some false) ∧ (¬ Bad a b → num_right.f a b = some true) := by
  unfold Bad num_right.f
  by_cases h0 : b = 0
  · simp [h0]
  · by_cases h1 : b = -1
    · by_cases h2 : a = -9223372036854775808
      · simp [h1, h2]
      · simp [h1, h2]
    · simp [h0, h1]

theorem quo_bad {a b : Int} (h : Bad a b) : num_Quo.f a b = some (0, false) := by
  unfold num_Quo.f; rw [(right_eq a b).1 h]; simp

theorem quo_ok {a b : Int} (h : ¬ Bad a b) : num_Quo.f a b = some (wrap64 (a.tdiv b), true) := by
  have hb : ¬ b = 0 := fun e => h (Or.inl e)
  unfold num_Quo.f; rw [(right_eq a b).2 h]; simp [hb]

theorem rem_bad {a b : Int} (h : Bad a b) : num_Rem.f a b = some (0, false) := by
  unfold num_Rem.f; rw [(right_eq a b).1 h]; simp

theorem rem_ok {a b : Int} (h : ¬ Bad a b) : num_Rem.f a b = some (a.tmod b, true) := by
  have hb : ¬ b = 0 := fun e => h (Or.inl e)
  unfold num_Rem.f; rw [(right_eq a b).2 h]; simp [hb]

theorem floor_bad {a b : Int} (h : Bad a b) : num_Floor.f a b = some (0, false) := by
  unfold num_Floor.f; rw [(right_eq a b).1 h]; simp

theorem floor_ok {a b : Int} (h : ¬ Bad a b) : num_Floor.f a b = some (if a.tmod b = 0 then wrap64 (a.tdiv b) else if (decide (a < 0) != decide (b < 0)) = true then wrap64 (wrap64 (a.tdiv b) - 1) else wrap64 (a.tdiv b), true) := by
  have hb : ¬ b = 0 := fun e => h (Or.inl e)
  unfold num_Floor.f; rw [(right_eq a b).2 h]; simp only [Option.bind_some, if_true, if_neg hb]
  split
  · rfl
  · split <;> rfl

theorem ceil_bad {a b : Int} (h : Bad a b) : num_Ceil.f a b = some (0, false) := by
  unfold num_Ceil.f; rw [(right_eq a b).1 h]; simp

theorem ceil_ok {a b : Int} (h : ¬ Bad a b) : num_Ceil.f a b = some (if a.tmod b = 0 then wrap64 (a.tdiv b) else if (decide (a < 0) == decide (b < 0)) = true then wrap64 (wrap64 (a.tdiv b) + 1) else wrap64 (a.tdiv b), true) := by
  have hb : ¬ b = 0 := fun e => h (Or.inl e)
  unfold num_Ceil.f; rw [(right_eq a b).2 h]; simp only [Option.bind_some, if_true, if_neg hb]
  split
  · rfl
  · split <;> rfl

theorem wakes_true : jigsawlaw01_wakes.f = some true := by decide +kernel

theorem NumRounds : jigsawlaw01_NumRounds.Pure := by
  intro a b wa wb
  have ha := in_of_wf wa
  have hb := in_of_wf wb
  refine ⟨0 + 1, ?_⟩
  unfold jigsawlaw01_NumRounds.f
  by_cases hbad : Bad a b
  · rw [quo_bad hbad, rem_bad hbad, floor_bad hbad, ceil_bad hbad]
    simp only [Option.bind_some, bne_self_eq_false, Bool.false_eq_true, if_false, jigsawlaw01_NumRounds.j0, wakes_true, if_true]
    rcases hbad with h | ⟨h, h'⟩
    · rw [if_pos h]
    · rw [if_neg (by omega), if_pos h, h']; rfl
  · rw [quo_ok hbad, rem_ok hbad, floor_ok hbad, ceil_ok hbad]
    have hb0 : b ≠ 0 := fun e => hbad (Or.inl e)
    have hBad : ¬ (b = -1 ∧ a = -9223372036854775808) := fun e => hbad (Or.inr e)
    have hqn : In (a.tdiv b) := td_in ha hb0 hBad
    have hr1 : b = 1 ∨ b = -1 → a.tmod b = 0 := by
      rintro (h | h)
      · rw [h]; exact Int.tmod_one a
      · rw [h, Int.tmod_neg]; exact Int.tmod_one a
    have hqb : b ≠ 1 → b ≠ -1 → -4611686018427387904 ≤ a.tdiv b ∧ a.tdiv b ≤ 4611686018427387904 := by
      intro e1 e2
      unfold In at ha
      by_cases s : 0 ≤ a
      · by_cases t : 0 < b
        · have h1 := q0 s (b := b) (by omega); have h2 := m0 (b := b) (by omega) s; omega
        · have h1 := q1 s (b := b) (by omega); have h2 := m2 (b := b) (by omega) s; omega
      · by_cases t : 0 < b
        · have h1 := q2 (a := a) (b := b) (by omega) (by omega); have h2 := m1 (a := a) (b := b) (by omega) (by omega); omega
        · have h1 := q3 (a := a) (b := b) (by omega) (by omega); have h2 := m3 (a := a) (b := b) (by omega) (by omega); omega
    simp only [Option.bind_some, bne_self_eq_false, Bool.false_eq_true, if_false, jigsawlaw01_NumRounds.j0, wakes_true, if_true]
    rw [wrap_in hqn]
    generalize a.tdiv b = q at *
    generalize a.tmod b = r at *
    by_cases hr0 : r = 0
    · simp [hr0]
    · have e1 : (r == 0) = false := beq_eq_false_iff_ne.mpr hr0
      have hq := hqb (fun e => hr0 (hr1 (Or.inl e))) (fun e => hr0 (hr1 (Or.inr e)))
      have w1 : wrap64 (q - 1) = q - 1 := wrap_in (by unfold In; omega)
      have w2 : wrap64 (q + 1) = q + 1 := wrap_in (by unfold In; omega)
      rcases sgn a b with ⟨s, -⟩ | ⟨s, -⟩
      · have s' : ¬ ((decide (a < 0) == decide (b < 0)) = true) := by
          revert s; cases decide (a < 0) <;> cases decide (b < 0) <;> simp
        simp only [if_neg hr0, if_pos s, if_neg s', w1, e1]
        rw [if_neg (by omega : ¬ q = q - 1), beq_eq_false_iff_ne.mpr (by omega : q - 1 ≠ q), show q - 1 + 1 = q by omega, wrap_in hqn]
        simp
      · have s' : (decide (a < 0) == decide (b < 0)) = true := by
          revert s; cases decide (a < 0) <;> cases decide (b < 0) <;> simp
        simp only [if_neg hr0, if_neg s, if_pos s', w2, e1]
        rw [beq_eq_false_iff_ne.mpr (by omega : q ≠ q + 1)]
        simp

end Go.Proofs.Ytjboljhglcecpaa.Pure
