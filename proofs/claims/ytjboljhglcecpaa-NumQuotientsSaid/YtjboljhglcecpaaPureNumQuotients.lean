/- For every two numbers of 64 bits the law NumQuotients answers true; no condition. -/
import Derived.Test.YtjboljhglcecpaaPNumQuotientsx2
import Derived.Test.YtjboljhglcecpaaNum
namespace Go.Proofs.Ytjboljhglcecpaa.Pure
open Go.RowKit Go.Proofs.Ytjboljhglcecpaa.PNumQuotients Go.Proofs.YtjboljhglcecpaaW.PrintWords Go.Proofs.YtjboljhglcecpaaW.PrintLast Go.Proofs.Ytjboljhglcecpaa.NumPlain

/-- There is no quotient. -/
def Bad (a b : Int) : Prop := b = 0 ∨ (b = -1 ∧ a = -9223372036854775808)

theorem right_eq (a b : Int) : (Bad a b → num_right.f a b = some false) ∧ (¬ Bad a b → num_right.f a b = some true) := by
  unfold Bad num_right.f
  by_cases h0 : b = 0
  · simp [h0]
  · by_cases h1 : b = -1
    · by_cases h2 : a = -9223372036854775808
      · simp [h1, h2]
      · simp [h1, h2]
    · simp [h0, h1]

theorem quo_bad {a b : Int} (h : Bad a b) : num_Quo.f a b = some (0, false) := by
  unfold num_Quo.f; rw [(right_eq a b).1 h]; simp

theorem quo_ok {a b : Int} (h : ¬ Bad a b) : num_Quo.f a b = some (wrap64 (a.tdiv b), true) := by
  have hb : ¬ b = 0 := fun e => h (Or.inl e)
  unfold num_Quo.f; rw [(right_eq a b).2 h]; simp [hb]

theorem rem_bad {a b : Int} (h : Bad a b) : num_Rem.f a b = some (0, false) := by
  unfold num_Rem.f; rw [(right_eq a b).1 h]; simp

theorem rem_ok {a b : Int} (h : ¬ Bad a b) : num_Rem.f a b = some (a.tmod b, true) := by
  have hb : ¬ b = 0 := fun e => h (Or.inl e)
  unfold num_Rem.f; rw [(right_eq a b).2 h]; simp [hb]

theorem floor_bad {a b : Int} (h : Bad a b) : num_Floor.f a b = some (0, false) := by
  unfold num_Floor.f; rw [(right_eq a b).1 h]; simp

theorem floor_ok {a b : Int} (h : ¬ Bad a b) : num_Floor.f a b = some (if a.tmod b = 0 then wrap64 (a.tdiv b) else if (decide (a < 0) != decide (b < 0)) = true then wrap64 (wrap64 (a.tdiv b) - 1) else wrap64 (a.tdiv b), true) := by
  have hb : ¬ b = 0 := fun e => h (Or.inl e)
  unfold num_Floor.f; rw [(right_eq a b).2 h]; simp only [Option.bind_some, if_true, if_neg hb]
  split
  · rfl
  · split <;> rfl

theorem ceil_bad {a b : Int} (h : Bad a b) : num_Ceil.f a b = some (0, false) := by
  unfold num_Ceil.f; rw [(right_eq a b).1 h]; simp

theorem ceil_ok {a b : Int} (h : ¬ Bad a b) : num_Ceil.f a b = some (if a.tmod b = 0 then wrap64 (a.tdiv b) else if (decide (a < 0) == decide (b < 0)) = true then wrap64 (wrap64 (a.tdiv b) + 1) else wrap64 (a.tdiv b), true) := by
  have hb : ¬ b = 0 := fun e => h (Or.inl e)
  unfold num_Ceil.f; rw [(right_eq a b).2 h]; simp only [Option.bind_some, if_true, if_neg hb]
  split
  · rfl
  · split <;> rfl

theorem wakes_true : jigsawlaw01_wakes.f = some true := by decide +kernel

theorem size_eq {a : Int} (h : In a) : jigsawref01_size.f a = some (if a < 0 then -a else a) := by
  unfold jigsawref01_size.f
  by_cases ha : a < 0
  · rw [if_pos ha, if_pos ha, size_neg h ha]
  · rw [if_neg ha, if_neg ha, size_pos h ha]

theorem rquo_bad {a b : Int} (k : Nat) (h : Bad a b) : jigsawref01_Quo.f (k + 1) a b = some (0, false) := by
  unfold jigsawref01_Quo.f
  rcases h with h | ⟨h, h'⟩
  · rw [if_pos h]; simp only [jigsawref01_Quo.j0, if_true]
  · subst h h'; rfl

theorem rquo_ok {a b : Int} (k : Nat) (h : ¬ Bad a b) (ha : In a) (hb : In b) : jigsawref01_Quo.f (k + 1) a b = some (a.tdiv b, true) := by
  have hj : jigsawref01_Quo.f (k + 1) a b = jigsawref01_Quo.j0 (k + 1) a b false := by
    unfold jigsawref01_Quo.f
    rw [if_neg (fun e => h (Or.inl e))]
    by_cases h1 : b = -1
    · rw [if_pos h1, beq_eq_false_iff_ne.mpr (fun e => h (Or.inr ⟨h1, e⟩))]
    · rw [if_neg h1]
  have hb0 : b ≠ 0 := fun e => h (Or.inl e)
  have hz : ¬ (if b < 0 then -b else b) = 0 := by split <;> omega
  have hab := td_abs a b
  have hqn : In (a.tdiv b) := td_in ha hb0 (fun e => h (Or.inr e))
  have hs1 : (a < 0 ∧ 0 ≤ b) ∨ (0 ≤ a ∧ b < 0) → a.tdiv b ≤ 0 := by
    rintro (⟨x, y⟩ | ⟨x, y⟩)
    · exact q2 (by omega) y
    · exact q1 x (by omega)
  have hs2 : (a < 0 ∧ b < 0) ∨ (0 ≤ a ∧ 0 ≤ b) → 0 ≤ a.tdiv b := by
    rintro (⟨x, y⟩ | ⟨x, y⟩)
    · exact q3 (by omega) (by omega)
    · exact q0 x y
  have hw : ∀ q : Int, q ≤ 0 → In q → wrap64 (-(wrap64 (IntKind.u64.wrap (-q)))) = q := by
    intro q h0 h1
    unfold In at h1
    rw [u64_in (by omega) (by omega)]
    unfold wrap64; omega
  have hw' : ∀ q : Int, 0 ≤ q → In q → wrap64 (IntKind.u64.wrap q) = q := by
    intro q h0 h1
    have h1' := h1
    unfold In at h1
    rw [u64_in (by omega) (by omega), wrap_in h1']
  rw [hj]
  simp only [jigsawref01_Quo.j0]
  rw [if_neg (by decide), size_eq ha, size_eq hb]
  simp only [Option.bind_some]
  rw [if_neg hz, hab]
  rcases sgn a b with ⟨s, hs⟩ | ⟨s, hs⟩
  · rw [if_pos s, if_pos s, hw _ (hs1 hs) hqn]
  · rw [if_neg s, if_neg s, hw' _ (hs2 hs) hqn]

theorem NumQuotients : jigsawlaw01_NumQuotients.Pure := by
  intro a b wa wb
  have ha := in_of_wf wa
  have hb := in_of_wf wb
  refine ⟨0 + 1, ?_⟩
  unfold jigsawlaw01_NumQuotients.f jigsawref01_Rem.f jigsawref01_Floor.f jigsawref01_Ceil.f
  rw [wakes_true]
  by_cases hbad : Bad a b
  · rw [quo_bad hbad, rem_bad hbad, floor_bad hbad, ceil_bad hbad, rquo_bad 0 hbad]
    simp
  · rw [quo_ok hbad, rem_ok hbad, floor_ok hbad, ceil_ok hbad, rquo_ok 0 hbad ha hb]
    have hb0 : b ≠ 0 := fun e => hbad (Or.inl e)
    have hqn : In (a.tdiv b) := td_in ha hb0 (fun e => hbad (Or.inr e))
    obtain ⟨hpn, hrn, hiff⟩ := td_p b ha
    simp only [Option.bind_some]
    rw [wrap_in hqn, hpn, hrn]
    generalize b * a.tdiv b = p at *
    generalize a.tdiv b = q at *
    generalize a.tmod b = r at *
    by_cases hr0 : r = 0
    · have hpa : p = a := hiff.2 hr0
      simp [hr0, hpa]
    · have hpa : ¬ p = a := fun e => hr0 (hiff.1 e)
      rcases sgn a b with ⟨s, -⟩ | ⟨s, -⟩
      · have s' : ¬ ((decide (a < 0) == decide (b < 0)) = true) := by
          revert s; cases decide (a < 0) <;> cases decide (b < 0) <;> simp
        simp only [if_neg hr0, if_neg hpa, if_pos s, if_neg s', if_true, beq_self_eq_true, Option.bind_some]
      · have s' : (decide (a < 0) == decide (b < 0)) = true := by
          revert s; cases decide (a < 0) <;> cases decide (b < 0) <;> simp
        simp only [if_neg hr0, if_neg hpa, if_neg s, if_pos s', if_true, beq_self_eq_true, Option.bind_some]

end Go.Proofs.Ytjboljhglcecpaa.Pure
