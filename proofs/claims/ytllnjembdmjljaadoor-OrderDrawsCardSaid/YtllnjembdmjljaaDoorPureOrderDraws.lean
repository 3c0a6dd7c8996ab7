/- The plain law of OrderDraws: what the walk computes answers true, for every input. -/
import Derived.Test.YtllnjembdmjljaaDoorXOrderDrawsx11
namespace Go.Proofs.YtllnjembdmjljaaDoor.Pure
open Go.RowKit Go.Proofs.YtllnjembdmjljaaDoor.XOrderDraws Go.Proofs.YtllnjembdmjljaaDoorW.PrintWords Go.Proofs.YtllnjembdmjljaaDoorW.PrintLast Go.Proofs.YtllnjembdmjljaaDoorW.PrintMore
set_option linter.unusedVariables false
theorem wakes_true {k : Nat} (hk : 200 ≤ k) : jigsawlaw25_wakes.f k = some true :=
  at_rounds (g := fun k => jigsawlaw25_wakes.f k) jigsawlaw25_wakes.mono hk (by decide +kernel)
theorem drawn_all {l : List Int} (h : l.length * 4 ≤ 140737488351232) : order_Drawn.f l = some l := by
  unfold order_Drawn.f slices_Clone_uint32_uint32.f
  by_cases h0 : l = []
  · subst h0
    rfl
  · simp
    omega
theorem plus_one {x : Int} (h0 : 0 ≤ x) (h1 : x ≤ 140737488351232) : wrap64 (x + 1) = x + 1 := by unfold wrap64; omega
theorem loop_true (a b : List Int) (ha : a.length * 4 ≤ 140737488351232) (hb : b.length ≤ 40) : ∀ (d k : Nat) (x y : Int), 0 ≤ x → x ≤ (a.length : Int) → 0 ≤ y → (b.length : Int) - y = (d : Int) → 2 * d + 300 ≤ k → jigsawlaw25_OrderDraws.l0 k a x b (b.length : Int) y = some true := by
  intro d
  induction d with
  | zero =>
    intro k x y hx0 hx1 hy0 hd hk
    obtain ⟨m, rfl⟩ : ∃ m, k = m + 1 := ⟨k - 1, by omega⟩
    simp only [jigsawlaw25_OrderDraws.l0]
    rw [if_neg (by omega), wakes_true (by omega)]
    rfl
  | succ d ih =>
    intro k x y hx0 hx1 hy0 hd hk
    obtain ⟨m, rfl⟩ : ∃ m, k = m + 1 + 1 := ⟨k - 2, by omega⟩
    have hy1 := plus_one (x := y) hy0 (by omega)
    simp only [jigsawlaw25_OrderDraws.l0]
    rw [if_pos (by omega), if_pos hy0, if_pos (by omega)]
    have step : jigsawlaw25_OrderDraws.l0 m a x b (b.length : Int) (wrap64 (y + 1)) = some true := by
      rw [hy1]
      exact ih m x (y + 1) hx0 hx1 (by omega) (by omega) (by omega)
    by_cases h1 : rd b y ≥ 1
    · rw [if_pos h1]
      simp only [jigsawlaw25_OrderDraws.j1]
      by_cases h2 : x < (a.length : Int)
      · have hx2 := plus_one (x := x) hx0 (by omega)
        rw [if_pos (decide_eq_true h2), if_pos hx0, if_pos h2, if_neg (by omega), hx2, hy1]
        exact ih m (x + 1) (y + 1) (by omega) (by omega) (by omega) (by omega) (by omega)
      · rw [if_neg (by simpa using h2)]
        exact step
    · rw [if_neg h1]
      simp only [jigsawlaw25_OrderDraws.j1]
      rw [if_neg (by decide)]
      exact step
theorem orderDraws (l0 l1 : List Int) (h0 : l0.length * 4 ≤ 140737488351232) (_ : ∀ x ∈ l0, (Lit.int .u32 x).wf = true) (_ : l1.length * 8 ≤ 140737488351232) (_ : ∀ x ∈ l1, (Lit.int .i64 x).wf = true) : ∃ k, jigsawlaw25_OrderDraws.f k l0 l1 = some true := by
  refine ⟨400, ?_⟩
  have hm : mn (l1.length : Int) 40 ≤ (l1.length : Int) ∧ 0 ≤ mn (l1.length : Int) 40 ∧ mn (l1.length : Int) 40 ≤ 40 := by unfold mn; omega
  unfold jigsawlaw25_OrderDraws.f
  rw [drawn_all h0, Option.bind_some, if_pos hm.2.1, if_pos hm.1]
  have hl : (l1.take (mn (l1.length : Int) 40).toNat).length ≤ 40 := by rw [List.length_take]; omega
  exact loop_true l0 _ h0 hl (l1.take (mn (l1.length : Int) 40).toNat).length 400 0 0 (by omega) (by omega) (by omega) (by omega) (by omega)
end Go.Proofs.YtllnjembdmjljaaDoor.Pure
