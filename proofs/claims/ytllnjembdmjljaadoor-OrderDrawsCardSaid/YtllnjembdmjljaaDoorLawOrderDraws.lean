/-
  The row of OrderDraws (a slice of u32, a slice of int): out of its plain law and the walk.
-/
import Derived.Test.YtllnjembdmjljaaDoorOpen
import Derived.Test.YtllnjembdmjljaaDoorXOrderDrawsx11
import Derived.Test.YtllnjembdmjljaaDoorPureOrderDraws
import Derived.WalkKit
import Derived.SevenTiedAt
import Derived.Test.YtllnjembdmjljaaDoorTie
import Derived.Test.YtllnjembdmjljaaDoorCards
namespace Go.Proofs.YtllnjembdmjljaaDoor.orderDraws
open Go.ChangeShapes Go.WideShapes Go.ChangeAt Go.RowKit Go.Proofs.YtllnjembdmjljaaDoorW.PrintWords
set_option linter.unusedVariables false
theorem tab_eq : Open.tab = XOrderDraws.tabL := rfl
set_option maxRecDepth 100000 in
theorem lifted (os : Os) (started : os.Started) (H : Type) (enc : TypeId × Value → H) :
    ReturnsInHanded {} Tryd.checked os 3 .any (fun w args => (Rows.orderDrawsSpec.pre enc Tryd.prog Tryd.f3 [] false w args ∧ laidMetH Tryd.prog Open.laid w) ∧ sizedMet enc Tryd.prog Tryd.f3 (OpenSpec.ofChange Rows.orderDrawsSpec) false w args)
      (Rows.orderDrawsSpec.post enc Tryd.prog Tryd.f3 false true false false) := by
  refine returnsInHanded_of_change_and (C := Tryd.checked) (X := fun w _ => laidMetH Tryd.prog Open.laid w) (fun _ _ _ hh h => h.of_heap hh) Open.own started (by kernel_rfl) Tryd.func3
    (ChangeSpec.witness_shaped (enc := enc) (C := Tryd.checked) (os := os) (X := fun w _ => laidMetH Tryd.prog Open.laid w) false (World.doorLaid Tryd.prog 400 os) #[.slice none 0 0, .slice none 0 0] 8 rfl (World.shaped_of_RefB (by kernel_rfl) (by kernel_rfl)) (by kernel_rfl) (by kernel_rfl) (by kernel_rfl) (Open.door_met os _)) ?_
  intro W base args ds gs before hval0 hW _ hsz0 hL _
  have hsz : (DataW.weightsEach Tryd.prog (Tryd.f3.params.toList ++ Rows.orderDrawsSpec.plain.varTypes Tryd.prog) (ds ++ gs)).all (· ≤ reachBytes) = true := hsz0
  have hval : ∀ (j : Nat) t v, Tryd.f3.params[j]? = some t → args[j]? = some v → Value.okWide Tryd.prog W .any base t v := hval0
  have hW' := hW
  obtain ⟨p, q, hA0, hV, rfl, hfz, hnd⟩ := hW
  have hA : DataW.TrodAll enc Tryd.prog W 0 (fun _ => true) true Tryd.f3.params.toList args.toList ds p := hA0
  rw [Tryd.params3] at hA hval hsz
  obtain ⟨v0, vs0, d0, ds0, p0, q0, hargs, rfl, rfl, h0, r0⟩ := trodAll_cons hA
  obtain ⟨v1, vs1, d1, ds1, p1, q1, rfl, rfl, rfl, h1, r1⟩ := trodAll_cons r0
  obtain ⟨rfl, rfl, rfl⟩ := trodAll_nil r1
  obtain rfl : args = #[v0, v1] := by cases args; simp_all
  obtain ⟨rfl, rfl⟩ := trodVars_none hV
  have k0 := h0
  have k1 := h1
  have lt0 := Open.trod_lt_of k0
  have lt1 := Open.trod_lt_of k1
  obtain ⟨a0, len0, cap0, rfl⟩ := okWide_slice Tryd.underlying22 (hval 0 22 v0 rfl rfl)
  obtain ⟨a1, len1, cap1, rfl⟩ := okWide_slice Tryd.underlying23 (hval 1 23 v1 rfl rfl)
  have y0 : len0 * 4 ≤ 140737488351232 := sized_ints hsz (j := 0) (t := 22) rfl rfl Tryd.underlying22 Tryd.underlying26 (by kernel_rfl) (by kernel_rfl) h0
  have y1 : len1 * 8 ≤ 140737488351232 := sized_ints hsz (j := 1) (t := 23) rfl rfl Tryd.underlying23 Tryd.underlying3 (by kernel_rfl) (by kernel_rfl) h1
  obtain ⟨fuel0, hf0⟩ := h0
  obtain ⟨fuel1, hf1⟩ := h1
  obtain ⟨A0, c0, l0, e0, hr0, hc0, hw0⟩ := Open.ints_in Tryd.underlying22 Tryd.underlying26 (by kernel_rfl) hf0
  obtain ⟨A1, c1, l1, e1, hr1, hc1, hw1⟩ := Open.ints_in Tryd.underlying23 Tryd.underlying3 (by kernel_rfl) hf1
  obtain ⟨rfl, rfl, rfl⟩ := Value.slice.inj (List.cons.inj e0).1
  obtain ⟨rfl, rfl, rfl⟩ := Value.slice.inj (List.cons.inj e1).1
  have hT := Open.of_laid hL
  rw [tab_eq] at hT
  obtain ⟨k, hk⟩ := Pure.orderDraws l0 l1 y0 hw0 y1 hw1
  refine (XOrderDraws.jigsawlaw25_OrderDraws.calls k _ _ l0 _ _ l1 true W hr0 hc0 hr1 hc1 hT hk).mono fun e W' ⟨he, bel⟩ => ?_
  subst he
  exact ⟨_, rfl, _, _, _, [], _, [], hW', trodAll_mk1 (shut_bool Tryd.underlying4 _), (trodAll_cons_mk (Below.trod Open.laidOut (by kernel_rfl) (of_decide_eq_true (by kernel_rfl)) k0 bel lt0) (trodAll_cons_mk (Below.trod Open.laidOut (by kernel_rfl) (of_decide_eq_true (by kernel_rfl)) k1 bel lt1) trodAll_mk0)), rfl, bel.frame _, fun h => by cases h⟩
theorem over : Rows.orderDrawsRow.holds Tryd.pinned (OpenSpec.ofChange Rows.orderDrawsSpec) :=
  OpenClaim.holds_of_wide 3 Tryd.f3 rfl rfl rfl rfl rfl rfl rfl ⟨rfl, rfl, rfl, rfl, rfl⟩ rfl rfl rfl rfl rfl (by kernel_rfl) Tryd.func3 (by kernel_rfl)
    (of_decide_eq_true (by kernel_rfl)) (by unfold Func.isWrapper; first | (rw [if_pos (by decide +kernel)]; kernel_rfl) | (rw [if_neg (by decide +kernel)]; exact ⟨rfl, rfl⟩))
    (fun os started H enc _ => lifted os started H enc)
theorem card : Rows.OrderDrawsCardSaid :=
  Claim7.holds_tied_plain_at .later [] [.data] true (true, "9b94996ffb5a1172f5e55989d29f25b368d2198d221b0074d2e8f9a05a10cef8") false
    over (fun _ h => by cases h) (by kernel_rfl) (fun _ h => by cases h) orderDraws_row_tie rfl ⟨rfl, rfl⟩ (by kernel_rfl) rfl
    (fun f fn hf hfn => by
      obtain rfl : f = 3 := Option.some.inj ((show Tryd.prog.funcNamed "jigsaw/jigsawlaw25.OrderDraws" = some 3 by kernel_rfl).symm.trans hf) |>.symm
      obtain rfl : fn = Tryd.f3 := (Option.some.inj (Tryd.func3.symm.trans hfn)).symm
      exact ⟨by kernel_rfl, fun j t ht => by
        rw [Tryd.params3] at ht
        have hm : t ∈ [22, 23] := by simpa using Array.mem_of_getElem? ht
        have hall : ([22, 23].all fun u => !Tryd.prog.wantsStandIn u) = true := by kernel_rfl
        exact (show Tryd.prog.wantsStandIn t = false by simpa using List.all_eq_true.1 hall t hm)⟩)
    (by kernel_rfl)
#print axioms card
end Go.Proofs.YtllnjembdmjljaaDoor.orderDraws
namespace Go.Proofs.YtllnjembdmjljaaDoor
/-- The tied card, under a short name, for the claim. -/
theorem orderDraws_holds : Rows.OrderDrawsCardSaid := orderDraws.card
end Go.Proofs.YtllnjembdmjljaaDoor
