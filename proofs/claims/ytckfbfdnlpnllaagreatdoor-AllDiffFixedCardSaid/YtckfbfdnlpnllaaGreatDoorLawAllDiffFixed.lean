/-
  The row of ClauseFixed's kind of law (a struct of jigsawref06.Small, a byte, a list of small numbers): out of its plain law and the walk.
-/
import Derived.Test.YtckfbfdnlpnllaaGreatDoorOpen
import Derived.Test.YtckfbfdnlpnllaaGreatDoorXAFxx15
import Derived.Test.YtckfbfdnlpnllaaGreatDoorPureAllDiffFixed
import Derived.WalkKit
import Derived.SevenTiedAt
import Derived.Test.YtckfbfdnlpnllaaGreatDoorTie
import Derived.Test.YtckfbfdnlpnllaaGreatDoorCards
namespace Go.Proofs.YtckfbfdnlpnllaaGreatDoor.allDiffFixed
open Go.ChangeShapes Go.WideShapes Go.ChangeAt Go.RowKit Go.Proofs.YtckfbfdnlpnllaaGreatDoorW.PrintWords
set_option linter.unusedVariables false
theorem tab_eq : Open.tab = XAllDiffFixed.tabL := rfl
set_option maxRecDepth 100000 in
theorem lifted (os : Os) (started : os.Started) (H : Type) (enc : TypeId × Value → H) :
    ReturnsInHanded {} Tryz.checked os 5 .any (fun w args => (Rows.allDiffFixedSpec.pre enc Tryz.prog Tryz.f5 [] false w args ∧ laidMetH Tryz.prog Open.laid w) ∧ sizedMet enc Tryz.prog Tryz.f5 (OpenSpec.ofChange Rows.allDiffFixedSpec) false w args)
      (Rows.allDiffFixedSpec.post enc Tryz.prog Tryz.f5 false true false false) := by
  refine returnsInHanded_of_change_and (C := Tryz.checked) (X := fun w _ => laidMetH Tryz.prog Open.laid w) (fun _ _ _ hh h => h.of_heap hh) Open.own started (by kernel_rfl) Tryz.func5
    (ChangeSpec.witness_shaped (enc := enc) (C := Tryz.checked) (os := os) (X := fun w _ => laidMetH Tryz.prog Open.laid w) false (World.doorLaid Tryz.prog 400 os) #[.agg #[.int .u8 0, .slice none 0 0, .slice none 0 0, .slice none 0 0, .int .i16 0, .int .u8 0], .int .u8 0, .slice none 0 0] 8 rfl (World.shaped_of_RefB (by kernel_rfl) (by kernel_rfl)) (by kernel_rfl) (by kernel_rfl) (by kernel_rfl) (Open.door_met os _)) ?_
  intro W base args ds gs before hval0 hW _ _ hL _
  have hval : ∀ (j : Nat) t v, Tryz.f5.params[j]? = some t → args[j]? = some v → Value.okWide Tryz.prog W .any base t v := hval0
  have hW' := hW
  obtain ⟨p, q, hA0, hV, rfl, hfz, hnd⟩ := hW
  have hA : DataW.TrodAll enc Tryz.prog W 0 (fun _ => true) true Tryz.f5.params.toList args.toList ds p := hA0
  rw [Tryz.params5] at hA hval
  obtain ⟨v0, vs0, d0, ds0, p0, q0, hargs, rfl, rfl, h0, r0⟩ := trodAll_cons hA
  obtain ⟨v1, vs1, d1, ds1, p1, q1, rfl, rfl, rfl, h1, r1⟩ := trodAll_cons r0
  obtain ⟨v2, vs2, d2, ds2, p2, q2, rfl, rfl, rfl, h2, r2⟩ := trodAll_cons r1
  obtain ⟨rfl, rfl, rfl⟩ := trodAll_nil r2
  obtain rfl : args = #[v0, v1, v2] := by cases args; simp_all
  obtain ⟨rfl, rfl⟩ := trodVars_none hV
  obtain ⟨a1, rfl, rfl, rfl, w1⟩ := open_int Tryz.underlying5 (hval 1 5 v1 rfl rfl) h1
  have k0 := h0
  have k2 := h2
  have lt0 := Open.trod_lt_of k0
  have lt2 := Open.trod_lt_of k2
  obtain ⟨s2, n2, c2', rfl⟩ := okWide_slice Tryz.underlying23 (hval 2 23 v2 rfl rfl)
  obtain ⟨fuel2, hf2⟩ := h2
  obtain ⟨A2, c2, l2, e2, hr2, hc2, hw2⟩ := Open.ints_in Tryz.underlying23 Tryz.underlying52 (by kernel_rfl) hf2
  simp [Value.cells] at e2
  obtain ⟨rfl, rfl, rfl⟩ := e2
  obtain ⟨cs, rfl, hcs⟩ := okWide_struct Tryz.underlying26 (hval 0 26 v0 rfl rfl)
  obtain ⟨fuel0, hf0⟩ := h0
  obtain ⟨xs, n0, rfl, hx, hlen, hxl, hfi⟩ := DataW.trod_struct Tryz.underlying26 hf0
  have hsz6 : Tryz.prog.cellsOf 26 = 6 := by kernel_rfl
  have cu8 : Tryz.prog.cellsOf 5 = 1 := by kernel_rfl
  have cu8s : Tryz.prog.cellsOf 22 = 1 := by kernel_rfl
  have ci8s : Tryz.prog.cellsOf 23 = 1 := by kernel_rfl
  have ci16 : Tryz.prog.cellsOf 24 = 1 := by kernel_rfl
  rw [hsz6] at hcs
  obtain ⟨z0, z1, z2, z3, z4, z5, rfl⟩ := Open.six hcs
  have hxl6 : xs.length = 6 := hxl
  have g0 : DataW.trod enc Tryz.prog W 0 (fun _ => true) true n0 5 ((([z0, z1, z2, z3, z4, z5] : List Value).drop 0).take (Tryz.prog.cellsOf 5)) = xs[0]? := hfi 0 _ rfl
  rw [cu8] at g0
  have g1 : DataW.trod enc Tryz.prog W 0 (fun _ => true) true n0 22 ((([z0, z1, z2, z3, z4, z5] : List Value).drop 1).take (Tryz.prog.cellsOf 22)) = xs[1]? := hfi 1 _ rfl
  rw [cu8s] at g1
  have g2 : DataW.trod enc Tryz.prog W 0 (fun _ => true) true n0 22 ((([z0, z1, z2, z3, z4, z5] : List Value).drop 2).take (Tryz.prog.cellsOf 22)) = xs[2]? := hfi 2 _ rfl
  rw [cu8s] at g2
  have g3 : DataW.trod enc Tryz.prog W 0 (fun _ => true) true n0 23 ((([z0, z1, z2, z3, z4, z5] : List Value).drop 3).take (Tryz.prog.cellsOf 23)) = xs[3]? := hfi 3 _ rfl
  rw [ci8s] at g3
  have g4 : DataW.trod enc Tryz.prog W 0 (fun _ => true) true n0 24 ((([z0, z1, z2, z3, z4, z5] : List Value).drop 4).take (Tryz.prog.cellsOf 24)) = xs[4]? := hfi 4 _ rfl
  rw [ci16] at g4
  have g5 : DataW.trod enc Tryz.prog W 0 (fun _ => true) true n0 5 ((([z0, z1, z2, z3, z4, z5] : List Value).drop 5).take (Tryz.prog.cellsOf 5)) = xs[5]? := hfi 5 _ rfl
  rw [cu8] at g5
  rw [List.getElem?_eq_getElem (by omega)] at g0 g1 g2 g3 g4 g5
  obtain ⟨a0, e0, _, w0⟩ := DataW.trod_int Tryz.underlying5 g0
  obtain ⟨A1, c1, l1, e1, hr1, hc1, hw1⟩ := Open.ints_in Tryz.underlying22 Tryz.underlying5 cu8 g1
  obtain ⟨A3, c3, l3, e3, hr3, hc3, hw3⟩ := Open.ints_in Tryz.underlying22 Tryz.underlying5 cu8 g2
  obtain ⟨A4, c4, l4, e4, hr4, hc4, hw4⟩ := Open.ints_in Tryz.underlying23 Tryz.underlying52 (by kernel_rfl) g3
  obtain ⟨a4, e5, _, w4⟩ := DataW.trod_int Tryz.underlying24 g4
  obtain ⟨a5, e6, _, w5⟩ := DataW.trod_int Tryz.underlying5 g5
  obtain rfl : z0 = _ := (List.cons.inj e0).1
  obtain rfl : z1 = _ := (List.cons.inj e1).1
  obtain rfl : z2 = _ := (List.cons.inj e3).1
  obtain rfl : z3 = _ := (List.cons.inj e4).1
  obtain rfl : z4 = _ := (List.cons.inj e5).1
  obtain rfl : z5 = _ := (List.cons.inj e6).1
  have hT := Open.of_laid hL
  rw [tab_eq] at hT
  obtain ⟨k, hk⟩ := Pure.allDiffFixed a0 l1 l3 l4 a4 a5 a1 l2 w0 hw1 hw3 hw4 w4 w5 w1 hw2
  refine (XAllDiffFixed.jigsawlaw16_AllDiffFixed.calls k a0 _ _ l1 _ _ l3 _ _ l4 a4 a5 a1 _ _ l2 true W hr1 hc1 hr3 hc3 hr4 hc4 hr2 hc2 hT hk).mono fun e W' ⟨he, bel⟩ => ?_
  subst he
  exact ⟨_, rfl, _, _, _, [], _, [], hW', trodAll_mk1 (shut_bool Tryz.underlying4 _), (trodAll_cons_mk (Below.trod Open.laidOut (by kernel_rfl) (of_decide_eq_true (by kernel_rfl)) k0 bel lt0) (trodAll_cons_mk (shut_int Tryz.underlying5 w1) (trodAll_cons_mk (Below.trod Open.laidOut (by kernel_rfl) (of_decide_eq_true (by kernel_rfl)) k2 bel lt2) trodAll_mk0))), rfl, bel.frame _, fun h => by cases h⟩
theorem over : Rows.allDiffFixedRow.holds Tryz.pinned (OpenSpec.ofChange Rows.allDiffFixedSpec) :=
  OpenClaim.holds_of_wide 5 Tryz.f5 rfl rfl rfl rfl rfl rfl rfl ⟨rfl, rfl, rfl, rfl, rfl⟩ rfl rfl rfl rfl rfl (by kernel_rfl) Tryz.func5 (by kernel_rfl)
    (of_decide_eq_true (by kernel_rfl)) (by unfold Func.isWrapper; first | (rw [if_pos (by decide +kernel)]; kernel_rfl) | (rw [if_neg (by decide +kernel)]; exact ⟨rfl, rfl⟩))
    (fun os started H enc _ => lifted os started H enc)
theorem card : Rows.AllDiffFixedCardSaid :=
  Claim7.holds_tied_plain_at .later [] [.data] true (true, "a5cfa4d15fb785640f7dddd9d6da92cec11e643ea7ef86a2babc6604f94ceffa") false
    over (fun _ h => by cases h) (by kernel_rfl) (fun _ h => by cases h) allDiffFixed_row_tie rfl ⟨rfl, rfl⟩ (by kernel_rfl) rfl
    (fun f fn hf hfn => by
      obtain rfl : f = 5 := Option.some.inj ((show Tryz.prog.funcNamed "jigsaw/jigsawlaw16.AllDiffFixed" = some 5 by kernel_rfl).symm.trans hf) |>.symm
      obtain rfl : fn = Tryz.f5 := (Option.some.inj (Tryz.func5.symm.trans hfn)).symm
      exact ⟨by kernel_rfl, fun j t ht => by
        rw [Tryz.params5] at ht
        have hm : t ∈ [26, 5, 23] := by simpa using Array.mem_of_getElem? ht
        have hall : ([26, 5, 23].all fun u => !Tryz.prog.wantsStandIn u) = true := by kernel_rfl
        exact (show Tryz.prog.wantsStandIn t = false by simpa using List.all_eq_true.1 hall t hm)⟩)
    (by kernel_rfl)
#print axioms card
end Go.Proofs.YtckfbfdnlpnllaaGreatDoor.allDiffFixed
namespace Go.Proofs.YtckfbfdnlpnllaaGreatDoor
/-- The tied card, under a short name, for the claim. -/
theorem allDiffFixed_holds : Rows.AllDiffFixedCardSaid := allDiffFixed.card
end Go.Proofs.YtckfbfdnlpnllaaGreatDoor
