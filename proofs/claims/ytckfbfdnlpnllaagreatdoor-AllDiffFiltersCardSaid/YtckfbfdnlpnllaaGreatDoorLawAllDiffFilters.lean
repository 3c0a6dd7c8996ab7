/-
  The row of ClauseKeeps' kind of law (a struct of jigsawref10.Case, a byte): out of its plain law and the walk.
-/
import Derived.Test.YtckfbfdnlpnllaaGreatDoorOpen
import Derived.Test.YtckfbfdnlpnllaaGreatDoorXAFix21
import Derived.Test.YtckfbfdnlpnllaaGreatDoorPureAllDiffFilters
import Derived.WalkKit
import Derived.SevenTiedAt
import Derived.Test.YtckfbfdnlpnllaaGreatDoorTie
import Derived.Test.YtckfbfdnlpnllaaGreatDoorCards
namespace Go.Proofs.YtckfbfdnlpnllaaGreatDoor.allDiffFilters
open Go.ChangeShapes Go.WideShapes Go.ChangeAt Go.RowKit Go.Proofs.YtckfbfdnlpnllaaGreatDoorW.PrintWords
set_option linter.unusedVariables false
theorem tab_eq : Open.tab = XAllDiffFilters.tabL := rfl
section
variable {H : Type} {enc : TypeId × Value → H} {P : Program} {W : World}
/-- A slice of slices of whole numbers that is read: as a row of rows. -/
theorem rows_in {t e1 e : TypeId} {k : IntKind} {fuel : Nat} {cs : List Value} {x : DataW H × List MemPlace} (q : Nat) (ht : P.underlying t = some (.slice e1)) (hc1 : P.cellsOf e1 = 1) (ht1 : P.underlying e1 = some (.slice e)) (he : P.underlying e = some (.int k)) (hc : P.cellsOf e = 1)
    (h : DataW.trod enc P W 0 (fun _ => true) true fuel t cs = some x) :
    ∃ (A : Option Addr) (c : Nat) (l : List (List Int)), cs = [.slice A l.length c] ∧ Kd.C (Kd.slice q (Kd.int k)) W A l.length l ∧ l.length ≤ c := by
  rcases DataW.trod_slice ht h with ⟨rfl, _⟩ | ⟨a, len, cap, elems, rest, n, _, rfl, rfl, hb, hl, hm, hlen, hel, hsp, hns⟩
  · exact ⟨none, 0, [], rfl, ⟨rfl, by decide, fun h => absurd h (by simp)⟩, Nat.le_refl _⟩
  have each : ∀ i, i < len → ∃ (l : List Int) (A : Option Addr) (c : Nat), W.cell? (a.add i) = some (.slice A l.length c) ∧ l.length ≤ c ∧ Kd.C (Kd.int k) W A l.length l := by
    intro i hi
    have h1 := hel i hi
    rw [hc1, Nat.mul_one, List.getElem?_eq_getElem (by omega), Option.bind_eq_some_iff] at h1
    obtain ⟨cs', hcs, hy⟩ := h1
    obtain ⟨A, c, l, e2, h2, h3, _⟩ := Open.ints_in ht1 he hc hy
    subst e2
    exact ⟨l, A, c, cell_of_cells?_one hcs, h3, h2⟩
  have pick : ∃ L : List (List Int), L.length = len ∧ ∀ i, i < len → ∃ (A : Option Addr) (c : Nat), W.cell? (a.add i) = some (.slice A (L.getD i []).length c) ∧ (L.getD i []).length ≤ c ∧ Kd.C (Kd.int k) W A (L.getD i []).length (L.getD i []) := by
    refine ⟨(List.range len).map (fun i => if hi : i < len then Classical.choose (each i hi) else []), by simp, fun i hi => ?_⟩
    have e3 : ((List.range len).map (fun i => if hi : i < len then Classical.choose (each i hi) else [])).getD i [] = Classical.choose (each i hi) := by
      rw [List.getD_eq_getElem?_getD, List.getElem?_map, List.getElem?_range hi]
      simp [hi]
    rw [e3]
    exact Classical.choose_spec (each i hi)
  obtain ⟨L, hL, hLc⟩ := pick
  have hmax : L.length ≤ 9223372036854775807 := by unfold maxLen at hm; omega
  refine ⟨some a, cap, L, by rw [hL], ⟨rfl, hmax, fun _ => ⟨a, rfl, fun j p hj => ?_⟩⟩, by omega⟩
  have hj' := (List.getElem?_eq_some_iff.1 hj).1
  obtain ⟨A, c, h1, h2, h3⟩ := hLc j (by omega)
  have hp : L.getD j [] = p := by rw [List.getD_eq_getElem?_getD, hj]; rfl
  rw [hp] at h1 h2 h3
  refine ⟨[.slice A p.length c], rfl, ⟨A, c, rfl, h2, h3⟩, fun i u hu => ?_⟩
  cases i with
  | zero =>
    obtain rfl : Value.slice A p.length c = u := by simpa using hu
    show W.cell? (a.add (j * 1 + 0)) = _
    rw [Nat.mul_one, Nat.add_zero]
    exact h1
  | succ i => simp at hu
theorem seven {α : Type} {l : Array α} (h : l.size = 7) : ∃ a b c d e f g, l = #[a, b, c, d, e, f, g] := by
  obtain ⟨l⟩ := l
  match l, h with
  | [a, b, c, d, e, f, g], _ => exact ⟨a, b, c, d, e, f, g, rfl⟩
end
set_option maxRecDepth 100000 in
theorem lifted (os : Os) (started : os.Started) (H : Type) (enc : TypeId × Value → H) :
    ReturnsInHanded {} Tryz.checked os 3 .any (fun w args => (Rows.allDiffFiltersSpec.pre enc Tryz.prog Tryz.f3 [] false w args ∧ laidMetH Tryz.prog Open.laid w) ∧ sizedMet enc Tryz.prog Tryz.f3 (OpenSpec.ofChange Rows.allDiffFiltersSpec) false w args)
      (Rows.allDiffFiltersSpec.post enc Tryz.prog Tryz.f3 false true false false) := by
  refine returnsInHanded_of_change_and (C := Tryz.checked) (X := fun w _ => laidMetH Tryz.prog Open.laid w) (fun _ _ _ hh h => h.of_heap hh) Open.own started (by kernel_rfl) Tryz.func3
    (ChangeSpec.witness_shaped (enc := enc) (C := Tryz.checked) (os := os) (X := fun w _ => laidMetH Tryz.prog Open.laid w) false (World.doorLaid Tryz.prog 400 os) #[.agg #[.int .u8 0, .slice none 0 0, .slice none 0 0, .slice none 0 0, .int .i16 0, .int .u8 0, .slice none 0 0], .int .u8 0] 8 rfl (World.shaped_of_RefB (by kernel_rfl) (by kernel_rfl)) (by kernel_rfl) (by kernel_rfl) (by kernel_rfl) (Open.door_met os _)) ?_
  intro W base args ds gs before hval0 hW _ _ hL _
  have hval : ∀ (j : Nat) t v, Tryz.f3.params[j]? = some t → args[j]? = some v → Value.okWide Tryz.prog W .any base t v := hval0
  have hW' := hW
  obtain ⟨p, q, hA0, hV, rfl, hfz, hnd⟩ := hW
  have hA : DataW.TrodAll enc Tryz.prog W 0 (fun _ => true) true Tryz.f3.params.toList args.toList ds p := hA0
  rw [Tryz.params3] at hA hval
  obtain ⟨v0, vs0, d0, ds0, p0, q0, hargs, rfl, rfl, h0, r0⟩ := trodAll_cons hA
  obtain ⟨v1, vs1, d1, ds1, p1, q1, rfl, rfl, rfl, h1, r1⟩ := trodAll_cons r0
  obtain ⟨rfl, rfl, rfl⟩ := trodAll_nil r1
  obtain rfl : args = #[v0, v1] := by cases args; simp_all
  obtain ⟨rfl, rfl⟩ := trodVars_none hV
  obtain ⟨a1, rfl, rfl, rfl, w1⟩ := open_int Tryz.underlying5 (hval 1 5 v1 rfl rfl) h1
  have k0 := h0
  have lt0 := Open.trod_lt_of k0
  obtain ⟨cs, rfl, hcs⟩ := okWide_struct Tryz.underlying29 (hval 0 29 v0 rfl rfl)
  obtain ⟨fuel0, hf0⟩ := h0
  obtain ⟨ys, m0, rfl, hy, hylen, hyl, hyfi⟩ := DataW.trod_struct Tryz.underlying29 hf0
  have hsz7 : Tryz.prog.cellsOf 29 = 7 := by kernel_rfl
  have hsz6 : Tryz.prog.cellsOf 26 = 6 := by kernel_rfl
  have cu8 : Tryz.prog.cellsOf 5 = 1 := by kernel_rfl
  have cu8s : Tryz.prog.cellsOf 22 = 1 := by kernel_rfl
  have ci8s : Tryz.prog.cellsOf 23 = 1 := by kernel_rfl
  have ci16 : Tryz.prog.cellsOf 24 = 1 := by kernel_rfl
  have ciss : Tryz.prog.cellsOf 27 = 1 := by kernel_rfl
  rw [hsz7] at hcs
  obtain ⟨z0, z1, z2, z3, z4, z5, z6, rfl⟩ := seven hcs
  have hyl2 : ys.length = 2 := hyl
  have f0 : DataW.trod enc Tryz.prog W 0 (fun _ => true) true m0 26 ((([z0, z1, z2, z3, z4, z5, z6] : List Value).drop 0).take (Tryz.prog.cellsOf 26)) = ys[0]? := hyfi 0 _ rfl
  rw [hsz6] at f0
  have f1 : DataW.trod enc Tryz.prog W 0 (fun _ => true) true m0 27 ((([z0, z1, z2, z3, z4, z5, z6] : List Value).drop 6).take (Tryz.prog.cellsOf 27)) = ys[1]? := hyfi 1 _ rfl
  rw [ciss] at f1
  rw [List.getElem?_eq_getElem (by omega)] at f0 f1
  have f0' : DataW.trod enc Tryz.prog W 0 (fun _ => true) true m0 26 [z0, z1, z2, z3, z4, z5] = some ys[0] := f0
  obtain ⟨A6, c6, l6, e7, hr6, hc6⟩ := rows_in 3 Tryz.underlying27 (by kernel_rfl) Tryz.underlying30 Tryz.underlying3 (by kernel_rfl) f1
  obtain ⟨xs, n0, rfl, hx, hlen, hxl, hfi⟩ := DataW.trod_struct Tryz.underlying26 f0'
  have hxl6 : xs.length = 6 := hxl
  have g0 : DataW.trod enc Tryz.prog W 0 (fun _ => true) true n0 5 ((([z0, z1, z2, z3, z4, z5] : List Value).drop 0).take (Tryz.prog.cellsOf 5)) = xs[0]? := hfi 0 _ rfl
  rw [cu8] at g0
  have g1 : DataW.trod enc Tryz.prog W 0 (fun _ => true) true n0 22 ((([z0, z1, z2, z3, z4, z5] : List Value).drop 1).take (Tryz.prog.cellsOf 22)) = xs[1]? := hfi 1 _ rfl
  rw [cu8s] at g1
  have g2 : DataW.trod enc Tryz.prog W 0 (fun _ => true) true n0 22 ((([z0, z1, z2, z3, z4, z5] : List Value).drop 2).take (Tryz.prog.cellsOf 22)) = xs[2]? := hfi 2 _ rfl
  rw [cu8s] at g2
  have g3 : DataW.trod enc Tryz.prog W 0 (fun _ => true) true n0 23 ((([z0, z1, z2, z3, z4, z5] : List Value).drop 3).take (Tryz.prog.cellsOf 23)) = xs[3]? := hfi 3 _ rfl
  rw [ci8s] at g3
  have g4 : DataW.trod enc Tryz.prog W 0 (fun _ => true) true n0 24 ((([z0, z1, z2, z3, z4, z5] : List Value).drop 4).take (Tryz.prog.cellsOf 24)) = xs[4]? := hfi 4 _ rfl
  rw [ci16] at g4
  have g5 : DataW.trod enc Tryz.prog W 0 (fun _ => true) true n0 5 ((([z0, z1, z2, z3, z4, z5] : List Value).drop 5).take (Tryz.prog.cellsOf 5)) = xs[5]? := hfi 5 _ rfl
  rw [cu8] at g5
  rw [List.getElem?_eq_getElem (by omega)] at g0 g1 g2 g3 g4 g5
  obtain ⟨a0, e0, _, w0⟩ := DataW.trod_int Tryz.underlying5 g0
  obtain ⟨A1, c1, l1, e1, hr1, hc1, hw1⟩ := Open.ints_in Tryz.underlying22 Tryz.underlying5 cu8 g1
  obtain ⟨A3, c3, l3, e3, hr3, hc3, hw3⟩ := Open.ints_in Tryz.underlying22 Tryz.underlying5 cu8 g2
  obtain ⟨A4, c4, l4, e4, hr4, hc4, hw4⟩ := Open.ints_in Tryz.underlying23 Tryz.underlying52 (by kernel_rfl) g3
  obtain ⟨a4, e5, _, w4⟩ := DataW.trod_int Tryz.underlying24 g4
  obtain ⟨a5, e6, _, w5⟩ := DataW.trod_int Tryz.underlying5 g5
  obtain rfl : z0 = _ := (List.cons.inj e0).1
  obtain rfl : z1 = _ := (List.cons.inj e1).1
  obtain rfl : z2 = _ := (List.cons.inj e3).1
  obtain rfl : z3 = _ := (List.cons.inj e4).1
  obtain rfl : z4 = _ := (List.cons.inj e5).1
  obtain rfl : z5 = _ := (List.cons.inj e6).1
  obtain rfl : z6 = _ := (List.cons.inj e7).1
  have hT := Open.of_laid hL
  rw [tab_eq] at hT
  obtain ⟨k, hk⟩ := Pure.allDiffFilters a0 l1 l3 l4 a4 a5 l6 a1 w0 hw1 hw3 hw4 w4 w5 w1
  refine (XAllDiffFilters.jigsawlaw16_AllDiffFilters.calls k a0 _ _ l1 _ _ l3 _ _ l4 a4 a5 _ _ l6 a1 true W hr1 hc1 hr3 hc3 hr4 hc4 hr6 hc6 hT hk).mono fun e W' ⟨he, bel⟩ => ?_
  subst he
  exact ⟨_, rfl, _, _, _, [], _, [], hW', trodAll_mk1 (shut_bool Tryz.underlying4 _), (trodAll_cons_mk (Below.trod Open.laidOut (by kernel_rfl) (of_decide_eq_true (by kernel_rfl)) k0 bel lt0) (trodAll_cons_mk (shut_int Tryz.underlying5 w1) trodAll_mk0)), rfl, bel.frame _, fun h => by cases h⟩
theorem over : Rows.allDiffFiltersRow.holds Tryz.pinned (OpenSpec.ofChange Rows.allDiffFiltersSpec) :=
  OpenClaim.holds_of_wide 3 Tryz.f3 rfl rfl rfl rfl rfl rfl rfl ⟨rfl, rfl, rfl, rfl, rfl⟩ rfl rfl rfl rfl rfl (by kernel_rfl) Tryz.func3 (by kernel_rfl)
    (of_decide_eq_true (by kernel_rfl)) (by unfold Func.isWrapper; first | (rw [if_pos (by decide +kernel)]; kernel_rfl) | (rw [if_neg (by decide +kernel)]; exact ⟨rfl, rfl⟩))
    (fun os started H enc _ => lifted os started H enc)
theorem card : Rows.AllDiffFiltersCardSaid :=
  Claim7.holds_tied_plain_at .later [] [.data] true (true, "a5cfa4d15fb785640f7dddd9d6da92cec11e643ea7ef86a2babc6604f94ceffa") false
    over (fun _ h => by cases h) (by kernel_rfl) (fun _ h => by cases h) allDiffFilters_row_tie rfl ⟨rfl, rfl⟩ (by kernel_rfl) rfl
    (fun f fn hf hfn => by
      obtain rfl : f = 3 := Option.some.inj ((show Tryz.prog.funcNamed "jigsaw/jigsawlaw16.AllDiffFilters" = some 3 by kernel_rfl).symm.trans hf) |>.symm
      obtain rfl : fn = Tryz.f3 := (Option.some.inj (Tryz.func3.symm.trans hfn)).symm
      exact ⟨by kernel_rfl, fun j t ht => by
        rw [Tryz.params3] at ht
        have hm : t ∈ [29, 5] := by simpa using Array.mem_of_getElem? ht
        have hall : ([29, 5].all fun u => !Tryz.prog.wantsStandIn u) = true := by kernel_rfl
        exact (show Tryz.prog.wantsStandIn t = false by simpa using List.all_eq_true.1 hall t hm)⟩)
    (by kernel_rfl)
#print axioms card
end Go.Proofs.YtckfbfdnlpnllaaGreatDoor.allDiffFilters
namespace Go.Proofs.YtckfbfdnlpnllaaGreatDoor
/-- The tied card, under a short name, for the claim. -/
theorem allDiffFilters_holds : Rows.AllDiffFiltersCardSaid := allDiffFilters.card
end Go.Proofs.YtckfbfdnlpnllaaGreatDoor
