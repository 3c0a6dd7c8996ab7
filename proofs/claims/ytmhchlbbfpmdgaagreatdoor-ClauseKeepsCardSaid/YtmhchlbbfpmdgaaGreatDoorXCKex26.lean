-- by xprint.py, a program of this session, over the kit's print
import Derived.Test.YtmhchlbbfpmdgaaGreatDoorXCKex0
import Derived.Test.YtmhchlbbfpmdgaaGreatDoorXCKex23
import Derived.Test.YtmhchlbbfpmdgaaGreatDoorXCKex24
import Derived.Test.YtmhchlbbfpmdgaaGreatDoorXCKex25
import Derived.Test.YtmhchlbbfpmdgaaGreatDoorSq
namespace Go.Proofs.YtmhchlbbfpmdgaaGreatDoor.XClauseKeeps
open Go.RowKit Go.Proofs.YtmhchlbbfpmdgaaGreatDoor.Sq Go.Proofs.YtmhchlbbfpmdgaaGreatDoorW.PrintWords Go.Proofs.YtmhchlbbfpmdgaaGreatDoorW.PrintLast Go.Proofs.YtmhchlbbfpmdgaaGreatDoorW.PrintMore
attribute [local go_sem] max2_int min2_int max_two min_two max_three min_three max_four min_four   -- for this text's walks alone
set_option linter.unusedVariables false
set_option linter.unusedSimpArgs false

/-! ### jigsawref10_Solutions: function 15 -/
mutual
def jigsawref10_Solutions.l0 : Nat → List (List Int) → Int → Int → Int → Int → List Int → List Int → List Int → List Int → List Int → Int → List (List Int) → Option ((List (List Int)) × Bool)
 | 0, _, _, _, _, _, _, _, _, _, _, _, _ => none
 | k + 1, x1, x2, x8, x9, x524000, x524001, x524002, x524003, x524004, x524005, x524006, x524007 => if x9 < (x1.length : Int) then (if 0 ≤ x9 then (if (wrap64 (x8 * ((rd_L7 x1 x9).length : Int))) > x2 then (some (([] : List (List Int)), false)) else (jigsawref10_Solutions.l0 k x1 x2 (wrap64 (x8 * ((rd_L7 x1 x9).length : Int))) (wrap64 (x9 + 1)) x524000 x524001 x524002 x524003 x524004 x524005 x524006 x524007)) else (none)) else ((jigsawref10_Local.f k x524000 x524001 x524002 x524003 x524004 x524005 x524006 x524007).bind fun bt525 => ((jigsawref09_Product.f k x1 x2).bind fun t546 => (jigsawref10_Solutions.l1 k t546 ([] : List (List Int)) 0 bt525.1 bt525.2.1 bt525.2.2.1 bt525.2.2.2.1 bt525.2.2.2.2.1 bt525.2.2.2.2.2.1 bt525.2.2.2.2.2.2.1 bt525.2.2.2.2.2.2.2)))
def jigsawref10_Solutions.l1 : Nat → List (List Int) → List (List Int) → Int → Int → List Int → List Int → List Int → List Int → List Int → Int → List (List Int) → Option ((List (List Int)) × Bool)
 | 0, _, _, _, _, _, _, _, _, _, _, _ => none
 | k + 1, x11, x12, x13, x546000, x546001, x546002, x546003, x546004, x546005, x546006, x546007 => if x13 < (x11.length : Int) then (if 0 ≤ x13 then ((jigsawref09_Holds.f k x546000 x546001 x546002 x546003 x546004 x546005 x546006 x546007 (rd_L7 x11 x13)).bind fun t550 => (if t550 = true then (if x12.length < 5864062014805 then (jigsawref10_Solutions.l1 k x11 (x12 ++ [rd_L7 x11 x13]) (wrap64 (x13 + 1)) x546000 x546001 x546002 x546003 x546004 x546005 x546006 x546007) else (none)) else (jigsawref10_Solutions.l1 k x11 x12 (wrap64 (x13 + 1)) x546000 x546001 x546002 x546003 x546004 x546005 x546006 x546007))) else (none)) else (some (x12, true))
end
def jigsawref10_Solutions.f (k : Nat) (a0_0 : Int) (l0_1 : List Int) (l0_2 : List Int) (l0_3 : List Int) (l0_4 : List Int) (l0_5 : List Int) (a0_6 : Int) (l0_7 : List (List Int)) (l1 : List (List Int)) (a2 : Int) : Option ((List (List Int)) × Bool) := jigsawref10_Solutions.l0 k l1 a2 1 0 a0_0 l0_1 l0_2 l0_3 l0_4 l0_5 a0_6 l0_7
theorem jigsawref10_Solutions.mono_l : ∀ k, (∀ y0 y1 y2 y3 y4 y5 y6 y7 y8 y9 y10 y11, LeO (jigsawref10_Solutions.l0 k y0 y1 y2 y3 y4 y5 y6 y7 y8 y9 y10 y11) (jigsawref10_Solutions.l0 (k + 1) y0 y1 y2 y3 y4 y5 y6 y7 y8 y9 y10 y11)) ∧ (∀ y0 y1 y2 y3 y4 y5 y6 y7 y8 y9 y10, LeO (jigsawref10_Solutions.l1 k y0 y1 y2 y3 y4 y5 y6 y7 y8 y9 y10) (jigsawref10_Solutions.l1 (k + 1) y0 y1 y2 y3 y4 y5 y6 y7 y8 y9 y10))
 | 0 => ⟨fun _ _ _ _ _ _ _ _ _ _ _ _ r h => by simp [jigsawref10_Solutions.l0] at h, fun _ _ _ _ _ _ _ _ _ _ _ r h => by simp [jigsawref10_Solutions.l1] at h⟩
 | k + 1 => by
  obtain ⟨ih0, ih1⟩ := jigsawref10_Solutions.mono_l k
  refine ⟨?_, ?_⟩
  ·
   intro y0 y1 y2 y3 y4 y5 y6 y7 y8 y9 y10 y11
   unfold jigsawref10_Solutions.l0
   have m0 := @jigsawref09_Holds.mono
   have m1 := @jigsawref09_Product.mono
   have m2 := @jigsawref10_Local.mono
   exact leo_
  ·
   intro y0 y1 y2 y3 y4 y5 y6 y7 y8 y9 y10
   unfold jigsawref10_Solutions.l1
   have m0 := @jigsawref09_Holds.mono
   have m1 := @jigsawref09_Product.mono
   have m2 := @jigsawref10_Local.mono
   exact leo_
theorem jigsawref10_Solutions.mono : ∀ a0 a1 a2 a3 a4 a5 a6 a7 a8 a9 k, LeO (jigsawref10_Solutions.f k a0 a1 a2 a3 a4 a5 a6 a7 a8 a9) (jigsawref10_Solutions.f (k + 1) a0 a1 a2 a3 a4 a5 a6 a7 a8 a9) := by
 intro a0 a1 a2 a3 a4 a5 a6 a7 a8 a9 k
 obtain ⟨ih0, ih1⟩ := jigsawref10_Solutions.mono_l k
 unfold jigsawref10_Solutions.f
 have m0 := @jigsawref09_Holds.mono
 have m1 := @jigsawref09_Product.mono
 have m2 := @jigsawref10_Local.mono
 exact leo_
set_option maxHeartbeats 8000000 in
set_option maxRecDepth 100000 in
theorem jigsawref10_Solutions.calls (k : Nat) (a0_0 : Int) (A0_1 : Option Addr) (c0_1 : Nat) (l0_1 : List Int) (A0_2 : Option Addr) (c0_2 : Nat) (l0_2 : List Int) (P0_3_ : Nat → Prop) (A0_3 : Option Addr) (c0_3 : Nat) (l0_3 : List Int) (P0_4_ : Nat → Prop) (A0_4 : Option Addr) (c0_4 : Nat) (l0_4 : List Int) (P0_5_ : Nat → Prop) (A0_5 : Option Addr) (c0_5 : Nat) (l0_5 : List Int) (a0_6 : Int) (P0_7_ : Nat → Prop) (A0_7 : Option Addr) (c0_7 : Nat) (l0_7 : List (List Int)) (A1 : Option Addr) (c1 : Nat) (l1 : List (List Int)) (a2 : Int) (r1 : List (List Int)) (r2 : Bool) (w : World) (hr0_1 : Kd.C (Kd.int .i64) w A0_1 l0_1.length l0_1) (hc0_1 : l0_1.length ≤ c0_1) (hr0_2 : Kd.C (Kd.int .i64) w A0_2 l0_2.length l0_2) (hc0_2 : l0_2.length ≤ c0_2) (hs0_3 : Kd.V (Kd.int .i64) 3 w w.heap.size (fun k_ => P0_3_ k_) (.slice A0_3 l0_3.length c0_3) l0_3) (hs0_4 : Kd.V (Kd.int .i64) 3 w w.heap.size (fun k_ => P0_4_ k_) (.slice A0_4 l0_4.length c0_4) l0_4) (hs0_5 : Kd.V (Kd.int .i64) 3 w w.heap.size (fun k_ => P0_5_ k_) (.slice A0_5 l0_5.length c0_5) l0_5) (hs0_7 : Kd.V (Kd.slice 3 (Kd.int .i64)) 30 w w.heap.size (fun k_ => P0_7_ k_) (.slice A0_7 l0_7.length c0_7) l0_7) (hr1 : Kd.C (Kd.slice 3 (Kd.int .i64)) w A1 l1.length l1) (hc1 : l1.length ≤ c1) (h : jigsawref10_Solutions.f k a0_0 l0_1 l0_2 l0_3 l0_4 l0_5 a0_6 l0_7 l1 a2 = some (r1, r2)) :
  Calls Tryz.prog 15 #[.agg #[.int .i64 a0_0, .slice A0_1 l0_1.length c0_1, .slice A0_2 l0_2.length c0_2, .slice A0_3 l0_3.length c0_3, .slice A0_4 l0_4.length c0_4, .slice A0_5 l0_5.length c0_5, .int .i64 a0_6, .slice A0_7 l0_7.length c0_7], .slice A1 l1.length c1, .int .i64 a2] w fun e w' => ∃ v0_ : Value, e = .returned (.tuple #[v0_, .bool r2]) ∧ Kd.N (Kd.slice 3 (Kd.int .i64)) 30 w' w.heap.size (fun k_ => ((P0_3_ k_ ∨ P0_4_ k_ ∨ P0_5_ k_ ∨ P0_7_ k_) ∨ w.heap.size ≤ k_)) v0_ r1 ∧ Below w.heap.size w w' := by
 have hu32 := Tryz.underlying32
 have HR0_1 := Aside0.mk hr0_1
 have HC0_1 := Aside0.mk hc0_1
 clear hr0_1 hc0_1
 have HR0_2 := Aside0.mk hr0_2
 have HC0_2 := Aside0.mk hc0_2
 clear hr0_2 hc0_2
 have HO0_3 := Aside0.mk (show Kd.V (Kd.int .i64) 3 w w.heap.size (fun k_ => ((P0_3_ k_ ∨ P0_4_ k_ ∨ P0_5_ k_ ∨ P0_7_ k_) ∨ w.heap.size ≤ k_)) (.slice A0_3 l0_3.length c0_3) l0_3 from Kd.V_mono hs0_3 (fun k_ hk => .inl (.inl hk)))
 have HO0_4 := Aside0.mk (show Kd.V (Kd.int .i64) 3 w w.heap.size (fun k_ => ((P0_3_ k_ ∨ P0_4_ k_ ∨ P0_5_ k_ ∨ P0_7_ k_) ∨ w.heap.size ≤ k_)) (.slice A0_4 l0_4.length c0_4) l0_4 from Kd.V_mono hs0_4 (fun k_ hk => .inl (.inr (.inl hk))))
 have HO0_5 := Aside0.mk (show Kd.V (Kd.int .i64) 3 w w.heap.size (fun k_ => ((P0_3_ k_ ∨ P0_4_ k_ ∨ P0_5_ k_ ∨ P0_7_ k_) ∨ w.heap.size ≤ k_)) (.slice A0_5 l0_5.length c0_5) l0_5 from Kd.V_mono hs0_5 (fun k_ hk => .inl (.inr (.inr (.inl hk)))))
 have HO0_7 := Aside0.mk (show Kd.V (Kd.slice 3 (Kd.int .i64)) 30 w w.heap.size (fun k_ => ((P0_3_ k_ ∨ P0_4_ k_ ∨ P0_5_ k_ ∨ P0_7_ k_) ∨ w.heap.size ≤ k_)) (.slice A0_7 l0_7.length c0_7) l0_7 from Kd.V_mono hs0_7 (fun k_ hk => .inl (.inr (.inr (.inr hk)))))
 have HR1 := Aside0.mk hr1
 have HC1 := Aside0.mk hc1
 clear hr1 hc1
 have HB := Aside0.mk (Below.refl w.heap.size w)
 have H : (jigsawref10_Solutions.l0 k l1 a2 1 0 a0_0 l0_1 l0_2 l0_3 l0_4 l0_5 a0_6 l0_7) = some (r1, r2) := h
 clear h
 have H' := Aside0.mk H
 clear H
 go_enter Tryz.func15, Tryz.ntmps15
 go_wp2_with (first | ((with_reducible refine gate_dst (N := 3) rfl ?_); refine bxe_ (N := 3) (cs := #[.int .i64 a0_0, .slice A0_1 l0_1.length c0_1, .slice A0_2 l0_2.length c0_2, .slice A0_3 l0_3.length c0_3, .slice A0_4 l0_4.length c0_4, .slice A0_5 l0_5.length c0_5, .int .i64 a0_6, .slice A0_7 l0_7.length c0_7]) (t := 32) ?_; intro gb523 hg w4 hbox hb; replace HO0_3 := Aside0.mk (Kd.V_below (Kd.V_elderB (vV_ HO0_3.out) gb523 (Nat.le_of_eq hg.symm)) hb); replace HO0_4 := Aside0.mk (Kd.V_below (Kd.V_elderB (vV_ HO0_4.out) gb523 (Nat.le_of_eq hg.symm)) hb); replace HO0_5 := Aside0.mk (Kd.V_below (Kd.V_elderB (vV_ HO0_5.out) gb523 (Nat.le_of_eq hg.symm)) hb); replace HO0_7 := Aside0.mk (Kd.V_below (Kd.V_elderB (vV_ HO0_7.out) gb523 (Nat.le_of_eq hg.symm)) hb); have BK523 := Aside0.mk (hbox); have GW523 := Aside0.mk (by rw [hg]; exact (below_size bel_) : w.heap.size ≤ gb523); have GE523 := GW523; replace HB := Aside0.mk (below_step bel_ hb); clear hb hbox hg))
 go_loopg [8, 9] k (fun kq v8 v9 w' => ∃ (x8_1 : Int) (x9_1 : Int), v8 = .int .i64 x8_1 ∧ v9 = .int .i64 x9_1 ∧ Aside0 (jigsawref10_Solutions.l0 kq l1 a2 x8_1 x9_1 a0_0 l0_1 l0_2 l0_3 l0_4 l0_5 a0_6 l0_7 = some (r1, r2)) ∧ Aside0 (kq ≤ k) ∧ Aside0 (Kd.V (Kd.int .i64) 3 w' w.heap.size (fun k_ => ((P0_3_ k_ ∨ P0_4_ k_ ∨ P0_5_ k_ ∨ P0_7_ k_) ∨ w.heap.size ≤ k_) ∧ k_ ≠ gb523) (.slice A0_3 l0_3.length c0_3) l0_3) ∧ Aside0 (Kd.V (Kd.int .i64) 3 w' w.heap.size (fun k_ => ((P0_3_ k_ ∨ P0_4_ k_ ∨ P0_5_ k_ ∨ P0_7_ k_) ∨ w.heap.size ≤ k_) ∧ k_ ≠ gb523) (.slice A0_4 l0_4.length c0_4) l0_4) ∧ Aside0 (Kd.V (Kd.int .i64) 3 w' w.heap.size (fun k_ => ((P0_3_ k_ ∨ P0_4_ k_ ∨ P0_5_ k_ ∨ P0_7_ k_) ∨ w.heap.size ≤ k_) ∧ k_ ≠ gb523) (.slice A0_5 l0_5.length c0_5) l0_5) ∧ Aside0 (Kd.V (Kd.slice 3 (Kd.int .i64)) 30 w' w.heap.size (fun k_ => ((P0_3_ k_ ∨ P0_4_ k_ ∨ P0_5_ k_ ∨ P0_7_ k_) ∨ w.heap.size ≤ k_) ∧ k_ ≠ gb523) (.slice A0_7 l0_7.length c0_7) l0_7) ∧ Aside0 (w'.heap[gb523]? = some (.cells #[.int .i64 a0_0, (.slice A0_1 l0_1.length c0_1), (.slice A0_2 l0_2.length c0_2), (.slice A0_3 l0_3.length c0_3), (.slice A0_4 l0_4.length c0_4), (.slice A0_5 l0_5.length c0_5), .int .i64 a0_6, (.slice A0_7 l0_7.length c0_7)] 32 (0, 0))) ∧ Aside0 (Below w.heap.size w w'))
 case atStart => exact ⟨(1), (0), eq_, eq_, H', ⟨Nat.le_refl _⟩, ⟨by refine vV_ ?_; exact HO0_3.out⟩, ⟨by refine vV_ ?_; exact HO0_4.out⟩, ⟨by refine vV_ ?_; exact HO0_5.out⟩, ⟨by refine vV_ ?_; exact HO0_7.out⟩, ⟨by refine bk_ ?_; exact BK523.out⟩, ⟨bel_⟩⟩
 case round =>
  clear H'
  try clear c1
  try clear p2
  obtain ⟨x8_1, x9_1, rfl, rfl, HA, HK1, HO_524003, HO_524004, HO_524005, HO_524007, BK523, HB⟩ := hrel
  cases gk with
  | zero => exact absurd HA.out (by simp [jigsawref10_Solutions.l0])
  | succ k1 =>
   have H := HA.out
   clear HA
   simp only [jigsawref10_Solutions.l0] at H
   by_cases c5 : x9_1 < (l1.length : Int)
   ·
    rw [if_pos c5] at H
    have c5b0 : decide (x9_1 < (l1.length : Int)) = true := decide_eq_true c5
    clear c5
    by_cases c6 : 0 ≤ x9_1
    ·
     rw [if_pos c6] at H
     have c6b0 : decide (0 ≤ x9_1) = true := decide_eq_true c6
     clear c6
     by_cases c7 : (wrap64 (x8_1 * ((rd_L7 l1 x9_1).length : Int))) > a2
     ·
      rw [if_pos c7] at H
      have c7b0 : decide (a2 < (wrap64 (x8_1 * ((rd_L7 l1 x9_1).length : Int)))) = true := decide_eq_true c7
      clear c7
      simp only [Option.some.injEq, Prod.mk.injEq] at H
      obtain ⟨rfl, rfl⟩ := H
      have p524 : 0 ≤ (x9_1 : Int) := dq_
      have q524 : x9_1 < (l1.length : Int) := dq_
      obtain ⟨ad524, A524_0, c524_0, e524, hx524_0, hl524_0, hi524_0⟩ := at_L7 HR1.out x9_1 p524 q524
      cases e524
      replace hx524_0 := (HB.out.cell (World.block_lt_of_cell? w _ hx524_0)).trans hx524_0
      have HC524_0 := Aside0.mk hl524_0
      clear hi524_0 hl524_0
      replace p524 := eq_true p524
      replace q524 := eq_true q524
      go_wp2
      go_ret2
      exact ⟨_, by first | rfl | (simp [errW_none, errW_some] <;> rfl) | (simp [*, errW_none, errW_some] <;> rfl), by first | exact Kd.S_nil _ _ _ _ _ | exact Kd.N_nil _ _ _ _ _ | exact Kd.V_nil _ _ _ _ _ | exact Kd.Q_nil _ _ _ _ _ | exact Kd.R_nil _ _ _ _ _, bel_⟩
     ·
      rw [if_neg c7] at H
      have c7b0 : decide (a2 < (wrap64 (x8_1 * ((rd_L7 l1 x9_1).length : Int)))) = false := decide_eq_false c7
      clear c7
      have H' := Aside0.mk H
      clear H
      have p524 : 0 ≤ (x9_1 : Int) := dq_
      have q524 : x9_1 < (l1.length : Int) := dq_
      obtain ⟨ad524, A524_0, c524_0, e524, hx524_0, hl524_0, hi524_0⟩ := at_L7 HR1.out x9_1 p524 q524
      cases e524
      replace hx524_0 := (HB.out.cell (World.block_lt_of_cell? w _ hx524_0)).trans hx524_0
      have HC524_0 := Aside0.mk hl524_0
      clear hi524_0 hl524_0
      replace p524 := eq_true p524
      replace q524 := eq_true q524
      go_wp2
      go_roundg k1
      case measure => have := HK1.out; omega
      case rel => exact ⟨(wrap64 (x8_1 * ((rd_L7 l1 x9_1).length : Int))), (wrap64 (x9_1 + 1)), eq_, eq_, H', ⟨by have := HK1.out; omega⟩, ⟨by refine vV_ ?_; exact HO_524003.out⟩, ⟨by refine vV_ ?_; exact HO_524004.out⟩, ⟨by refine vV_ ?_; exact HO_524005.out⟩, ⟨by refine vV_ ?_; exact HO_524007.out⟩, ⟨by refine bk_ ?_; exact BK523.out⟩, ⟨bel_⟩⟩
    ·
     rw [if_neg c6] at H
     exact absurd H (by simp)
   ·
    rw [if_neg c5] at H
    have c5b0 : decide (x9_1 < (l1.length : Int)) = false := decide_eq_false c5
    clear c5
    replace H := Option.bind_eq_some_iff.mp H
    obtain ⟨⟨t525, t526, t529, t532, t535, t538, t541, t542⟩, A80, H⟩ := H
    replace H : ((jigsawref09_Product.f k1 l1 a2).bind fun t546 => (jigsawref10_Solutions.l1 k1 t546 ([] : List (List Int)) 0 t525 t526 t529 t532 t535 t538 t541 t542)) = some (r1, r2) := H
    have A8 := Aside0.mk A80
    clear A80
    replace H := Option.bind_eq_some_iff.mp H
    obtain ⟨t546, A90, H⟩ := H
    replace H : (jigsawref10_Solutions.l1 k1 t546 ([] : List (List Int)) 0 t525 t526 t529 t532 t535 t538 t541 t542) = some (r1, r2) := H
    have A9 := Aside0.mk A90
    clear A90
    have H' := Aside0.mk H
    clear H
    obtain ⟨hcz10_0, hcz10_1, hcz10_2, hcz10_3, hcz10_4, hcz10_5, hcz10_6, hcz10_7, hfz10_0, hfz10_1, hfz10_2, hfz10_3, hfz10_4, hfz10_5, hfz10_6, hfz10_7⟩ := cel8_ BK523.out
    go_wp2_with (first | ((with_reducible refine gate_callee (f := 20) rfl ?_); refine goesL_ (some 32) rfl rfl Tryz.func20 (by kernel_rfl) rfl #[.agg #[.int .i64 a0_0, .slice A0_1 l0_1.length c0_1, .slice A0_2 l0_2.length c0_2, .slice A0_3 l0_3.length c0_3, .slice A0_4 l0_4.length c0_4, .slice A0_5 l0_5.length c0_5, .int .i64 a0_6, .slice A0_7 l0_7.length c0_7]] rfl ar_ ?_; (with_reducible refine (jigsawref10_Local.calls k1 a0_0 _ _ l0_1 _ _ l0_2 (fun k_ => (((P0_3_ k_ ∨ P0_4_ k_ ∨ P0_5_ k_ ∨ P0_7_ k_) ∨ w.heap.size ≤ k_) ∧ k_ ≠ gb523)) _ _ l0_3 (fun k_ => (((P0_3_ k_ ∨ P0_4_ k_ ∨ P0_5_ k_ ∨ P0_7_ k_) ∨ w.heap.size ≤ k_) ∧ k_ ≠ gb523)) _ _ l0_4 (fun k_ => (((P0_3_ k_ ∨ P0_4_ k_ ∨ P0_5_ k_ ∨ P0_7_ k_) ∨ w.heap.size ≤ k_) ∧ k_ ≠ gb523)) _ _ l0_5 a0_6 (fun k_ => (((P0_3_ k_ ∨ P0_4_ k_ ∨ P0_5_ k_ ∨ P0_7_ k_) ∨ w.heap.size ≤ k_) ∧ k_ ≠ gb523)) _ _ l0_7 t525 t526 t529 t532 t535 t538 t541 t542 _ ?_ ?_ ?_ ?_ ?_ ?_ ?_ ?_ A8.out).mono ?_); exact ca_ ((Kd.C_below HR0_1.out HB.out)); exact HC0_1.out; exact ca_ ((Kd.C_below HR0_2.out HB.out)); exact HC0_2.out; exact HO_524003.out; exact HO_524004.out; exact HO_524005.out; exact HO_524007.out; rintro e w11 ⟨v527, v530, v533, v536, v539, v543, rfl, ho0, ho1, ho2, ho3, ho4, ho5, hb⟩; refine ⟨_, rfl, ?_⟩; replace HO_524003 := Aside0.mk (Kd.V_mono (Kd.V_told (Kd.V_told (Kd.V_old (vV_ HO_524003.out) hb) (Kd.R_base ho0)) (Kd.R_base ho1)) (fun _ h_ => h_.1)); replace HO_524004 := Aside0.mk (Kd.V_mono (Kd.V_told (Kd.V_told (Kd.V_old (vV_ HO_524004.out) hb) (Kd.R_base ho0)) (Kd.R_base ho1)) (fun _ h_ => h_.1)); replace HO_524005 := Aside0.mk (Kd.V_mono (Kd.V_told (Kd.V_told (Kd.V_old (vV_ HO_524005.out) hb) (Kd.R_base ho0)) (Kd.R_base ho1)) (fun _ h_ => h_.1)); replace HO_524007 := Aside0.mk (Kd.V_mono (Kd.V_told (Kd.V_told (Kd.V_old (vV_ HO_524007.out) hb) (Kd.R_base ho0)) (Kd.R_base ho1)) (fun _ h_ => h_.1)); have HO528 := Aside0.mk (Kd.R_lower (Kd.R_newM (M := fun k_ => (w.heap.size ≤ k_)) (Kd.R_mono (ok' := fun k_ => some k_ ≠ (v530 : Value).ownBlock) ho0 (fun _ hk_ => hk_.2)) (below_size bel_) (fun k_ h_ => h_)) (below_size bel_)); have HO531 := Aside0.mk (Kd.R_lower (Kd.R_newM (M := fun k_ => (w.heap.size ≤ k_)) (Kd.R_mono (ok' := fun k_ => some k_ ≠ (v527 : Value).ownBlock) ho1 (fun _ hk_ => hk_.2)) (below_size bel_) (fun k_ h_ => h_)) (below_size bel_)); have HO534 := Aside0.mk (Kd.V_lower (Kd.V_mono (ok' := fun k_ => ((P0_3_ k_ ∨ P0_4_ k_ ∨ P0_5_ k_ ∨ P0_7_ k_) ∨ w.heap.size ≤ k_) ∧ some k_ ≠ (v527 : Value).ownBlock ∧ some k_ ≠ (v530 : Value).ownBlock ∧ k_ ≠ gb523) ho2 (fun k_ hk_ => ⟨Or.elim hk_.1 (fun hs_ => Or.elim hs_ (fun hs_ => hs_.1) (fun hs_ => Or.elim hs_ (fun hs_ => hs_.1) (fun hs_ => Or.elim hs_ (fun hs_ => hs_.1) (fun hs_ => hs_.1)))) (fun hn_ => (.inr (Nat.le_trans (below_size bel_) hn_))), hk_.2.1, hk_.2.2, Or.elim hk_.1 (fun hs_ => Or.elim hs_ (fun hs_ => hs_.2) (fun hs_ => Or.elim hs_ (fun hs_ => hs_.2) (fun hs_ => Or.elim hs_ (fun hs_ => hs_.2) (fun hs_ => hs_.2)))) (fun hn_ => (Kd.freshB (bk_ BK523.out) k_ hn_))⟩)) (below_size bel_)); have HO537 := Aside0.mk (Kd.V_lower (Kd.V_mono (ok' := fun k_ => ((P0_3_ k_ ∨ P0_4_ k_ ∨ P0_5_ k_ ∨ P0_7_ k_) ∨ w.heap.size ≤ k_) ∧ some k_ ≠ (v527 : Value).ownBlock ∧ some k_ ≠ (v530 : Value).ownBlock ∧ k_ ≠ gb523) ho3 (fun k_ hk_ => ⟨Or.elim hk_.1 (fun hs_ => Or.elim hs_ (fun hs_ => hs_.1) (fun hs_ => Or.elim hs_ (fun hs_ => hs_.1) (fun hs_ => Or.elim hs_ (fun hs_ => hs_.1) (fun hs_ => hs_.1)))) (fun hn_ => (.inr (Nat.le_trans (below_size bel_) hn_))), hk_.2.1, hk_.2.2, Or.elim hk_.1 (fun hs_ => Or.elim hs_ (fun hs_ => hs_.2) (fun hs_ => Or.elim hs_ (fun hs_ => hs_.2) (fun hs_ => Or.elim hs_ (fun hs_ => hs_.2) (fun hs_ => hs_.2)))) (fun hn_ => (Kd.freshB (bk_ BK523.out) k_ hn_))⟩)) (below_size bel_)); have HO540 := Aside0.mk (Kd.V_lower (Kd.V_mono (ok' := fun k_ => ((P0_3_ k_ ∨ P0_4_ k_ ∨ P0_5_ k_ ∨ P0_7_ k_) ∨ w.heap.size ≤ k_) ∧ some k_ ≠ (v527 : Value).ownBlock ∧ some k_ ≠ (v530 : Value).ownBlock ∧ k_ ≠ gb523) ho4 (fun k_ hk_ => ⟨Or.elim hk_.1 (fun hs_ => Or.elim hs_ (fun hs_ => hs_.1) (fun hs_ => Or.elim hs_ (fun hs_ => hs_.1) (fun hs_ => Or.elim hs_ (fun hs_ => hs_.1) (fun hs_ => hs_.1)))) (fun hn_ => (.inr (Nat.le_trans (below_size bel_) hn_))), hk_.2.1, hk_.2.2, Or.elim hk_.1 (fun hs_ => Or.elim hs_ (fun hs_ => hs_.2) (fun hs_ => Or.elim hs_ (fun hs_ => hs_.2) (fun hs_ => Or.elim hs_ (fun hs_ => hs_.2) (fun hs_ => hs_.2)))) (fun hn_ => (Kd.freshB (bk_ BK523.out) k_ hn_))⟩)) (below_size bel_)); have HO544 := Aside0.mk (Kd.V_lower (Kd.V_mono (ok' := fun k_ => ((P0_3_ k_ ∨ P0_4_ k_ ∨ P0_5_ k_ ∨ P0_7_ k_) ∨ w.heap.size ≤ k_) ∧ some k_ ≠ (v527 : Value).ownBlock ∧ some k_ ≠ (v530 : Value).ownBlock ∧ k_ ≠ gb523) ho5 (fun k_ hk_ => ⟨Or.elim hk_.1 (fun hs_ => Or.elim hs_ (fun hs_ => hs_.1) (fun hs_ => Or.elim hs_ (fun hs_ => hs_.1) (fun hs_ => Or.elim hs_ (fun hs_ => hs_.1) (fun hs_ => hs_.1)))) (fun hn_ => (.inr (Nat.le_trans (below_size bel_) hn_))), hk_.2.1, hk_.2.2, Or.elim hk_.1 (fun hs_ => Or.elim hs_ (fun hs_ => hs_.2) (fun hs_ => Or.elim hs_ (fun hs_ => hs_.2) (fun hs_ => Or.elim hs_ (fun hs_ => hs_.2) (fun hs_ => hs_.2)))) (fun hn_ => (Kd.freshB (bk_ BK523.out) k_ hn_))⟩)) (below_size bel_)); replace BK523 := Aside0.mk (blk_below (bk_ BK523.out) hb); replace HB := Aside0.mk (below_step bel_ hb); clear hb ho0 ho1 ho2 ho3 ho4 ho5) | ((with_reducible refine gate_dst (N := 10) rfl ?_); refine bxe_ (N := 10) (cs := #[.int .i64 0, .slice none 0 0, .slice none 0 0, .slice none 0 0, .slice none 0 0, .slice none 0 0, .int .i64 0, .slice none 0 0]) (t := 32) ?_; intro gb545 hg w12 hbox hb; replace HO_524003 := Aside0.mk (Kd.V_below (Kd.V_elderB (vV_ HO_524003.out) gb545 (Nat.le_of_eq hg.symm)) hb); replace HO_524004 := Aside0.mk (Kd.V_below (Kd.V_elderB (vV_ HO_524004.out) gb545 (Nat.le_of_eq hg.symm)) hb); replace HO_524005 := Aside0.mk (Kd.V_below (Kd.V_elderB (vV_ HO_524005.out) gb545 (Nat.le_of_eq hg.symm)) hb); replace HO_524007 := Aside0.mk (Kd.V_below (Kd.V_elderB (vV_ HO_524007.out) gb545 (Nat.le_of_eq hg.symm)) hb); replace HO528 := Aside0.mk (Kd.R_below (vR_ HO528.out) hb); replace HO531 := Aside0.mk (Kd.R_below (vR_ HO531.out) hb); replace HO534 := Aside0.mk (Kd.V_below (Kd.V_elderB (vV_ HO534.out) gb545 (Nat.le_of_eq hg.symm)) hb); replace HO537 := Aside0.mk (Kd.V_below (Kd.V_elderB (vV_ HO537.out) gb545 (Nat.le_of_eq hg.symm)) hb); replace HO540 := Aside0.mk (Kd.V_below (Kd.V_elderB (vV_ HO540.out) gb545 (Nat.le_of_eq hg.symm)) hb); replace HO544 := Aside0.mk (Kd.V_below (Kd.V_elderB (vV_ HO544.out) gb545 (Nat.le_of_eq hg.symm)) hb); have BK545 := Aside0.mk (hbox); have GW545 := Aside0.mk (by rw [hg]; exact (below_size bel_) : w.heap.size ≤ gb545); have GE545 := GW545; replace HB := Aside0.mk (below_step bel_ hb); have NB523_545 := Aside0.mk ((by rw [hg]; exact Nat.ne_of_lt (blk_lt (bk_ BK523.out)) : gb523 ≠ gb545)); have NB545_523 := Aside0.mk ((by rw [hg]; exact Nat.ne_of_gt (blk_lt (bk_ BK523.out)) : gb545 ≠ gb523)); replace BK523 := Aside0.mk (blk_below (bk_ BK523.out) hb); clear hb hbox hg; have hnb13 := NB545_523.out; have hnc13 := NB523_545.out; obtain ⟨hcz14_0, hcz14_1, hcz14_2, hcz14_3, hcz14_4, hcz14_5, hcz14_6, hcz14_7, hfz14_0, hfz14_1, hfz14_2, hfz14_3, hfz14_4, hfz14_5, hfz14_6, hfz14_7⟩ := cel8_ BK545.out; obtain ⟨Ao15, co15, eo15⟩ := Kd.R_slice HO528.out; subst eo15; obtain ⟨Ao16, co16, eo16⟩ := Kd.R_slice HO531.out; subst eo16; obtain ⟨Ao17, co17, eo17⟩ := Kd.V_slice HO534.out; subst eo17; obtain ⟨Ao18, co18, eo18⟩ := Kd.V_slice HO537.out; subst eo18; obtain ⟨Ao19, co19, eo19⟩ := Kd.V_slice HO540.out; subst eo19; obtain ⟨Ao20, co20, eo20⟩ := Kd.V_slice HO544.out; subst eo20) | ((with_reducible refine gate_callee (f := 34) rfl ?_); refine goesL_ (some 35) rfl rfl Tryz.func34 (by kernel_rfl) rfl #[.slice A1 l1.length c1, .int .i64 a2] rfl ar_ ?_; (with_reducible refine (jigsawref09_Product.calls k1 _ _ l1 a2 t546 _ ?_ ?_ A9.out).mono ?_); exact Kd.C_below HR1.out bel_; exact HC1.out; rintro e w21 ⟨v547, rfl, ho0, hb⟩; refine ⟨_, rfl, ?_⟩; replace HO_524003 := Aside0.mk (Kd.V_elder' (by refine vV_ ?_; exact (Kd.V_mono (Kd.V_far (Kd.V_far (Kd.V_far (Kd.V_far (Kd.V_far (Kd.V_far (Kd.V_far (Kd.V_far (Kd.V_mono HO_524003.out (fun k_ hk => (⟨hk, hk.2⟩ : _ ∧ k_ ≠ gb545))) (fun _ hk => hk.2) _) (fun _ hk => hk.2) _) (fun _ hk => hk.2) _) (fun _ hk => hk.2) _) (fun _ hk => hk.2) _) (fun _ hk => hk.2) _) (fun _ hk => hk.2) _) (fun _ hk => hk.2) _) (fun _ h_ => h_.1))) (Kd.N_base (Kd.S_N ho0)) hb); replace HO_524004 := Aside0.mk (Kd.V_elder' (by refine vV_ ?_; exact (Kd.V_mono (Kd.V_far (Kd.V_far (Kd.V_far (Kd.V_far (Kd.V_far (Kd.V_far (Kd.V_far (Kd.V_far (Kd.V_mono HO_524004.out (fun k_ hk => (⟨hk, hk.2⟩ : _ ∧ k_ ≠ gb545))) (fun _ hk => hk.2) _) (fun _ hk => hk.2) _) (fun _ hk => hk.2) _) (fun _ hk => hk.2) _) (fun _ hk => hk.2) _) (fun _ hk => hk.2) _) (fun _ hk => hk.2) _) (fun _ hk => hk.2) _) (fun _ h_ => h_.1))) (Kd.N_base (Kd.S_N ho0)) hb); replace HO_524005 := Aside0.mk (Kd.V_elder' (by refine vV_ ?_; exact (Kd.V_mono (Kd.V_far (Kd.V_far (Kd.V_far (Kd.V_far (Kd.V_far (Kd.V_far (Kd.V_far (Kd.V_far (Kd.V_mono HO_524005.out (fun k_ hk => (⟨hk, hk.2⟩ : _ ∧ k_ ≠ gb545))) (fun _ hk => hk.2) _) (fun _ hk => hk.2) _) (fun _ hk => hk.2) _) (fun _ hk => hk.2) _) (fun _ hk => hk.2) _) (fun _ hk => hk.2) _) (fun _ hk => hk.2) _) (fun _ hk => hk.2) _) (fun _ h_ => h_.1))) (Kd.N_base (Kd.S_N ho0)) hb); replace HO_524007 := Aside0.mk (Kd.V_elder' (by refine vV_ ?_; exact (Kd.V_mono (Kd.V_far (Kd.V_far (Kd.V_far (Kd.V_far (Kd.V_far (Kd.V_far (Kd.V_far (Kd.V_far (Kd.V_mono HO_524007.out (fun k_ hk => (⟨hk, hk.2⟩ : _ ∧ k_ ≠ gb545))) (fun _ hk => hk.2) _) (fun _ hk => hk.2) _) (fun _ hk => hk.2) _) (fun _ hk => hk.2) _) (fun _ hk => hk.2) _) (fun _ hk => hk.2) _) (fun _ hk => hk.2) _) (fun _ hk => hk.2) _) (fun _ h_ => h_.1))) (Kd.N_base (Kd.S_N ho0)) hb); replace HO534 := Aside0.mk (Kd.V_elder' (by refine vV_ ?_; exact (Kd.V_mono (Kd.V_far (Kd.V_far (Kd.V_far (Kd.V_far (Kd.V_far (Kd.V_far (Kd.V_far (Kd.V_far (Kd.V_mono HO534.out (fun k_ hk => (⟨hk, hk.2⟩ : _ ∧ k_ ≠ gb545))) (fun _ hk => hk.2) _) (fun _ hk => hk.2) _) (fun _ hk => hk.2) _) (fun _ hk => hk.2) _) (fun _ hk => hk.2) _) (fun _ hk => hk.2) _) (fun _ hk => hk.2) _) (fun _ hk => hk.2) _) (fun _ h_ => h_.1))) (Kd.N_base (Kd.S_N ho0)) hb); replace HO537 := Aside0.mk (Kd.V_elder' (by refine vV_ ?_; exact (Kd.V_mono (Kd.V_far (Kd.V_far (Kd.V_far (Kd.V_far (Kd.V_far (Kd.V_far (Kd.V_far (Kd.V_far (Kd.V_mono HO537.out (fun k_ hk => (⟨hk, hk.2⟩ : _ ∧ k_ ≠ gb545))) (fun _ hk => hk.2) _) (fun _ hk => hk.2) _) (fun _ hk => hk.2) _) (fun _ hk => hk.2) _) (fun _ hk => hk.2) _) (fun _ hk => hk.2) _) (fun _ hk => hk.2) _) (fun _ hk => hk.2) _) (fun _ h_ => h_.1))) (Kd.N_base (Kd.S_N ho0)) hb); replace HO540 := Aside0.mk (Kd.V_elder' (by refine vV_ ?_; exact (Kd.V_mono (Kd.V_far (Kd.V_far (Kd.V_far (Kd.V_far (Kd.V_far (Kd.V_far (Kd.V_far (Kd.V_far (Kd.V_mono HO540.out (fun k_ hk => (⟨hk, hk.2⟩ : _ ∧ k_ ≠ gb545))) (fun _ hk => hk.2) _) (fun _ hk => hk.2) _) (fun _ hk => hk.2) _) (fun _ hk => hk.2) _) (fun _ hk => hk.2) _) (fun _ hk => hk.2) _) (fun _ hk => hk.2) _) (fun _ hk => hk.2) _) (fun _ h_ => h_.1))) (Kd.N_base (Kd.S_N ho0)) hb); replace HO544 := Aside0.mk (Kd.V_elder' (by refine vV_ ?_; exact (Kd.V_mono (Kd.V_far (Kd.V_far (Kd.V_far (Kd.V_far (Kd.V_far (Kd.V_far (Kd.V_far (Kd.V_far (Kd.V_mono HO544.out (fun k_ hk => (⟨hk, hk.2⟩ : _ ∧ k_ ≠ gb545))) (fun _ hk => hk.2) _) (fun _ hk => hk.2) _) (fun _ hk => hk.2) _) (fun _ hk => hk.2) _) (fun _ hk => hk.2) _) (fun _ hk => hk.2) _) (fun _ hk => hk.2) _) (fun _ hk => hk.2) _) (fun _ h_ => h_.1))) (Kd.N_base (Kd.S_N ho0)) hb); have HO548 := Aside0.mk (Kd.N_lower (Kd.N_mono (ok' := fun k_ => ((P0_3_ k_ ∨ P0_4_ k_ ∨ P0_5_ k_ ∨ P0_7_ k_) ∨ w.heap.size ≤ k_) ∧ some k_ ≠ (.slice Ao15 t526.length co15 : Value).ownBlock ∧ some k_ ≠ (.slice Ao16 t529.length co16 : Value).ownBlock ∧ k_ ≠ gb523 ∧ k_ ≠ gb545) (Kd.S_N (Kd.S_bound ho0)) (fun k_ hk_ => ⟨(.inr (Nat.le_trans (below_size bel_) hk_.2.1)), (Kd.fresh' (Kd.R_lt (by refine vR_ ?_; exact (Kd.R_mono (Kd.R_far (Kd.R_far (Kd.R_far (Kd.R_far (Kd.R_far (Kd.R_far (Kd.R_far (Kd.R_far (Kd.R_types HO528.out BK545.out (by decide)) (fun _ hk => hk.2) _) (fun _ hk => hk.2) _) (fun _ hk => hk.2) _) (fun _ hk => hk.2) _) (fun _ hk => hk.2) _) (fun _ hk => hk.2) _) (fun _ hk => hk.2) _) (fun _ hk => hk.2) _) (fun _ h_ => h_.1)))) k_ hk_.2.1), (Kd.fresh' (Kd.R_lt (by refine vR_ ?_; exact (Kd.R_mono (Kd.R_far (Kd.R_far (Kd.R_far (Kd.R_far (Kd.R_far (Kd.R_far (Kd.R_far (Kd.R_far (Kd.R_types HO531.out BK545.out (by decide)) (fun _ hk => hk.2) _) (fun _ hk => hk.2) _) (fun _ hk => hk.2) _) (fun _ hk => hk.2) _) (fun _ hk => hk.2) _) (fun _ hk => hk.2) _) (fun _ hk => hk.2) _) (fun _ hk => hk.2) _) (fun _ h_ => h_.1)))) k_ hk_.2.1), (Kd.freshB (g := gb523) (o := .cells #[.int .i64 a0_0, .slice A0_1 l0_1.length c0_1, .slice A0_2 l0_2.length c0_2, .slice A0_3 l0_3.length c0_3, .slice A0_4 l0_4.length c0_4, .slice A0_5 l0_5.length c0_5, .int .i64 a0_6, .slice A0_7 l0_7.length c0_7] 32 (0, 0)) (by refine bk_ ?_; refine blk_far ?_ NB523_545.out _; refine bk_ ?_; refine blk_far ?_ NB523_545.out _; refine bk_ ?_; refine blk_far ?_ NB523_545.out _; refine bk_ ?_; refine blk_far ?_ NB523_545.out _; refine bk_ ?_; refine blk_far ?_ NB523_545.out _; refine bk_ ?_; refine blk_far ?_ NB523_545.out _; refine bk_ ?_; refine blk_far ?_ NB523_545.out _; refine bk_ ?_; refine blk_far ?_ NB523_545.out _; refine bk_ ?_; exact BK523.out) k_ hk_.2.1), (Kd.freshB (g := gb545) (o := .cells #[.int .i64 t525, .slice Ao15 t526.length co15, .slice Ao16 t529.length co16, .slice Ao17 t532.length co17, .slice Ao18 t535.length co18, .slice Ao19 t538.length co19, .int .i64 t541, .slice Ao20 t542.length co20] 32 (0, 0)) (by refine bk_ ?_; refine blk_put (cs := #[.int .i64 t525, .slice Ao15 t526.length co15, .slice Ao16 t529.length co16, .slice Ao17 t532.length co17, .slice Ao18 t535.length co18, .slice Ao19 t538.length co19, .int .i64 t541, .slice none 0 0]) ?_ 7 _ rfl; refine bk_ ?_; refine blk_put (cs := #[.int .i64 t525, .slice Ao15 t526.length co15, .slice Ao16 t529.length co16, .slice Ao17 t532.length co17, .slice Ao18 t535.length co18, .slice Ao19 t538.length co19, .int .i64 0, .slice none 0 0]) ?_ 6 _ rfl; refine bk_ ?_; refine blk_put (cs := #[.int .i64 t525, .slice Ao15 t526.length co15, .slice Ao16 t529.length co16, .slice Ao17 t532.length co17, .slice Ao18 t535.length co18, .slice none 0 0, .int .i64 0, .slice none 0 0]) ?_ 5 _ rfl; refine bk_ ?_; refine blk_put (cs := #[.int .i64 t525, .slice Ao15 t526.length co15, .slice Ao16 t529.length co16, .slice Ao17 t532.length co17, .slice none 0 0, .slice none 0 0, .int .i64 0, .slice none 0 0]) ?_ 4 _ rfl; refine bk_ ?_; refine blk_put (cs := #[.int .i64 t525, .slice Ao15 t526.length co15, .slice Ao16 t529.length co16, .slice none 0 0, .slice none 0 0, .slice none 0 0, .int .i64 0, .slice none 0 0]) ?_ 3 _ rfl; refine bk_ ?_; refine blk_put (cs := #[.int .i64 t525, .slice Ao15 t526.length co15, .slice none 0 0, .slice none 0 0, .slice none 0 0, .slice none 0 0, .int .i64 0, .slice none 0 0]) ?_ 2 _ rfl; refine bk_ ?_; refine blk_put (cs := #[.int .i64 t525, .slice none 0 0, .slice none 0 0, .slice none 0 0, .slice none 0 0, .slice none 0 0, .int .i64 0, .slice none 0 0]) ?_ 1 _ rfl; refine bk_ ?_; refine blk_put (cs := #[.int .i64 0, .slice none 0 0, .slice none 0 0, .slice none 0 0, .slice none 0 0, .slice none 0 0, .int .i64 0, .slice none 0 0]) ?_ 0 _ rfl; refine bk_ ?_; exact BK545.out) k_ hk_.2.1)⟩)) (below_size bel_)); replace HO528 := Aside0.mk (Kd.R_below (by refine vR_ ?_; exact (Kd.R_mono (Kd.R_far (Kd.R_far (Kd.R_far (Kd.R_far (Kd.R_far (Kd.R_far (Kd.R_far (Kd.R_far (Kd.R_types HO528.out BK545.out (by decide)) (fun _ hk => hk.2) _) (fun _ hk => hk.2) _) (fun _ hk => hk.2) _) (fun _ hk => hk.2) _) (fun _ hk => hk.2) _) (fun _ hk => hk.2) _) (fun _ hk => hk.2) _) (fun _ hk => hk.2) _) (fun _ h_ => h_.1))) hb); replace HO531 := Aside0.mk (Kd.R_below (by refine vR_ ?_; exact (Kd.R_mono (Kd.R_far (Kd.R_far (Kd.R_far (Kd.R_far (Kd.R_far (Kd.R_far (Kd.R_far (Kd.R_far (Kd.R_types HO531.out BK545.out (by decide)) (fun _ hk => hk.2) _) (fun _ hk => hk.2) _) (fun _ hk => hk.2) _) (fun _ hk => hk.2) _) (fun _ hk => hk.2) _) (fun _ hk => hk.2) _) (fun _ hk => hk.2) _) (fun _ hk => hk.2) _) (fun _ h_ => h_.1))) hb); replace BK523 := Aside0.mk (blk_below (g := gb523) (o := .cells #[.int .i64 a0_0, .slice A0_1 l0_1.length c0_1, .slice A0_2 l0_2.length c0_2, .slice A0_3 l0_3.length c0_3, .slice A0_4 l0_4.length c0_4, .slice A0_5 l0_5.length c0_5, .int .i64 a0_6, .slice A0_7 l0_7.length c0_7] 32 (0, 0)) (by refine bk_ ?_; refine blk_far ?_ NB523_545.out _; refine bk_ ?_; refine blk_far ?_ NB523_545.out _; refine bk_ ?_; refine blk_far ?_ NB523_545.out _; refine bk_ ?_; refine blk_far ?_ NB523_545.out _; refine bk_ ?_; refine blk_far ?_ NB523_545.out _; refine bk_ ?_; refine blk_far ?_ NB523_545.out _; refine bk_ ?_; refine blk_far ?_ NB523_545.out _; refine bk_ ?_; refine blk_far ?_ NB523_545.out _; refine bk_ ?_; exact BK523.out) hb); replace BK545 := Aside0.mk (blk_below (g := gb545) (o := .cells #[.int .i64 t525, .slice Ao15 t526.length co15, .slice Ao16 t529.length co16, .slice Ao17 t532.length co17, .slice Ao18 t535.length co18, .slice Ao19 t538.length co19, .int .i64 t541, .slice Ao20 t542.length co20] 32 (0, 0)) (by refine bk_ ?_; refine blk_put (cs := #[.int .i64 t525, .slice Ao15 t526.length co15, .slice Ao16 t529.length co16, .slice Ao17 t532.length co17, .slice Ao18 t535.length co18, .slice Ao19 t538.length co19, .int .i64 t541, .slice none 0 0]) ?_ 7 _ rfl; refine bk_ ?_; refine blk_put (cs := #[.int .i64 t525, .slice Ao15 t526.length co15, .slice Ao16 t529.length co16, .slice Ao17 t532.length co17, .slice Ao18 t535.length co18, .slice Ao19 t538.length co19, .int .i64 0, .slice none 0 0]) ?_ 6 _ rfl; refine bk_ ?_; refine blk_put (cs := #[.int .i64 t525, .slice Ao15 t526.length co15, .slice Ao16 t529.length co16, .slice Ao17 t532.length co17, .slice Ao18 t535.length co18, .slice none 0 0, .int .i64 0, .slice none 0 0]) ?_ 5 _ rfl; refine bk_ ?_; refine blk_put (cs := #[.int .i64 t525, .slice Ao15 t526.length co15, .slice Ao16 t529.length co16, .slice Ao17 t532.length co17, .slice none 0 0, .slice none 0 0, .int .i64 0, .slice none 0 0]) ?_ 4 _ rfl; refine bk_ ?_; refine blk_put (cs := #[.int .i64 t525, .slice Ao15 t526.length co15, .slice Ao16 t529.length co16, .slice none 0 0, .slice none 0 0, .slice none 0 0, .int .i64 0, .slice none 0 0]) ?_ 3 _ rfl; refine bk_ ?_; refine blk_put (cs := #[.int .i64 t525, .slice Ao15 t526.length co15, .slice none 0 0, .slice none 0 0, .slice none 0 0, .slice none 0 0, .int .i64 0, .slice none 0 0]) ?_ 2 _ rfl; refine bk_ ?_; refine blk_put (cs := #[.int .i64 t525, .slice none 0 0, .slice none 0 0, .slice none 0 0, .slice none 0 0, .slice none 0 0, .int .i64 0, .slice none 0 0]) ?_ 1 _ rfl; refine bk_ ?_; refine blk_put (cs := #[.int .i64 0, .slice none 0 0, .slice none 0 0, .slice none 0 0, .slice none 0 0, .slice none 0 0, .int .i64 0, .slice none 0 0]) ?_ 0 _ rfl; refine bk_ ?_; exact BK545.out) hb); replace HB := Aside0.mk (below_step bel_ hb); clear hb ho0))
    go_loopg [12, 13] k1 (fun kq v12 v13 w' => ∃ (x12_2 : List (List Int)) (x13_2 : Int), v13 = .int .i64 x13_2 ∧ Aside0 (jigsawref10_Solutions.l1 kq t546 x12_2 x13_2 t525 t526 t529 t532 t535 t538 t541 t542 = some (r1, r2)) ∧ Aside0 (kq ≤ k1) ∧ Aside0 (Kd.N (Kd.slice 3 (Kd.int .i64)) 30 w' w.heap.size (fun k_ => ((P0_3_ k_ ∨ P0_4_ k_ ∨ P0_5_ k_ ∨ P0_7_ k_) ∨ w.heap.size ≤ k_) ∧ some k_ ≠ (v12 : Value).ownBlock ∧ some k_ ≠ ((.slice Ao15 t526.length co15) : Value).ownBlock ∧ some k_ ≠ ((.slice Ao16 t529.length co16) : Value).ownBlock ∧ k_ ≠ gb523 ∧ k_ ≠ gb545) v547 t546) ∧ Aside0 (Kd.N (Kd.slice 3 (Kd.int .i64)) 30 w' w.heap.size (fun k_ => ((P0_3_ k_ ∨ P0_4_ k_ ∨ P0_5_ k_ ∨ P0_7_ k_) ∨ w.heap.size ≤ k_) ∧ some k_ ≠ (v547 : Value).ownBlock ∧ some k_ ≠ ((.slice Ao15 t526.length co15) : Value).ownBlock ∧ some k_ ≠ ((.slice Ao16 t529.length co16) : Value).ownBlock ∧ k_ ≠ gb523 ∧ k_ ≠ gb545) v12 x12_2) ∧ Aside0 (Kd.V (Kd.int .i64) 3 w' w.heap.size (fun k_ => ((P0_3_ k_ ∨ P0_4_ k_ ∨ P0_5_ k_ ∨ P0_7_ k_) ∨ w.heap.size ≤ k_) ∧ some k_ ≠ (v547 : Value).ownBlock ∧ some k_ ≠ (v12 : Value).ownBlock ∧ some k_ ≠ ((.slice Ao15 t526.length co15) : Value).ownBlock ∧ some k_ ≠ ((.slice Ao16 t529.length co16) : Value).ownBlock ∧ k_ ≠ gb523 ∧ k_ ≠ gb545) (.slice A0_3 l0_3.length c0_3) l0_3) ∧ Aside0 (Kd.V (Kd.int .i64) 3 w' w.heap.size (fun k_ => ((P0_3_ k_ ∨ P0_4_ k_ ∨ P0_5_ k_ ∨ P0_7_ k_) ∨ w.heap.size ≤ k_) ∧ some k_ ≠ (v547 : Value).ownBlock ∧ some k_ ≠ (v12 : Value).ownBlock ∧ some k_ ≠ ((.slice Ao15 t526.length co15) : Value).ownBlock ∧ some k_ ≠ ((.slice Ao16 t529.length co16) : Value).ownBlock ∧ k_ ≠ gb523 ∧ k_ ≠ gb545) (.slice A0_4 l0_4.length c0_4) l0_4) ∧ Aside0 (Kd.V (Kd.int .i64) 3 w' w.heap.size (fun k_ => ((P0_3_ k_ ∨ P0_4_ k_ ∨ P0_5_ k_ ∨ P0_7_ k_) ∨ w.heap.size ≤ k_) ∧ some k_ ≠ (v547 : Value).ownBlock ∧ some k_ ≠ (v12 : Value).ownBlock ∧ some k_ ≠ ((.slice Ao15 t526.length co15) : Value).ownBlock ∧ some k_ ≠ ((.slice Ao16 t529.length co16) : Value).ownBlock ∧ k_ ≠ gb523 ∧ k_ ≠ gb545) (.slice A0_5 l0_5.length c0_5) l0_5) ∧ Aside0 (Kd.V (Kd.slice 3 (Kd.int .i64)) 30 w' w.heap.size (fun k_ => ((P0_3_ k_ ∨ P0_4_ k_ ∨ P0_5_ k_ ∨ P0_7_ k_) ∨ w.heap.size ≤ k_) ∧ some k_ ≠ (v547 : Value).ownBlock ∧ some k_ ≠ (v12 : Value).ownBlock ∧ some k_ ≠ ((.slice Ao15 t526.length co15) : Value).ownBlock ∧ some k_ ≠ ((.slice Ao16 t529.length co16) : Value).ownBlock ∧ k_ ≠ gb523 ∧ k_ ≠ gb545) (.slice A0_7 l0_7.length c0_7) l0_7) ∧ Aside0 (Kd.R (Kd.int .i64) 3 w' w.heap.size (fun k_ => (w.heap.size ≤ k_) ∧ some k_ ≠ ((.slice Ao16 t529.length co16) : Value).ownBlock) (.slice Ao15 t526.length co15) t526) ∧ Aside0 (Kd.R (Kd.int .i64) 3 w' w.heap.size (fun k_ => (w.heap.size ≤ k_) ∧ some k_ ≠ ((.slice Ao15 t526.length co15) : Value).ownBlock) (.slice Ao16 t529.length co16) t529) ∧ Aside0 (Kd.V (Kd.int .i64) 3 w' w.heap.size (fun k_ => ((P0_3_ k_ ∨ P0_4_ k_ ∨ P0_5_ k_ ∨ P0_7_ k_) ∨ w.heap.size ≤ k_) ∧ some k_ ≠ (v547 : Value).ownBlock ∧ some k_ ≠ (v12 : Value).ownBlock ∧ some k_ ≠ ((.slice Ao15 t526.length co15) : Value).ownBlock ∧ some k_ ≠ ((.slice Ao16 t529.length co16) : Value).ownBlock ∧ k_ ≠ gb523 ∧ k_ ≠ gb545) (.slice Ao17 t532.length co17) t532) ∧ Aside0 (Kd.V (Kd.int .i64) 3 w' w.heap.size (fun k_ => ((P0_3_ k_ ∨ P0_4_ k_ ∨ P0_5_ k_ ∨ P0_7_ k_) ∨ w.heap.size ≤ k_) ∧ some k_ ≠ (v547 : Value).ownBlock ∧ some k_ ≠ (v12 : Value).ownBlock ∧ some k_ ≠ ((.slice Ao15 t526.length co15) : Value).ownBlock ∧ some k_ ≠ ((.slice Ao16 t529.length co16) : Value).ownBlock ∧ k_ ≠ gb523 ∧ k_ ≠ gb545) (.slice Ao18 t535.length co18) t535) ∧ Aside0 (Kd.V (Kd.int .i64) 3 w' w.heap.size (fun k_ => ((P0_3_ k_ ∨ P0_4_ k_ ∨ P0_5_ k_ ∨ P0_7_ k_) ∨ w.heap.size ≤ k_) ∧ some k_ ≠ (v547 : Value).ownBlock ∧ some k_ ≠ (v12 : Value).ownBlock ∧ some k_ ≠ ((.slice Ao15 t526.length co15) : Value).ownBlock ∧ some k_ ≠ ((.slice Ao16 t529.length co16) : Value).ownBlock ∧ k_ ≠ gb523 ∧ k_ ≠ gb545) (.slice Ao19 t538.length co19) t538) ∧ Aside0 (Kd.V (Kd.slice 3 (Kd.int .i64)) 30 w' w.heap.size (fun k_ => ((P0_3_ k_ ∨ P0_4_ k_ ∨ P0_5_ k_ ∨ P0_7_ k_) ∨ w.heap.size ≤ k_) ∧ some k_ ≠ (v547 : Value).ownBlock ∧ some k_ ≠ (v12 : Value).ownBlock ∧ some k_ ≠ ((.slice Ao15 t526.length co15) : Value).ownBlock ∧ some k_ ≠ ((.slice Ao16 t529.length co16) : Value).ownBlock ∧ k_ ≠ gb523 ∧ k_ ≠ gb545) (.slice Ao20 t542.length co20) t542) ∧ Aside0 (w'.heap[gb523]? = some (.cells #[.int .i64 a0_0, (.slice A0_1 l0_1.length c0_1), (.slice A0_2 l0_2.length c0_2), (.slice A0_3 l0_3.length c0_3), (.slice A0_4 l0_4.length c0_4), (.slice A0_5 l0_5.length c0_5), .int .i64 a0_6, (.slice A0_7 l0_7.length c0_7)] 32 (0, 0))) ∧ Aside0 (w'.heap[gb545]? = some (.cells #[.int .i64 t525, (.slice Ao15 t526.length co15), (.slice Ao16 t529.length co16), (.slice Ao17 t532.length co17), (.slice Ao18 t535.length co18), (.slice Ao19 t538.length co19), .int .i64 t541, (.slice Ao20 t542.length co20)] 32 (0, 0))) ∧ Aside0 (Below w.heap.size w w'))
    case atStart => exact ⟨(([] : List (List Int))), (0), eq_, H', ⟨Nat.le_refl _⟩, ⟨by refine vN_ ?_; exact Kd.N_mono HO548.out (fun _ hk => ⟨hk.1, ⟨(by simp [Value.ownBlock]), ⟨hk.2.1, ⟨hk.2.2.1, ⟨hk.2.2.2.1, hk.2.2.2.2⟩⟩⟩⟩⟩)⟩, ⟨nil_⟩, ⟨by refine vV_ ?_; exact Kd.V_mono HO_524003.out (fun _ hk => ⟨hk.1.1.1.1.1, ⟨hk.2, ⟨(by simp [Value.ownBlock]), ⟨hk.1.1.1.2, ⟨hk.1.1.2, ⟨hk.1.1.1.1.2, hk.1.2⟩⟩⟩⟩⟩⟩)⟩, ⟨by refine vV_ ?_; exact Kd.V_mono HO_524004.out (fun _ hk => ⟨hk.1.1.1.1.1, ⟨hk.2, ⟨(by simp [Value.ownBlock]), ⟨hk.1.1.1.2, ⟨hk.1.1.2, ⟨hk.1.1.1.1.2, hk.1.2⟩⟩⟩⟩⟩⟩)⟩, ⟨by refine vV_ ?_; exact Kd.V_mono HO_524005.out (fun _ hk => ⟨hk.1.1.1.1.1, ⟨hk.2, ⟨(by simp [Value.ownBlock]), ⟨hk.1.1.1.2, ⟨hk.1.1.2, ⟨hk.1.1.1.1.2, hk.1.2⟩⟩⟩⟩⟩⟩)⟩, ⟨by refine vV_ ?_; exact Kd.V_mono HO_524007.out (fun _ hk => ⟨hk.1.1.1.1.1, ⟨hk.2, ⟨(by simp [Value.ownBlock]), ⟨hk.1.1.1.2, ⟨hk.1.1.2, ⟨hk.1.1.1.1.2, hk.1.2⟩⟩⟩⟩⟩⟩)⟩, ⟨by refine vR_ ?_; exact HO528.out⟩, ⟨by refine vR_ ?_; exact HO531.out⟩, ⟨by refine vV_ ?_; exact Kd.V_mono HO534.out (fun _ hk => ⟨hk.1.1.1, ⟨hk.2, ⟨(by simp [Value.ownBlock]), ⟨hk.1.1.2.1, ⟨hk.1.1.2.2.1, ⟨hk.1.1.2.2.2, hk.1.2⟩⟩⟩⟩⟩⟩)⟩, ⟨by refine vV_ ?_; exact Kd.V_mono HO537.out (fun _ hk => ⟨hk.1.1.1, ⟨hk.2, ⟨(by simp [Value.ownBlock]), ⟨hk.1.1.2.1, ⟨hk.1.1.2.2.1, ⟨hk.1.1.2.2.2, hk.1.2⟩⟩⟩⟩⟩⟩)⟩, ⟨by refine vV_ ?_; exact Kd.V_mono HO540.out (fun _ hk => ⟨hk.1.1.1, ⟨hk.2, ⟨(by simp [Value.ownBlock]), ⟨hk.1.1.2.1, ⟨hk.1.1.2.2.1, ⟨hk.1.1.2.2.2, hk.1.2⟩⟩⟩⟩⟩⟩)⟩, ⟨by refine vV_ ?_; exact Kd.V_mono HO544.out (fun _ hk => ⟨hk.1.1.1, ⟨hk.2, ⟨(by simp [Value.ownBlock]), ⟨hk.1.1.2.1, ⟨hk.1.1.2.2.1, ⟨hk.1.1.2.2.2, hk.1.2⟩⟩⟩⟩⟩⟩)⟩, ⟨by refine bk_ ?_; exact BK523.out⟩, ⟨by refine bk_ ?_; exact BK545.out⟩, ⟨bel_⟩⟩
    case round =>
     clear H'
     try clear c1
     try clear c2
     try clear p2
     try clear c3
     try clear c5
     try clear c5b0
     try clear p5
     try clear q5
     try clear hx5
     try clear c6
     try clear c6b0
     try clear p6
     try clear c7
     try clear c7b0
     try clear c13
     try clear c15
     try clear c20
     try clear hcz10_0
     try clear hcz10_1
     try clear hcz10_2
     try clear hcz10_3
     try clear hcz10_4
     try clear hcz10_5
     try clear hcz10_6
     try clear hcz10_7
     try clear hcz14_0
     try clear hcz14_1
     try clear hcz14_2
     try clear hcz14_3
     try clear hcz14_4
     try clear hcz14_5
     try clear hcz14_6
     try clear hcz14_7
     try clear hfz10_0
     try clear hfz10_1
     try clear hfz10_2
     try clear hfz10_3
     try clear hfz10_4
     try clear hfz10_5
     try clear hfz10_6
     try clear hfz10_7
     try clear hfz14_0
     try clear hfz14_1
     try clear hfz14_2
     try clear hfz14_3
     try clear hfz14_4
     try clear hfz14_5
     try clear hfz14_6
     try clear hfz14_7
     try clear hx524_0
     try clear p2
     try clear p524
     try clear q524
     obtain ⟨x12_2, x13_2, rfl, HA, HK2, HO_11, HO_12, HO_524003, HO_524004, HO_524005, HO_524007, HO_546001, HO_546002, HO_546003, HO_546004, HO_546005, HO_546007, BK523, BK545, HB⟩ := hrel
     cases gk with
     | zero => exact absurd HA.out (by simp [jigsawref10_Solutions.l1])
     | succ k2 =>
      have H := HA.out
      clear HA
      simp only [jigsawref10_Solutions.l1] at H
      by_cases c22 : x13_2 < (t546.length : Int)
      ·
       rw [if_pos c22] at H
       have c22b0 : decide (x13_2 < (t546.length : Int)) = true := decide_eq_true c22
       clear c22
       by_cases c23 : 0 ≤ x13_2
       ·
        rw [if_pos c23] at H
        have c23b0 : decide (0 ≤ x13_2) = true := decide_eq_true c23
        clear c23
        replace H := Option.bind_eq_some_iff.mp H
        obtain ⟨t550, A240, H⟩ := H
        replace H : (if t550 = true then (if x12_2.length < 5864062014805 then (jigsawref10_Solutions.l1 k2 t546 (x12_2 ++ [rd_L7 t546 x13_2]) (wrap64 (x13_2 + 1)) t525 t526 t529 t532 t535 t538 t541 t542) else (none)) else (jigsawref10_Solutions.l1 k2 t546 x12_2 (wrap64 (x13_2 + 1)) t525 t526 t529 t532 t535 t538 t541 t542)) = some (r1, r2) := H
        have A24 := Aside0.mk A240
        clear A240
        by_cases c25 : t550 = true
        ·
         subst c25
         have H1 : (if x12_2.length < 5864062014805 then (jigsawref10_Solutions.l1 k2 t546 (x12_2 ++ [rd_L7 t546 x13_2]) (wrap64 (x13_2 + 1)) t525 t526 t529 t532 t535 t538 t541 t542) else (none)) = some (r1, r2) := by rw [if_pos rfl] at H; exact H
         clear H
         have H := H1
         clear H1
         by_cases c26 : x12_2.length < 5864062014805
         ·
          rw [if_pos c26] at H
          have LMc26 := Aside0.mk c26
          clear c26
          obtain ⟨y552, hy552⟩ : ∃ y_ : List (List Int), y_ = (x12_2 ++ [rd_L7 t546 x13_2]) := ⟨_, rfl⟩
          replace H : (jigsawref10_Solutions.l1 k2 t546 y552 (wrap64 (x13_2 + 1)) t525 t526 t529 t532 t535 t538 t541 t542) = some (r1, r2) := by first | (rw [hy552]; with_reducible exact H) | (have H2_ := (Option.bind_some _ _).symm.trans H; rw [hy552]; with_reducible exact H2_) | (have H2_ := (Option.bind_some _ _).symm.trans H; with_reducible exact H2_) | with_reducible exact H | (rw [hy552]; exact H) | exact H
          have Ny552 := Aside0.mk hy552
          clear hy552
          have H' := Aside0.mk H
          clear H
          obtain ⟨Ao27, co27, eo27⟩ := Kd.N_slice HO_11.out
          subst eo27
          try go_wp2
          replace HO_11 := Aside0.mk (Kd.N_drew HO_11.out)
          replace HO_12 := Aside0.mk (Kd.N_drew HO_12.out)
          replace HO_524003 := Aside0.mk (Kd.V_drew HO_524003.out)
          replace HO_524004 := Aside0.mk (Kd.V_drew HO_524004.out)
          replace HO_524005 := Aside0.mk (Kd.V_drew HO_524005.out)
          replace HO_524007 := Aside0.mk (Kd.V_drew HO_524007.out)
          replace HO_546001 := Aside0.mk (Kd.R_drew HO_546001.out)
          replace HO_546002 := Aside0.mk (Kd.R_drew HO_546002.out)
          replace HO_546003 := Aside0.mk (Kd.V_drew HO_546003.out)
          replace HO_546004 := Aside0.mk (Kd.V_drew HO_546004.out)
          replace HO_546005 := Aside0.mk (Kd.V_drew HO_546005.out)
          replace HO_546007 := Aside0.mk (Kd.V_drew HO_546007.out)
          replace BK523 := Aside0.mk (blk_drew BK523.out)
          replace BK545 := Aside0.mk (blk_drew BK545.out)
          replace HB := Aside0.mk (below_drew1 HB.out)
          have p549 : 0 ≤ (x13_2 : Int) := dq_
          have q549 : x13_2 < (t546.length : Int) := dq_
          obtain ⟨ad549, A549_0, c549_0, e549, hx549_0, hl549_0, hi549_0⟩ := at_L7 (Kd.N_reads' HO_11.out).2.2 x13_2 p549 q549
          cases e549
          obtain ⟨ce549, hce549, hMe549, hcc549⟩ := Kd.N_get HO_11.out [] x13_2 p549 (by first | exact q549 | exact dq_ | (have e_ := (Kd.N_reads' HO_11.out).1; omega))
          obtain ⟨ua549_0, uc549_0, rfl, ul549_0, ge549_0⟩ := Kd.FK_slice_open hMe549
          have hv549_0 := hcc549 0 _ rfl
          rw [Nat.add_zero, show ((Kd.slice 3 (Kd.int .i64))).sz = 1 from rfl, Nat.mul_one] at hv549_0
          replace hv549_0 := Option.some.inj (hv549_0.symm.trans hx549_0)
          injection hv549_0 with hva_ hvn_ hvc_
          rw [hva_] at ge549_0
          rw [hvc_] at ul549_0
          clear hva_ hvn_ hvc_ ge549_0 ul549_0
          clear hcc549 hce549
          have HR549_0 := Aside0.mk hi549_0
          have HC549_0 := Aside0.mk hl549_0
          clear hi549_0 hl549_0
          replace p549 := eq_true p549
          replace q549 := eq_true q549
          refine start_ (n := 7) (S := fun w' => w'.cell? ⟨gb545, 0, none⟩ = some (.int .i64 t525) ∧ w'.cell? ⟨gb545, 1, none⟩ = some (.slice Ao15 t526.length co15) ∧ w'.cell? ⟨gb545, 2, none⟩ = some (.slice Ao16 t529.length co16) ∧ w'.cell? ⟨gb545, 3, none⟩ = some (.slice Ao17 t532.length co17) ∧ w'.cell? ⟨gb545, 4, none⟩ = some (.slice Ao18 t535.length co18) ∧ w'.cell? ⟨gb545, 5, none⟩ = some (.slice Ao19 t538.length co19) ∧ w'.cell? ⟨gb545, 6, none⟩ = some (.int .i64 t541) ∧ w'.cell? ⟨gb545, 7, none⟩ = some (.slice Ao20 t542.length co20) ∧ w'.cell? (ad549.add (x13_2).toNat) = some (.slice A549_0 (rd_L7 t546 x13_2).length c549_0)) (ds := []) #[false, false, false, false, false, false, false] (by kernel_rfl) rfl rfl ⟨(blk_cell BK545.out 0).trans rfl, (blk_cell BK545.out 1).trans rfl, (blk_cell BK545.out 2).trans rfl, (blk_cell BK545.out 3).trans rfl, (blk_cell BK545.out 4).trans rfl, (blk_cell BK545.out 5).trans rfl, (blk_cell BK545.out 6).trans rfl, (blk_cell BK545.out 7).trans rfl, hx549_0⟩ (fun hHeld => ?_)
          generalize wr.drew = w28 at HO_11 HO_12 HO_524003 HO_524004 HO_524005 HO_524007 HO_546001 HO_546002 HO_546003 HO_546004 HO_546005 HO_546007 BK523 BK545 HB HR549_0 hx549_0 hHeld ⊢
          refine pur_ (i := 1) (N := some 43) #[false, true, false, false, false, false, false] (by kernel_rfl) ?_
          refine pur_ (i := 2) (N := some 44) #[false, true, true, false, false, false, false] (by kernel_rfl) ?_
          refine pur_ (i := 3) (N := some 45) #[false, true, true, true, false, false, false] (by kernel_rfl) ?_
          refine take_ (i := 0) (N := some 42) (v := ?_) (a' := ?_) #[true, true, true, true, false, false, false] rfl rfl (by kernel_rfl) (fun _ _ _ h => h) (Or.inl ⟨by rfl, ?_⟩) hHeld ?_ ?_
          rotate_left
          ·
           rintro w' ⟨s0, s1, s2, s3, s4, s5, s6, s7, s8⟩
           go_simp
           with_reducible rfl
          rotate_left
          ·
           simp only [Act.put, List.setIfInBounds_toArray, List.set_cons_zero, List.set_cons_succ, i64_w, i32_w]
           rfl
          refine take_ (i := 4) (N := some 46) (v := ?_) (a' := ?_) #[true, true, true, true, true, false, false] rfl rfl (by kernel_rfl) (fun _ _ _ h => h) (Or.inl ⟨by rfl, ?_⟩) hHeld ?_ ?_
          rotate_left
          ·
           rintro w' ⟨s0, s1, s2, s3, s4, s5, s6, s7, s8⟩
           go_simp
           with_reducible rfl
          rotate_left
          ·
           simp only [Act.put, List.setIfInBounds_toArray, List.set_cons_zero, List.set_cons_succ, i64_w, i32_w]
           rfl
          refine one_ (i := 5) (N := some 47) #[true, true, true, true, true, true, false] rfl rfl (by kernel_rfl) (by decide) (fun K hK => ?_)
          refine goes_ Tryz.func21 (by kernel_rfl) rfl #[.agg #[.int .i64 t525, .slice Ao15 t526.length co15, .slice Ao16 t529.length co16, .slice Ao17 t532.length co17, .slice Ao18 t535.length co18, .slice Ao19 t538.length co19, .int .i64 t541, .slice Ao20 t542.length co20], .slice A549_0 (rd_L7 t546 x13_2).length c549_0] (by rfl) rfl rfl ar_ ?_
          with_reducible refine (jigsawref09_Holds.calls k2 t525 _ _ t526 _ _ t529 _ _ t532 _ _ t535 _ _ t538 t541 _ _ t542 _ _ (rd_L7 t546 x13_2) true _ ?_ ?_ ?_ ?_ ?_ ?_ ?_ ?_ ?_ ?_ ?_ ?_ ?_ ?_ A24.out).mono ?_
          exact ca_ ((Kd.R_reads' HO_546001.out).2.2)
          exact (Kd.R_reads' HO_546001.out).2.1
          exact ca_ ((Kd.R_reads' HO_546002.out).2.2)
          exact (Kd.R_reads' HO_546002.out).2.1
          exact ca_ ((Kd.V_reads' HO_546003.out).2.2)
          exact (Kd.V_reads' HO_546003.out).2.1
          exact ca_ ((Kd.V_reads' HO_546004.out).2.2)
          exact (Kd.V_reads' HO_546004.out).2.1
          exact ca_ ((Kd.V_reads' HO_546005.out).2.2)
          exact (Kd.V_reads' HO_546005.out).2.1
          exact ca_ ((Kd.V_reads' HO_546007.out).2.2)
          exact (Kd.V_reads' HO_546007.out).2.1
          focus repeat (first | exact (by repeat (first | (with_reducible exact HR549_0.out) | (with_reducible refine Kd.C_alloc ?_ _) | (with_reducible refine Kd.C_drewN ?_ _) | (with_reducible refine Kd.C_drew ?_) | exact HR549_0.out)) | (with_reducible refine Kd.C_alloc ?_ _) | (with_reducible refine Kd.C_drewN ?_ _) | (with_reducible refine Kd.C_drew ?_))
          exact HC549_0.out
          rintro e w29 ⟨rfl, hb⟩
          have HS8_ := (hb.cell (World.block_lt_of_cell? _ _ (hHeld.2.2.2.2.2.2.2.2))).trans (hHeld.2.2.2.2.2.2.2.2)
          refine ⟨_, rfl, ?_⟩
          replace HO_11 := Aside0.mk (Kd.N_below (vN_ HO_11.out) hb)
          replace HO_12 := Aside0.mk (Kd.N_below (vN_ HO_12.out) hb)
          replace HO_524003 := Aside0.mk (Kd.V_below (vV_ HO_524003.out) hb)
          replace HO_524004 := Aside0.mk (Kd.V_below (vV_ HO_524004.out) hb)
          replace HO_524005 := Aside0.mk (Kd.V_below (vV_ HO_524005.out) hb)
          replace HO_524007 := Aside0.mk (Kd.V_below (vV_ HO_524007.out) hb)
          replace HO_546001 := Aside0.mk (Kd.R_below (vR_ HO_546001.out) hb)
          replace HO_546002 := Aside0.mk (Kd.R_below (vR_ HO_546002.out) hb)
          replace HO_546003 := Aside0.mk (Kd.V_below (vV_ HO_546003.out) hb)
          replace HO_546004 := Aside0.mk (Kd.V_below (vV_ HO_546004.out) hb)
          replace HO_546005 := Aside0.mk (Kd.V_below (vV_ HO_546005.out) hb)
          replace HO_546007 := Aside0.mk (Kd.V_below (vV_ HO_546007.out) hb)
          replace BK523 := Aside0.mk (blk_below (bk_ BK523.out) hb)
          replace BK545 := Aside0.mk (blk_below (bk_ BK545.out) hb)
          replace HB := Aside0.mk (below_step bel_ hb)
          clear hb
          refine hK.out _ _ ⟨(blk_cell BK545.out 0).trans rfl, (blk_cell BK545.out 1).trans rfl, (blk_cell BK545.out 2).trans rfl, (blk_cell BK545.out 3).trans rfl, (blk_cell BK545.out 4).trans rfl, (blk_cell BK545.out 5).trans rfl, (blk_cell BK545.out 6).trans rfl, (blk_cell BK545.out 7).trans rfl, HS8_⟩ (fun hHeld => ?_)
          clear hK K
          refine nor_ (N := some 47) ?_
          refine pur_ (i := 6) (N := some 14) #[true, true, true, true, true, true, true] (by kernel_rfl) ?_
          refine done_ (by kernel_rfl) ?_
          have p551 : 0 ≤ (x13_2 : Int) := dq_
          have q551 : x13_2 < (t546.length : Int) := dq_
          obtain ⟨ad551, A551_0, c551_0, e551, hx551_0, hl551_0, hi551_0⟩ := at_L7 (Kd.N_reads' HO_11.out).2.2 x13_2 p551 q551
          obtain rfl : ad549 = ad551 := (by injection e551)
          obtain ⟨ce551, hce551, hMe551, hcc551⟩ := Kd.N_get HO_11.out [] x13_2 p551 (by first | exact q551 | exact dq_ | (have e_ := (Kd.N_reads' HO_11.out).1; omega))
          obtain ⟨ua551_0, uc551_0, rfl, ul551_0, ge551_0⟩ := Kd.FK_slice_open hMe551
          have hv551_0 := hcc551 0 _ rfl
          rw [Nat.add_zero, show ((Kd.slice 3 (Kd.int .i64))).sz = 1 from rfl, Nat.mul_one] at hv551_0
          replace hv551_0 := Option.some.inj (hv551_0.symm.trans hx551_0)
          injection hv551_0 with hva_ hvn_ hvc_
          rw [hva_] at ge551_0
          rw [hvc_] at ul551_0
          have HL551_0 := Aside0.mk (show Kd.V (Kd.int .i64) 3 _ w.heap.size _ _ (rd_L7 t546 x13_2) from Kd.V_mk ul551_0 ge551_0)
          clear hva_ hvn_ hvc_ ge551_0 ul551_0
          clear hcc551 hce551
          have HC551_0 := Aside0.mk hl551_0
          clear hi551_0 hl551_0
          replace p551 := eq_true p551
          replace q551 := eq_true q551
          (have hq_ := hx551_0.symm.trans HS8_); injection hq_ with hq_; injection hq_ with h1_ _ h3_; subst h1_; subst h3_
          try go_wp2_with (first | ((with_reducible refine gate_builtin (b := .append) (xs := #[.tmp 49, .tmp 54]) rfl ?_); at_builtin; refine Kd.N_append (Kd.slice 3 (Kd.int .i64)) (w0 := w) w.heap.size rfl (.tmp 49) (.tmp 54) 27 30 (.slice none 0 0) 24 rfl Tryz.underlying27 info30 rfl (by decide) (by omega) u12 x12_2 (rd_L7 t546 x13_2) [.slice A551_0 (rd_L7 t546 x13_2).length c551_0] (fun k_ => ((P0_3_ k_ ∨ P0_4_ k_ ∨ P0_5_ k_ ∨ P0_7_ k_) ∨ w.heap.size ≤ k_) ∧ some k_ ≠ (.slice (some ad549) t546.length co27 : Value).ownBlock ∧ some k_ ≠ (.slice Ao15 t526.length co15 : Value).ownBlock ∧ some k_ ≠ (.slice Ao16 t529.length co16 : Value).ownBlock ∧ k_ ≠ gb523 ∧ k_ ≠ gb545) (fun k_ => ((fun k_ => ((P0_3_ k_ ∨ P0_4_ k_ ∨ P0_5_ k_ ∨ P0_7_ k_) ∨ w.heap.size ≤ k_) ∧ some k_ ≠ (.slice (some ad549) t546.length co27 : Value).ownBlock ∧ some k_ ≠ (.slice Ao15 t526.length co15 : Value).ownBlock ∧ some k_ ≠ (.slice Ao16 t529.length co16 : Value).ownBlock ∧ k_ ≠ gb523 ∧ k_ ≠ gb545)) k_ ∧ some k_ ≠ (u12 : Value).ownBlock) rfl rfl ?aP (fun _ hk => hk) ?aF ?aO ?aB ?aS ?aL ?_; (case aP => exact (Kd.FK_slice_mk (Kd.V_reads' (Kd.V_mono (ok' := (fun k_ => ((fun k_ => ((P0_3_ k_ ∨ P0_4_ k_ ∨ P0_5_ k_ ∨ P0_7_ k_) ∨ w.heap.size ≤ k_) ∧ some k_ ≠ (.slice (some ad549) t546.length co27 : Value).ownBlock ∧ some k_ ≠ (.slice Ao15 t526.length co15 : Value).ownBlock ∧ some k_ ≠ (.slice Ao16 t529.length co16 : Value).ownBlock ∧ k_ ≠ gb523 ∧ k_ ≠ gb545)) k_ ∧ some k_ ≠ (u12 : Value).ownBlock)) (HL551_0.out) (fun k_ hk => ⟨⟨hk.1.1, ⟨hk.2, ⟨hk.1.2.2.1, ⟨hk.1.2.2.2.1, ⟨hk.1.2.2.2.2.1, hk.1.2.2.2.2.2⟩⟩⟩⟩⟩, hk.1.2.1⟩))).2.1 (Kd.V_F (Kd.V_mono (ok' := (fun k_ => ((fun k_ => ((P0_3_ k_ ∨ P0_4_ k_ ∨ P0_5_ k_ ∨ P0_7_ k_) ∨ w.heap.size ≤ k_) ∧ some k_ ≠ (.slice (some ad549) t546.length co27 : Value).ownBlock ∧ some k_ ≠ (.slice Ao15 t526.length co15 : Value).ownBlock ∧ some k_ ≠ (.slice Ao16 t529.length co16 : Value).ownBlock ∧ k_ ≠ gb523 ∧ k_ ≠ gb545)) k_ ∧ some k_ ≠ (u12 : Value).ownBlock)) (HL551_0.out) (fun k_ hk => ⟨⟨hk.1.1, ⟨hk.2, ⟨hk.1.2.2.1, ⟨hk.1.2.2.2.1, ⟨hk.1.2.2.2.2.1, hk.1.2.2.2.2.2⟩⟩⟩⟩⟩, hk.1.2.1⟩))))); (case aB => exact bel_); (case aF => exact (fun k_ hk => ⟨(.inr (Nat.le_trans (below_size bel_) hk)), Kd.fresh' (Kd.N_lt (vN_ HO_11.out)) k_ hk, Kd.fresh' (Kd.R_lt (vR_ HO_546001.out)) k_ hk, Kd.fresh' (Kd.R_lt (vR_ HO_546002.out)) k_ hk, Kd.freshB (bk_ BK523.out) k_ hk, Kd.freshB (bk_ BK545.out) k_ hk⟩)); (case aO => exact (vN_ HO_12.out)); (case aS => exact (below_size bel_)); (case aL => have := LMc26.out; omega); intro v553 w30 ho hb hg hat; rw [← Ny552.out] at ho; replace HO_11 := Aside0.mk (Kd.N_afterv (ok := (fun k_ => ((P0_3_ k_ ∨ P0_4_ k_ ∨ P0_5_ k_ ∨ P0_7_ k_) ∨ w.heap.size ≤ k_) ∧ some k_ ≠ (.slice Ao15 t526.length co15 : Value).ownBlock ∧ some k_ ≠ (.slice Ao16 t529.length co16 : Value).ownBlock ∧ k_ ≠ gb523 ∧ k_ ≠ gb545)) (by refine vN_ ?_; exact Kd.N_mono HO_11.out (fun _ hk => ⟨⟨hk.1, ⟨hk.2.2.1, ⟨hk.2.2.2.1, ⟨hk.2.2.2.2.1, hk.2.2.2.2.2⟩⟩⟩⟩, hk.2.1⟩)) hg hat); replace HO_524003 := Aside0.mk (Kd.V_afterv (ok := (fun k_ => ((P0_3_ k_ ∨ P0_4_ k_ ∨ P0_5_ k_ ∨ P0_7_ k_) ∨ w.heap.size ≤ k_) ∧ some k_ ≠ (.slice (some ad549) t546.length co27 : Value).ownBlock ∧ some k_ ≠ (.slice Ao15 t526.length co15 : Value).ownBlock ∧ some k_ ≠ (.slice Ao16 t529.length co16 : Value).ownBlock ∧ k_ ≠ gb523 ∧ k_ ≠ gb545)) (by refine vV_ ?_; exact Kd.V_mono HO_524003.out (fun _ hk => ⟨⟨hk.1, ⟨hk.2.1, ⟨hk.2.2.2.1, ⟨hk.2.2.2.2.1, ⟨hk.2.2.2.2.2.1, hk.2.2.2.2.2.2⟩⟩⟩⟩⟩, hk.2.2.1⟩)) hg hat); replace HO_524004 := Aside0.mk (Kd.V_afterv (ok := (fun k_ => ((P0_3_ k_ ∨ P0_4_ k_ ∨ P0_5_ k_ ∨ P0_7_ k_) ∨ w.heap.size ≤ k_) ∧ some k_ ≠ (.slice (some ad549) t546.length co27 : Value).ownBlock ∧ some k_ ≠ (.slice Ao15 t526.length co15 : Value).ownBlock ∧ some k_ ≠ (.slice Ao16 t529.length co16 : Value).ownBlock ∧ k_ ≠ gb523 ∧ k_ ≠ gb545)) (by refine vV_ ?_; exact Kd.V_mono HO_524004.out (fun _ hk => ⟨⟨hk.1, ⟨hk.2.1, ⟨hk.2.2.2.1, ⟨hk.2.2.2.2.1, ⟨hk.2.2.2.2.2.1, hk.2.2.2.2.2.2⟩⟩⟩⟩⟩, hk.2.2.1⟩)) hg hat); replace HO_524005 := Aside0.mk (Kd.V_afterv (ok := (fun k_ => ((P0_3_ k_ ∨ P0_4_ k_ ∨ P0_5_ k_ ∨ P0_7_ k_) ∨ w.heap.size ≤ k_) ∧ some k_ ≠ (.slice (some ad549) t546.length co27 : Value).ownBlock ∧ some k_ ≠ (.slice Ao15 t526.length co15 : Value).ownBlock ∧ some k_ ≠ (.slice Ao16 t529.length co16 : Value).ownBlock ∧ k_ ≠ gb523 ∧ k_ ≠ gb545)) (by refine vV_ ?_; exact Kd.V_mono HO_524005.out (fun _ hk => ⟨⟨hk.1, ⟨hk.2.1, ⟨hk.2.2.2.1, ⟨hk.2.2.2.2.1, ⟨hk.2.2.2.2.2.1, hk.2.2.2.2.2.2⟩⟩⟩⟩⟩, hk.2.2.1⟩)) hg hat); replace HO_524007 := Aside0.mk (Kd.V_afterv (ok := (fun k_ => ((P0_3_ k_ ∨ P0_4_ k_ ∨ P0_5_ k_ ∨ P0_7_ k_) ∨ w.heap.size ≤ k_) ∧ some k_ ≠ (.slice (some ad549) t546.length co27 : Value).ownBlock ∧ some k_ ≠ (.slice Ao15 t526.length co15 : Value).ownBlock ∧ some k_ ≠ (.slice Ao16 t529.length co16 : Value).ownBlock ∧ k_ ≠ gb523 ∧ k_ ≠ gb545)) (by refine vV_ ?_; exact Kd.V_mono HO_524007.out (fun _ hk => ⟨⟨hk.1, ⟨hk.2.1, ⟨hk.2.2.2.1, ⟨hk.2.2.2.2.1, ⟨hk.2.2.2.2.2.1, hk.2.2.2.2.2.2⟩⟩⟩⟩⟩, hk.2.2.1⟩)) hg hat); replace HO_546001 := Aside0.mk (Kd.R_over' (vR_ HO_546001.out) (Kd.N_typed (vN_ HO_12.out)) (by decide) hg); replace HO_546002 := Aside0.mk (Kd.R_over' (vR_ HO_546002.out) (Kd.N_typed (vN_ HO_12.out)) (by decide) hg); replace HO_546003 := Aside0.mk (Kd.V_afterv (ok := (fun k_ => ((P0_3_ k_ ∨ P0_4_ k_ ∨ P0_5_ k_ ∨ P0_7_ k_) ∨ w.heap.size ≤ k_) ∧ some k_ ≠ (.slice (some ad549) t546.length co27 : Value).ownBlock ∧ some k_ ≠ (.slice Ao15 t526.length co15 : Value).ownBlock ∧ some k_ ≠ (.slice Ao16 t529.length co16 : Value).ownBlock ∧ k_ ≠ gb523 ∧ k_ ≠ gb545)) (by refine vV_ ?_; exact Kd.V_mono HO_546003.out (fun _ hk => ⟨⟨hk.1, ⟨hk.2.1, ⟨hk.2.2.2.1, ⟨hk.2.2.2.2.1, ⟨hk.2.2.2.2.2.1, hk.2.2.2.2.2.2⟩⟩⟩⟩⟩, hk.2.2.1⟩)) hg hat); replace HO_546004 := Aside0.mk (Kd.V_afterv (ok := (fun k_ => ((P0_3_ k_ ∨ P0_4_ k_ ∨ P0_5_ k_ ∨ P0_7_ k_) ∨ w.heap.size ≤ k_) ∧ some k_ ≠ (.slice (some ad549) t546.length co27 : Value).ownBlock ∧ some k_ ≠ (.slice Ao15 t526.length co15 : Value).ownBlock ∧ some k_ ≠ (.slice Ao16 t529.length co16 : Value).ownBlock ∧ k_ ≠ gb523 ∧ k_ ≠ gb545)) (by refine vV_ ?_; exact Kd.V_mono HO_546004.out (fun _ hk => ⟨⟨hk.1, ⟨hk.2.1, ⟨hk.2.2.2.1, ⟨hk.2.2.2.2.1, ⟨hk.2.2.2.2.2.1, hk.2.2.2.2.2.2⟩⟩⟩⟩⟩, hk.2.2.1⟩)) hg hat); replace HO_546005 := Aside0.mk (Kd.V_afterv (ok := (fun k_ => ((P0_3_ k_ ∨ P0_4_ k_ ∨ P0_5_ k_ ∨ P0_7_ k_) ∨ w.heap.size ≤ k_) ∧ some k_ ≠ (.slice (some ad549) t546.length co27 : Value).ownBlock ∧ some k_ ≠ (.slice Ao15 t526.length co15 : Value).ownBlock ∧ some k_ ≠ (.slice Ao16 t529.length co16 : Value).ownBlock ∧ k_ ≠ gb523 ∧ k_ ≠ gb545)) (by refine vV_ ?_; exact Kd.V_mono HO_546005.out (fun _ hk => ⟨⟨hk.1, ⟨hk.2.1, ⟨hk.2.2.2.1, ⟨hk.2.2.2.2.1, ⟨hk.2.2.2.2.2.1, hk.2.2.2.2.2.2⟩⟩⟩⟩⟩, hk.2.2.1⟩)) hg hat); replace HO_546007 := Aside0.mk (Kd.V_afterv (ok := (fun k_ => ((P0_3_ k_ ∨ P0_4_ k_ ∨ P0_5_ k_ ∨ P0_7_ k_) ∨ w.heap.size ≤ k_) ∧ some k_ ≠ (.slice (some ad549) t546.length co27 : Value).ownBlock ∧ some k_ ≠ (.slice Ao15 t526.length co15 : Value).ownBlock ∧ some k_ ≠ (.slice Ao16 t529.length co16 : Value).ownBlock ∧ k_ ≠ gb523 ∧ k_ ≠ gb545)) (by refine vV_ ?_; exact Kd.V_mono HO_546007.out (fun _ hk => ⟨⟨hk.1, ⟨hk.2.1, ⟨hk.2.2.2.1, ⟨hk.2.2.2.2.1, ⟨hk.2.2.2.2.2.1, hk.2.2.2.2.2.2⟩⟩⟩⟩⟩, hk.2.2.1⟩)) hg hat); replace BK523 := Aside0.mk (blk_grown (bk_ BK523.out) hg (Kd.N_ne HO_12.out BK523.out (by decide))); replace BK545 := Aside0.mk (blk_grown (bk_ BK545.out) hg (Kd.N_ne HO_12.out BK545.out (by decide))); replace HB := Aside0.mk (hb); have HO554 := Aside0.mk (ho); clear HO_12; clear ho hb hg hat))
          go_roundg k2
          case measure => have := HK1.out; have := HK2.out; omega
          case rel => exact ⟨(y552), (wrap64 (x13_2 + 1)), eq_, H', ⟨by have := HK1.out; have := HK2.out; omega⟩, ⟨by refine vN_ ?_; exact Kd.N_mono HO_11.out (fun _ hk => ⟨hk.1.1, ⟨hk.2, ⟨hk.1.2.1, ⟨hk.1.2.2.1, ⟨hk.1.2.2.2.1, hk.1.2.2.2.2⟩⟩⟩⟩⟩)⟩, ⟨by refine vN_ ?_; exact HO554.out⟩, ⟨by refine vV_ ?_; exact Kd.V_mono HO_524003.out (fun _ hk => ⟨hk.1.1, ⟨hk.1.2.1, ⟨hk.2, ⟨hk.1.2.2.1, ⟨hk.1.2.2.2.1, ⟨hk.1.2.2.2.2.1, hk.1.2.2.2.2.2⟩⟩⟩⟩⟩⟩)⟩, ⟨by refine vV_ ?_; exact Kd.V_mono HO_524004.out (fun _ hk => ⟨hk.1.1, ⟨hk.1.2.1, ⟨hk.2, ⟨hk.1.2.2.1, ⟨hk.1.2.2.2.1, ⟨hk.1.2.2.2.2.1, hk.1.2.2.2.2.2⟩⟩⟩⟩⟩⟩)⟩, ⟨by refine vV_ ?_; exact Kd.V_mono HO_524005.out (fun _ hk => ⟨hk.1.1, ⟨hk.1.2.1, ⟨hk.2, ⟨hk.1.2.2.1, ⟨hk.1.2.2.2.1, ⟨hk.1.2.2.2.2.1, hk.1.2.2.2.2.2⟩⟩⟩⟩⟩⟩)⟩, ⟨by refine vV_ ?_; exact Kd.V_mono HO_524007.out (fun _ hk => ⟨hk.1.1, ⟨hk.1.2.1, ⟨hk.2, ⟨hk.1.2.2.1, ⟨hk.1.2.2.2.1, ⟨hk.1.2.2.2.2.1, hk.1.2.2.2.2.2⟩⟩⟩⟩⟩⟩)⟩, ⟨by refine vR_ ?_; exact HO_546001.out⟩, ⟨by refine vR_ ?_; exact HO_546002.out⟩, ⟨by refine vV_ ?_; exact Kd.V_mono HO_546003.out (fun _ hk => ⟨hk.1.1, ⟨hk.1.2.1, ⟨hk.2, ⟨hk.1.2.2.1, ⟨hk.1.2.2.2.1, ⟨hk.1.2.2.2.2.1, hk.1.2.2.2.2.2⟩⟩⟩⟩⟩⟩)⟩, ⟨by refine vV_ ?_; exact Kd.V_mono HO_546004.out (fun _ hk => ⟨hk.1.1, ⟨hk.1.2.1, ⟨hk.2, ⟨hk.1.2.2.1, ⟨hk.1.2.2.2.1, ⟨hk.1.2.2.2.2.1, hk.1.2.2.2.2.2⟩⟩⟩⟩⟩⟩)⟩, ⟨by refine vV_ ?_; exact Kd.V_mono HO_546005.out (fun _ hk => ⟨hk.1.1, ⟨hk.1.2.1, ⟨hk.2, ⟨hk.1.2.2.1, ⟨hk.1.2.2.2.1, ⟨hk.1.2.2.2.2.1, hk.1.2.2.2.2.2⟩⟩⟩⟩⟩⟩)⟩, ⟨by refine vV_ ?_; exact Kd.V_mono HO_546007.out (fun _ hk => ⟨hk.1.1, ⟨hk.1.2.1, ⟨hk.2, ⟨hk.1.2.2.1, ⟨hk.1.2.2.2.1, ⟨hk.1.2.2.2.2.1, hk.1.2.2.2.2.2⟩⟩⟩⟩⟩⟩)⟩, ⟨by refine bk_ ?_; exact BK523.out⟩, ⟨by refine bk_ ?_; exact BK545.out⟩, ⟨bel_⟩⟩
         ·
          rw [if_neg c26] at H
          exact absurd H (by simp)
        ·
         replace c25 := Bool.eq_false_iff.mpr c25
         subst c25
         have H1 : (jigsawref10_Solutions.l1 k2 t546 x12_2 (wrap64 (x13_2 + 1)) t525 t526 t529 t532 t535 t538 t541 t542) = some (r1, r2) := by rw [if_neg (show ¬ (false = true) by decide)] at H; exact H
         clear H
         have H := H1
         clear H1
         have H' := Aside0.mk H
         clear H
         obtain ⟨Ao31, co31, eo31⟩ := Kd.N_slice HO_11.out
         subst eo31
         try go_wp2
         replace HO_11 := Aside0.mk (Kd.N_drew HO_11.out)
         replace HO_12 := Aside0.mk (Kd.N_drew HO_12.out)
         replace HO_524003 := Aside0.mk (Kd.V_drew HO_524003.out)
         replace HO_524004 := Aside0.mk (Kd.V_drew HO_524004.out)
         replace HO_524005 := Aside0.mk (Kd.V_drew HO_524005.out)
         replace HO_524007 := Aside0.mk (Kd.V_drew HO_524007.out)
         replace HO_546001 := Aside0.mk (Kd.R_drew HO_546001.out)
         replace HO_546002 := Aside0.mk (Kd.R_drew HO_546002.out)
         replace HO_546003 := Aside0.mk (Kd.V_drew HO_546003.out)
         replace HO_546004 := Aside0.mk (Kd.V_drew HO_546004.out)
         replace HO_546005 := Aside0.mk (Kd.V_drew HO_546005.out)
         replace HO_546007 := Aside0.mk (Kd.V_drew HO_546007.out)
         replace BK523 := Aside0.mk (blk_drew BK523.out)
         replace BK545 := Aside0.mk (blk_drew BK545.out)
         replace HB := Aside0.mk (below_drew1 HB.out)
         have p549 : 0 ≤ (x13_2 : Int) := dq_
         have q549 : x13_2 < (t546.length : Int) := dq_
         obtain ⟨ad549, A549_0, c549_0, e549, hx549_0, hl549_0, hi549_0⟩ := at_L7 (Kd.N_reads' HO_11.out).2.2 x13_2 p549 q549
         cases e549
         obtain ⟨ce549, hce549, hMe549, hcc549⟩ := Kd.N_get HO_11.out [] x13_2 p549 (by first | exact q549 | exact dq_ | (have e_ := (Kd.N_reads' HO_11.out).1; omega))
         obtain ⟨ua549_0, uc549_0, rfl, ul549_0, ge549_0⟩ := Kd.FK_slice_open hMe549
         have hv549_0 := hcc549 0 _ rfl
         rw [Nat.add_zero, show ((Kd.slice 3 (Kd.int .i64))).sz = 1 from rfl, Nat.mul_one] at hv549_0
         replace hv549_0 := Option.some.inj (hv549_0.symm.trans hx549_0)
         injection hv549_0 with hva_ hvn_ hvc_
         rw [hva_] at ge549_0
         rw [hvc_] at ul549_0
         clear hva_ hvn_ hvc_ ge549_0 ul549_0
         clear hcc549 hce549
         have HR549_0 := Aside0.mk hi549_0
         have HC549_0 := Aside0.mk hl549_0
         clear hi549_0 hl549_0
         replace p549 := eq_true p549
         replace q549 := eq_true q549
         refine start_ (n := 7) (S := fun w' => w'.cell? ⟨gb545, 0, none⟩ = some (.int .i64 t525) ∧ w'.cell? ⟨gb545, 1, none⟩ = some (.slice Ao15 t526.length co15) ∧ w'.cell? ⟨gb545, 2, none⟩ = some (.slice Ao16 t529.length co16) ∧ w'.cell? ⟨gb545, 3, none⟩ = some (.slice Ao17 t532.length co17) ∧ w'.cell? ⟨gb545, 4, none⟩ = some (.slice Ao18 t535.length co18) ∧ w'.cell? ⟨gb545, 5, none⟩ = some (.slice Ao19 t538.length co19) ∧ w'.cell? ⟨gb545, 6, none⟩ = some (.int .i64 t541) ∧ w'.cell? ⟨gb545, 7, none⟩ = some (.slice Ao20 t542.length co20) ∧ w'.cell? (ad549.add (x13_2).toNat) = some (.slice A549_0 (rd_L7 t546 x13_2).length c549_0)) (ds := []) #[false, false, false, false, false, false, false] (by kernel_rfl) rfl rfl ⟨(blk_cell BK545.out 0).trans rfl, (blk_cell BK545.out 1).trans rfl, (blk_cell BK545.out 2).trans rfl, (blk_cell BK545.out 3).trans rfl, (blk_cell BK545.out 4).trans rfl, (blk_cell BK545.out 5).trans rfl, (blk_cell BK545.out 6).trans rfl, (blk_cell BK545.out 7).trans rfl, hx549_0⟩ (fun hHeld => ?_)
         generalize wr.drew = w32 at HO_11 HO_12 HO_524003 HO_524004 HO_524005 HO_524007 HO_546001 HO_546002 HO_546003 HO_546004 HO_546005 HO_546007 BK523 BK545 HB HR549_0 hx549_0 hHeld ⊢
         refine pur_ (i := 1) (N := some 43) #[false, true, false, false, false, false, false] (by kernel_rfl) ?_
         refine pur_ (i := 2) (N := some 44) #[false, true, true, false, false, false, false] (by kernel_rfl) ?_
         refine pur_ (i := 3) (N := some 45) #[false, true, true, true, false, false, false] (by kernel_rfl) ?_
         refine take_ (i := 0) (N := some 42) (v := ?_) (a' := ?_) #[true, true, true, true, false, false, false] rfl rfl (by kernel_rfl) (fun _ _ _ h => h) (Or.inl ⟨by rfl, ?_⟩) hHeld ?_ ?_
         rotate_left
         ·
          rintro w' ⟨s0, s1, s2, s3, s4, s5, s6, s7, s8⟩
          go_simp
          with_reducible rfl
         rotate_left
         ·
          simp only [Act.put, List.setIfInBounds_toArray, List.set_cons_zero, List.set_cons_succ, i64_w, i32_w]
          rfl
         refine take_ (i := 4) (N := some 46) (v := ?_) (a' := ?_) #[true, true, true, true, true, false, false] rfl rfl (by kernel_rfl) (fun _ _ _ h => h) (Or.inl ⟨by rfl, ?_⟩) hHeld ?_ ?_
         rotate_left
         ·
          rintro w' ⟨s0, s1, s2, s3, s4, s5, s6, s7, s8⟩
          go_simp
          with_reducible rfl
         rotate_left
         ·
          simp only [Act.put, List.setIfInBounds_toArray, List.set_cons_zero, List.set_cons_succ, i64_w, i32_w]
          rfl
         refine one_ (i := 5) (N := some 47) #[true, true, true, true, true, true, false] rfl rfl (by kernel_rfl) (by decide) (fun K hK => ?_)
         refine goes_ Tryz.func21 (by kernel_rfl) rfl #[.agg #[.int .i64 t525, .slice Ao15 t526.length co15, .slice Ao16 t529.length co16, .slice Ao17 t532.length co17, .slice Ao18 t535.length co18, .slice Ao19 t538.length co19, .int .i64 t541, .slice Ao20 t542.length co20], .slice A549_0 (rd_L7 t546 x13_2).length c549_0] (by rfl) rfl rfl ar_ ?_
         with_reducible refine (jigsawref09_Holds.calls k2 t525 _ _ t526 _ _ t529 _ _ t532 _ _ t535 _ _ t538 t541 _ _ t542 _ _ (rd_L7 t546 x13_2) false _ ?_ ?_ ?_ ?_ ?_ ?_ ?_ ?_ ?_ ?_ ?_ ?_ ?_ ?_ A24.out).mono ?_
         exact ca_ ((Kd.R_reads' HO_546001.out).2.2)
         exact (Kd.R_reads' HO_546001.out).2.1
         exact ca_ ((Kd.R_reads' HO_546002.out).2.2)
         exact (Kd.R_reads' HO_546002.out).2.1
         exact ca_ ((Kd.V_reads' HO_546003.out).2.2)
         exact (Kd.V_reads' HO_546003.out).2.1
         exact ca_ ((Kd.V_reads' HO_546004.out).2.2)
         exact (Kd.V_reads' HO_546004.out).2.1
         exact ca_ ((Kd.V_reads' HO_546005.out).2.2)
         exact (Kd.V_reads' HO_546005.out).2.1
         exact ca_ ((Kd.V_reads' HO_546007.out).2.2)
         exact (Kd.V_reads' HO_546007.out).2.1
         focus repeat (first | exact (by repeat (first | (with_reducible exact HR549_0.out) | (with_reducible refine Kd.C_alloc ?_ _) | (with_reducible refine Kd.C_drewN ?_ _) | (with_reducible refine Kd.C_drew ?_) | exact HR549_0.out)) | (with_reducible refine Kd.C_alloc ?_ _) | (with_reducible refine Kd.C_drewN ?_ _) | (with_reducible refine Kd.C_drew ?_))
         exact HC549_0.out
         rintro e w33 ⟨rfl, hb⟩
         have HS8_ := (hb.cell (World.block_lt_of_cell? _ _ (hHeld.2.2.2.2.2.2.2.2))).trans (hHeld.2.2.2.2.2.2.2.2)
         refine ⟨_, rfl, ?_⟩
         replace HO_11 := Aside0.mk (Kd.N_below (vN_ HO_11.out) hb)
         replace HO_12 := Aside0.mk (Kd.N_below (vN_ HO_12.out) hb)
         replace HO_524003 := Aside0.mk (Kd.V_below (vV_ HO_524003.out) hb)
         replace HO_524004 := Aside0.mk (Kd.V_below (vV_ HO_524004.out) hb)
         replace HO_524005 := Aside0.mk (Kd.V_below (vV_ HO_524005.out) hb)
         replace HO_524007 := Aside0.mk (Kd.V_below (vV_ HO_524007.out) hb)
         replace HO_546001 := Aside0.mk (Kd.R_below (vR_ HO_546001.out) hb)
         replace HO_546002 := Aside0.mk (Kd.R_below (vR_ HO_546002.out) hb)
         replace HO_546003 := Aside0.mk (Kd.V_below (vV_ HO_546003.out) hb)
         replace HO_546004 := Aside0.mk (Kd.V_below (vV_ HO_546004.out) hb)
         replace HO_546005 := Aside0.mk (Kd.V_below (vV_ HO_546005.out) hb)
         replace HO_546007 := Aside0.mk (Kd.V_below (vV_ HO_546007.out) hb)
         replace BK523 := Aside0.mk (blk_below (bk_ BK523.out) hb)
         replace BK545 := Aside0.mk (blk_below (bk_ BK545.out) hb)
         replace HB := Aside0.mk (below_step bel_ hb)
         clear hb
         refine hK.out _ _ ⟨(blk_cell BK545.out 0).trans rfl, (blk_cell BK545.out 1).trans rfl, (blk_cell BK545.out 2).trans rfl, (blk_cell BK545.out 3).trans rfl, (blk_cell BK545.out 4).trans rfl, (blk_cell BK545.out 5).trans rfl, (blk_cell BK545.out 6).trans rfl, (blk_cell BK545.out 7).trans rfl, HS8_⟩ (fun hHeld => ?_)
         clear hK K
         refine nor_ (N := some 47) ?_
         refine pur_ (i := 6) (N := some 14) #[true, true, true, true, true, true, true] (by kernel_rfl) ?_
         refine done_ (by kernel_rfl) ?_
         try go_wp2
         go_roundg k2
         case measure => have := HK1.out; have := HK2.out; omega
         case rel => exact ⟨(x12_2), (wrap64 (x13_2 + 1)), eq_, H', ⟨by have := HK1.out; have := HK2.out; omega⟩, ⟨by refine vN_ ?_; exact HO_11.out⟩, ⟨by refine vN_ ?_; exact HO_12.out⟩, ⟨by refine vV_ ?_; exact HO_524003.out⟩, ⟨by refine vV_ ?_; exact HO_524004.out⟩, ⟨by refine vV_ ?_; exact HO_524005.out⟩, ⟨by refine vV_ ?_; exact HO_524007.out⟩, ⟨by refine vR_ ?_; exact HO_546001.out⟩, ⟨by refine vR_ ?_; exact HO_546002.out⟩, ⟨by refine vV_ ?_; exact HO_546003.out⟩, ⟨by refine vV_ ?_; exact HO_546004.out⟩, ⟨by refine vV_ ?_; exact HO_546005.out⟩, ⟨by refine vV_ ?_; exact HO_546007.out⟩, ⟨by refine bk_ ?_; exact BK523.out⟩, ⟨by refine bk_ ?_; exact BK545.out⟩, ⟨bel_⟩⟩
       ·
        rw [if_neg c23] at H
        exact absurd H (by simp)
      ·
       rw [if_neg c22] at H
       have c22b0 : decide (x13_2 < (t546.length : Int)) = false := decide_eq_false c22
       clear c22
       simp only [Option.some.injEq, Prod.mk.injEq] at H
       obtain ⟨rfl, rfl⟩ := H
       obtain ⟨Ao34, co34, eo34⟩ := Kd.N_slice HO_11.out
       subst eo34
       go_wp2
       go_ret2
       exact ⟨_, by first | rfl | (simp [errW_none, errW_some] <;> rfl) | (simp [*, errW_none, errW_some] <;> rfl), by refine vN_ ?_; exact Kd.N_mono HO_12.out (fun _ hk => hk.1), bel_⟩

end Go.Proofs.YtmhchlbbfpmdgaaGreatDoor.XClauseKeeps
