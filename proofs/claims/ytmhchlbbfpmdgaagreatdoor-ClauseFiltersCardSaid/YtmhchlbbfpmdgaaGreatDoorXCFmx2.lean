-- by xprint.py, a program of this session, over the kit's print
import Derived.Test.YtmhchlbbfpmdgaaGreatDoorXCFmx1
import Derived.Test.YtmhchlbbfpmdgaaGreatDoorSq
namespace Go.Proofs.YtmhchlbbfpmdgaaGreatDoor.XClauseFilters
open Go.RowKit Go.Proofs.YtmhchlbbfpmdgaaGreatDoor.Sq Go.Proofs.YtmhchlbbfpmdgaaGreatDoorW.PrintWords Go.Proofs.YtmhchlbbfpmdgaaGreatDoorW.PrintLast Go.Proofs.YtmhchlbbfpmdgaaGreatDoorW.PrintMore
attribute [local go_sem] max2_int min2_int max_two min_two max_three min_three max_four min_four   -- for this text's walks alone
set_option linter.unusedVariables false
set_option linter.unusedSimpArgs false

/-! ### slices_Concat_int_int: function 95 -/
mutual
def slices_Concat_int_int.l0 : Nat → List (List Int) → Int → List (List Int) → Int → Int → Option (List Int)
 | 0, _, _, _, _, _ => none
 | k + 1, x0, x3, x9, x10, x11 => if x11 < x10 then (if 0 ≤ x11 then (if x11 < (x9.length : Int) then (if (wrap64 (x3 + ((rd_L7 x9 x11).length : Int))) < 0 then (none) else (slices_Concat_int_int.l0 k x0 (wrap64 (x3 + ((rd_L7 x9 x11).length : Int))) x9 x10 (wrap64 (x11 + 1)))) else (none)) else (none)) else ((slices_GrowNil.f x3).bind fun t252 => (slices_Concat_int_int.l1 k t252 x0 (x0.length : Int) 0))
def slices_Concat_int_int.l1 : Nat → List Int → List (List Int) → Int → Int → Option (List Int)
 | 0, _, _, _, _ => none
 | k + 1, x6, x25, x26, x27 => if x27 < x26 then (if 0 ≤ x27 then (if x27 < (x25.length : Int) then (if x6.length + (rd_L7 x25 x27).length < 17592186044416 then (slices_Concat_int_int.l1 k (x6 ++ (rd_L7 x25 x27)) x25 x26 (wrap64 (x27 + 1))) else (none)) else (none)) else (none)) else (some x6)
end
def slices_Concat_int_int.f (k : Nat) (l0 : List (List Int)) : Option (List Int) := slices_Concat_int_int.l0 k l0 0 l0 (l0.length : Int) 0
theorem slices_Concat_int_int.mono_l : ∀ k, (∀ y0 y1 y2 y3 y4, LeO (slices_Concat_int_int.l0 k y0 y1 y2 y3 y4) (slices_Concat_int_int.l0 (k + 1) y0 y1 y2 y3 y4)) ∧ (∀ y0 y1 y2 y3, LeO (slices_Concat_int_int.l1 k y0 y1 y2 y3) (slices_Concat_int_int.l1 (k + 1) y0 y1 y2 y3))
 | 0 => ⟨fun _ _ _ _ _ r h => by simp [slices_Concat_int_int.l0] at h, fun _ _ _ _ r h => by simp [slices_Concat_int_int.l1] at h⟩
 | k + 1 => by
  obtain ⟨ih0, ih1⟩ := slices_Concat_int_int.mono_l k
  refine ⟨?_, ?_⟩
  ·
   intro y0 y1 y2 y3 y4
   unfold slices_Concat_int_int.l0
   exact leo_
  ·
   intro y0 y1 y2 y3
   unfold slices_Concat_int_int.l1
   exact leo_
theorem slices_Concat_int_int.mono : ∀ a0 k, LeO (slices_Concat_int_int.f k a0) (slices_Concat_int_int.f (k + 1) a0) := by
 intro a0 k
 obtain ⟨ih0, ih1⟩ := slices_Concat_int_int.mono_l k
 unfold slices_Concat_int_int.f
 exact leo_
set_option maxHeartbeats 8000000 in
set_option maxRecDepth 100000 in
theorem slices_Concat_int_int.calls (k : Nat) (A0 : Option Addr) (c0 : Nat) (l0 : List (List Int)) (r : List Int) (w : World) (hr0 : Kd.C (Kd.slice 3 (Kd.int .i64)) w A0 l0.length l0) (hc0 : l0.length ≤ c0) (h : slices_Concat_int_int.f k l0 = some r) :
  Calls Tryz.prog 95 #[.slice A0 l0.length c0] w fun e w' => ∃ v0_ : Value, e = .returned (v0_) ∧ Kd.R (Kd.int .i64) 3 w' w.heap.size (fun _ => True) v0_ r ∧ Below w.heap.size w w' := by
 have HR0 := Aside0.mk hr0
 have HC0 := Aside0.mk hc0
 clear hr0 hc0
 have HB := Aside0.mk (Below.refl w.heap.size w)
 unfold slices_Concat_int_int.f at h
 have H := h
 clear h
 have H' := Aside0.mk H
 clear H
 go_enter Tryz.func95, Tryz.ntmps95
 go_wp2
 go_loopg [3, 11] k (fun kq v3 v11 w' => ∃ (x3_1 : Int) (x11_1 : Int), v3 = .int .i64 x3_1 ∧ v11 = .int .i64 x11_1 ∧ Aside0 (slices_Concat_int_int.l0 kq l0 x3_1 l0 (l0.length : Int) x11_1 = some r) ∧ Aside0 (kq ≤ k) ∧ Aside0 (Below w.heap.size w w'))
 case atStart => exact ⟨(0), (0), eq_, eq_, H', ⟨Nat.le_refl _⟩, ⟨bel_⟩⟩
 case round =>
  clear H'
  obtain ⟨x3_1, x11_1, rfl, rfl, HA, HK1, HB⟩ := hrel
  cases gk with
  | zero => exact absurd HA.out (by simp [slices_Concat_int_int.l0])
  | succ k1 =>
   have H := HA.out
   clear HA
   simp only [slices_Concat_int_int.l0] at H
   by_cases c2 : x11_1 < (l0.length : Int)
   ·
    rw [if_pos c2] at H
    have c2b0 : decide (x11_1 < (l0.length : Int)) = true := decide_eq_true c2
    clear c2
    by_cases c3 : 0 ≤ x11_1
    ·
     rw [if_pos c3] at H
     have c3b0 : decide (0 ≤ x11_1) = true := decide_eq_true c3
     clear c3
     by_cases c4 : x11_1 < (l0.length : Int)
     ·
      rw [if_pos c4] at H
      have c4b0 : decide (x11_1 < (l0.length : Int)) = true := decide_eq_true c4
      clear c4
      by_cases c5 : (wrap64 (x3_1 + ((rd_L7 l0 x11_1).length : Int))) < 0
      ·
       rw [if_pos c5] at H
       exact absurd H (by simp)
      ·
       rw [if_neg c5] at H
       have c5b0 : decide ((wrap64 (x3_1 + ((rd_L7 l0 x11_1).length : Int))) < 0) = false := decide_eq_false c5
       clear c5
       have H' := Aside0.mk H
       clear H
       have p251 : 0 ≤ (x11_1 : Int) := dq_
       have q251 : x11_1 < (l0.length : Int) := dq_
       obtain ⟨ad251, A251_0, c251_0, e251, hx251_0, hl251_0, hi251_0⟩ := at_L7 HR0.out x11_1 p251 q251
       cases e251
       replace hx251_0 := (HB.out.cell (World.block_lt_of_cell? w _ hx251_0)).trans hx251_0
       have HC251_0 := Aside0.mk hl251_0
       clear hi251_0 hl251_0
       replace p251 := eq_true p251
       replace q251 := eq_true q251
       go_wp2
       go_roundg k1
       case measure => have := HK1.out; omega
       case rel => exact ⟨(wrap64 (x3_1 + ((rd_L7 l0 x11_1).length : Int))), (wrap64 (x11_1 + 1)), eq_, eq_, H', ⟨by have := HK1.out; omega⟩, ⟨bel_⟩⟩
     ·
      rw [if_neg c4] at H
      exact absurd H (by simp)
    ·
     rw [if_neg c3] at H
     exact absurd H (by simp)
   ·
    rw [if_neg c2] at H
    have c2b0 : decide (x11_1 < (l0.length : Int)) = false := decide_eq_false c2
    clear c2
    replace H := Option.bind_eq_some_iff.mp H
    obtain ⟨t252, A60, H⟩ := H
    try dsimp only at H
    have A6 := Aside0.mk A60
    clear A60
    have H' := Aside0.mk H
    clear H
    go_wp2_with (first | ((with_reducible refine gate_callee (f := 103) rfl ?_); refine goesL_ (some 24) rfl rfl Tryz.func103 (by kernel_rfl) rfl #[.slice none 0 0, .int .i64 x3_1] rfl ar_ ?_; (with_reducible refine (slices_GrowNil.calls x3_1 t252 _ A6.out).mono ?_); rintro e w7 ⟨v253, rfl, ho0, hb⟩; refine ⟨_, rfl, ?_⟩; have HO254 := Aside0.mk (Kd.R_lower ho0 (below_size bel_)); replace HB := Aside0.mk (below_step bel_ hb); clear hb ho0))
    go_loopg [6, 27] k1 (fun kq v6 v27 w' => ∃ (x6_2 : List Int) (x27_2 : Int), v27 = .int .i64 x27_2 ∧ Aside0 (slices_Concat_int_int.l1 kq x6_2 l0 (l0.length : Int) x27_2 = some r) ∧ Aside0 (kq ≤ k1) ∧ Aside0 (Kd.R (Kd.int .i64) 3 w' w.heap.size (fun _ => True) v6 x6_2) ∧ Aside0 (Below w.heap.size w w'))
    case atStart => exact ⟨(t252), (0), eq_, H', ⟨Nat.le_refl _⟩, ⟨by refine vR_ ?_; exact HO254.out⟩, ⟨bel_⟩⟩
    case round =>
     clear H'
     try clear c1
     try clear c2
     try clear c2b0
     try clear p2
     try clear q2
     try clear hx2
     try clear c3
     try clear c3b0
     try clear c4
     try clear c4b0
     try clear c5
     try clear c5b0
     try clear p6
     try clear hx251_0
     try clear p251
     try clear q251
     obtain ⟨x6_2, x27_2, rfl, HA, HK2, HO_6, HB⟩ := hrel
     cases gk with
     | zero => exact absurd HA.out (by simp [slices_Concat_int_int.l1])
     | succ k2 =>
      have H := HA.out
      clear HA
      simp only [slices_Concat_int_int.l1] at H
      by_cases c8 : x27_2 < (l0.length : Int)
      ·
       rw [if_pos c8] at H
       have c8b0 : decide (x27_2 < (l0.length : Int)) = true := decide_eq_true c8
       clear c8
       by_cases c9 : 0 ≤ x27_2
       ·
        rw [if_pos c9] at H
        have c9b0 : decide (0 ≤ x27_2) = true := decide_eq_true c9
        clear c9
        by_cases c10 : x27_2 < (l0.length : Int)
        ·
         rw [if_pos c10] at H
         have c10b0 : decide (x27_2 < (l0.length : Int)) = true := decide_eq_true c10
         clear c10
         by_cases c11 : x6_2.length + (rd_L7 l0 x27_2).length < 17592186044416
         ·
          rw [if_pos c11] at H
          have LMc11 := Aside0.mk c11
          clear c11
          obtain ⟨y256, hy256⟩ : ∃ y_ : List Int, y_ = (x6_2 ++ (rd_L7 l0 x27_2)) := ⟨_, rfl⟩
          replace H : (slices_Concat_int_int.l1 k2 y256 l0 (l0.length : Int) (wrap64 (x27_2 + 1))) = some r := by first | (rw [hy256]; with_reducible exact H) | (have H2_ := (Option.bind_some _ _).symm.trans H; rw [hy256]; with_reducible exact H2_) | (have H2_ := (Option.bind_some _ _).symm.trans H; with_reducible exact H2_) | with_reducible exact H | (rw [hy256]; exact H) | exact H
          have Ny256 := Aside0.mk hy256
          clear hy256
          have H' := Aside0.mk H
          clear H
          have p255 : 0 ≤ (x27_2 : Int) := dq_
          have q255 : x27_2 < (l0.length : Int) := dq_
          obtain ⟨ad255, A255_0, c255_0, e255, hx255_0, hl255_0, hi255_0⟩ := at_L7 HR0.out x27_2 p255 q255
          cases e255
          replace hx255_0 := (HB.out.cell (World.block_lt_of_cell? w _ hx255_0)).trans hx255_0
          have HR255_0 := Aside0.mk hi255_0
          have HC255_0 := Aside0.mk hl255_0
          clear hi255_0 hl255_0
          replace p255 := eq_true p255
          replace q255 := eq_true q255
          go_wp2_with (first | ((with_reducible refine gate_builtin (b := .append) (xs := #[.tmp 31, .tmp 32]) rfl ?_); at_builtin; refine Kd.R_append_rows (Kd.int .i64) (w0 := w) w.heap.size rfl (.tmp 31) (.tmp 32) 30 3 (.int .i64 0) 8 rfl Tryz.underlying30 info3 rfl (by decide) (by omega) u6 x6_2 (rd_L7 l0 x27_2) _ _ _ (fun _ => True) (fun _ => False) rfl rfl ?aO ?aR (fun _ _ h => h) (fun _ h => h.elim) ?aF ?aB ?aS ?aL ?_; (case aR => repeat (first | exact (Kd.C_below HR255_0.out HB.out) | (with_reducible refine Kd.C_alloc ?_ _) | (with_reducible refine Kd.C_drewN ?_ _) | (with_reducible refine Kd.C_drew ?_))); (case aB => exact bel_); (case aF => exact (fun _ _ => trivial)); (case aO => exact (vR_ HO_6.out)); (case aS => exact (below_size bel_)); (case aL => have := LMc11.out; omega); intro v257 w12 ho hb hg hat; rw [← Ny256.out] at ho; replace HB := Aside0.mk (hb); have HO258 := Aside0.mk (ho); clear HO_6; clear ho hb hg hat))
          go_roundg k2
          case measure => have := HK1.out; have := HK2.out; omega
          case rel => exact ⟨(y256), (wrap64 (x27_2 + 1)), eq_, H', ⟨by have := HK1.out; have := HK2.out; omega⟩, ⟨by refine vR_ ?_; exact HO258.out⟩, ⟨bel_⟩⟩
         ·
          rw [if_neg c11] at H
          exact absurd H (by simp)
        ·
         rw [if_neg c10] at H
         exact absurd H (by simp)
       ·
        rw [if_neg c9] at H
        exact absurd H (by simp)
      ·
       rw [if_neg c8] at H
       have c8b0 : decide (x27_2 < (l0.length : Int)) = false := decide_eq_false c8
       clear c8
       obtain rfl := Option.some.inj H
       go_wp2
       go_ret
       exact ⟨_, by first | rfl | (simp [errW_none, errW_some] <;> rfl) | (simp [*, errW_none, errW_some] <;> rfl), by refine vR_ ?_; exact HO_6.out, bel_⟩

/-! ### model_Vars: function 78 -/
def model_Vars.f (k : Nat) (a0_0 : Int) (l0_1 : List Int) (l0_2 : List Int) (l0_3 : List Int) (l0_4 : List Int) (l0_5 : List Int) (a0_6 : Int) (l0_7 : List (List Int)) : Option (List Int) := (slices_Concat_int_int.f k (([l0_1, l0_2] : List (List Int)))).bind fun t263 => (some t263)
theorem model_Vars.mono : ∀ a0 a1 a2 a3 a4 a5 a6 a7 k, LeO (model_Vars.f k a0 a1 a2 a3 a4 a5 a6 a7) (model_Vars.f (k + 1) a0 a1 a2 a3 a4 a5 a6 a7) := by
 intro a0 a1 a2 a3 a4 a5 a6 a7 k
 unfold model_Vars.f
 have m0 := @slices_Concat_int_int.mono
 exact leo_
set_option maxHeartbeats 8000000 in
set_option maxRecDepth 100000 in
theorem model_Vars.calls (k : Nat) (a0_0 : Int) (P0_1_ : Nat → Prop) (A0_1 : Option Addr) (c0_1 : Nat) (l0_1 : List Int) (P0_2_ : Nat → Prop) (A0_2 : Option Addr) (c0_2 : Nat) (l0_2 : List Int) (A0_3 : Option Addr) (c0_3 : Nat) (l0_3 : List Int) (A0_4 : Option Addr) (c0_4 : Nat) (l0_4 : List Int) (A0_5 : Option Addr) (c0_5 : Nat) (l0_5 : List Int) (a0_6 : Int) (A0_7 : Option Addr) (c0_7 : Nat) (l0_7 : List (List Int)) (r : List Int) (w : World) (hs0_1 : Kd.V (Kd.int .i64) 3 w w.heap.size (fun k_ => P0_1_ k_) (.slice A0_1 l0_1.length c0_1) l0_1) (hs0_2 : Kd.V (Kd.int .i64) 3 w w.heap.size (fun k_ => P0_2_ k_) (.slice A0_2 l0_2.length c0_2) l0_2) (hr0_3 : Kd.C (Kd.int .i64) w A0_3 l0_3.length l0_3) (hc0_3 : l0_3.length ≤ c0_3) (hr0_4 : Kd.C (Kd.int .i64) w A0_4 l0_4.length l0_4) (hc0_4 : l0_4.length ≤ c0_4) (hr0_5 : Kd.C (Kd.int .i64) w A0_5 l0_5.length l0_5) (hc0_5 : l0_5.length ≤ c0_5) (hr0_7 : Kd.C (Kd.slice 3 (Kd.int .i64)) w A0_7 l0_7.length l0_7) (hc0_7 : l0_7.length ≤ c0_7) (h : model_Vars.f k a0_0 l0_1 l0_2 l0_3 l0_4 l0_5 a0_6 l0_7 = some r) :
  Calls Tryz.prog 78 #[.agg #[.int .i64 a0_0, .slice A0_1 l0_1.length c0_1, .slice A0_2 l0_2.length c0_2, .slice A0_3 l0_3.length c0_3, .slice A0_4 l0_4.length c0_4, .slice A0_5 l0_5.length c0_5, .int .i64 a0_6, .slice A0_7 l0_7.length c0_7]] w fun e w' => ∃ v0_ : Value, e = .returned (v0_) ∧ Kd.R (Kd.int .i64) 3 w' w.heap.size (fun k_ => (w.heap.size ≤ k_)) v0_ r ∧ Below w.heap.size w w' := by
 have hu32 := Tryz.underlying32
 have HO0_1 := Aside0.mk (show Kd.V (Kd.int .i64) 3 w w.heap.size (fun k_ => ((P0_1_ k_ ∨ P0_2_ k_) ∨ w.heap.size ≤ k_)) (.slice A0_1 l0_1.length c0_1) l0_1 from Kd.V_mono hs0_1 (fun k_ hk => .inl (.inl hk)))
 have HO0_2 := Aside0.mk (show Kd.V (Kd.int .i64) 3 w w.heap.size (fun k_ => ((P0_1_ k_ ∨ P0_2_ k_) ∨ w.heap.size ≤ k_)) (.slice A0_2 l0_2.length c0_2) l0_2 from Kd.V_mono hs0_2 (fun k_ hk => .inl (.inr hk)))
 have HC0_3 := Aside0.mk hc0_3
 clear hr0_3 hc0_3
 have HC0_4 := Aside0.mk hc0_4
 clear hr0_4 hc0_4
 have HC0_5 := Aside0.mk hc0_5
 clear hr0_5 hc0_5
 have HC0_7 := Aside0.mk hc0_7
 clear hr0_7 hc0_7
 have HB := Aside0.mk (Below.refl w.heap.size w)
 unfold model_Vars.f at h
 have H := h
 clear h
 obtain ⟨y260, hy260⟩ : ∃ y_ : List (List Int), y_ = (([l0_1, l0_2] : List (List Int))) := ⟨_, rfl⟩
 replace H : ((slices_Concat_int_int.f k y260).bind fun t263 => (some t263)) = some r := by first | (rw [hy260]; with_reducible exact H) | (have H2_ := (Option.bind_some _ _).symm.trans H; rw [hy260]; with_reducible exact H2_) | (have H2_ := (Option.bind_some _ _).symm.trans H; with_reducible exact H2_) | with_reducible exact H | (rw [hy260]; exact H) | exact H
 have Ny260 := Aside0.mk hy260
 clear hy260
 replace H := Option.bind_eq_some_iff.mp H
 obtain ⟨t263, A20, H⟩ := H
 try dsimp only at H
 have A2 := Aside0.mk A20
 clear A20
 obtain rfl := Option.some.inj H
 go_enter Tryz.func78, Tryz.ntmps78
 go_wp2_with (first | ((with_reducible refine gate_dst (N := 1) rfl ?_); refine bxe_ (N := 1) (cs := #[.int .i64 a0_0, .slice A0_1 l0_1.length c0_1, .slice A0_2 l0_2.length c0_2, .slice A0_3 l0_3.length c0_3, .slice A0_4 l0_4.length c0_4, .slice A0_5 l0_5.length c0_5, .int .i64 a0_6, .slice A0_7 l0_7.length c0_7]) (t := 32) ?_; intro gb259 hg w3 hbox hb; replace HO0_1 := Aside0.mk (Kd.V_below (Kd.V_elderB (vV_ HO0_1.out) gb259 (Nat.le_of_eq hg.symm)) hb); replace HO0_2 := Aside0.mk (Kd.V_below (Kd.V_elderB (vV_ HO0_2.out) gb259 (Nat.le_of_eq hg.symm)) hb); have BK259 := Aside0.mk (hbox); have GW259 := Aside0.mk (by rw [hg]; exact (below_size bel_) : w.heap.size ≤ gb259); have GE259 := GW259; replace HB := Aside0.mk (below_step bel_ hb); clear hb hbox hg; obtain ⟨_, _, _, _, _, _, _, _, _, _, _, _, _, _, _, _⟩ := cel8_ BK259.out) | ((with_reducible refine gate_dst (N := 7) rfl ?_); refine Kd.N_lit (Kd.slice 3 (Kd.int .i64)) _ 30 ?hg (N' := 7) ?hd (xs := ([l0_1, l0_2] : List (List Int))) (inner := [.slice A0_1 l0_1.length c0_1, .slice A0_2 l0_2.length c0_2]) (ok := (fun k_ => ((P0_1_ k_ ∨ P0_2_ k_) ∨ w.heap.size ≤ k_) ∧ k_ ≠ gb259)) (okp := (fun k_ => ((P0_1_ k_ ∨ P0_2_ k_) ∨ w.heap.size ≤ k_) ∧ k_ ≠ gb259)) ?hr ?hp (fun _ hk => hk) ((show ∀ k_, w3.heap.size ≤ k_ → (fun k_ => ((P0_1_ k_ ∨ P0_2_ k_) ∨ w.heap.size ≤ k_) ∧ k_ ≠ gb259) k_ from fun k_ hk => ⟨(.inr (Nat.le_trans (below_size bel_) hk)), Kd.freshB (bk_ BK259.out) k_ hk⟩) _ (Nat.le_refl _)) (Below.refl _ _) (Nat.le_refl _) (by simp) ?_; (case hd => rfl); (case hg => rfl); (case hr => first | (go_simp; done) | (go_simp; rfl)); (case hp => exact (Reps.one (show Kd.FK (Kd.slice 3 (Kd.int .i64)) _ _ l0_1 [.slice A0_1 l0_1.length c0_1] from (Kd.FK_slice_mk (Kd.V_reads' (Kd.V_mono (ok' := (fun k_ => ((P0_1_ k_ ∨ P0_2_ k_) ∨ w.heap.size ≤ k_) ∧ k_ ≠ gb259)) (HO0_1.out) (fun k_ hk => ⟨hk.1, hk.2⟩))).2.1 (Kd.V_F (Kd.V_mono (ok' := (fun k_ => ((P0_1_ k_ ∨ P0_2_ k_) ∨ w.heap.size ≤ k_) ∧ k_ ≠ gb259)) (HO0_1.out) (fun k_ hk => ⟨hk.1, hk.2⟩))))) (Reps.one (show Kd.FK (Kd.slice 3 (Kd.int .i64)) _ _ l0_2 [.slice A0_2 l0_2.length c0_2] from (Kd.FK_slice_mk (Kd.V_reads' (Kd.V_mono (ok' := (fun k_ => ((P0_1_ k_ ∨ P0_2_ k_) ∨ w.heap.size ≤ k_) ∧ k_ ≠ gb259)) (HO0_2.out) (fun k_ hk => ⟨hk.1, hk.2⟩))).2.1 (Kd.V_F (Kd.V_mono (ok' := (fun k_ => ((P0_1_ k_ ∨ P0_2_ k_) ∨ w.heap.size ≤ k_) ∧ k_ ≠ gb259)) (HO0_2.out) (fun k_ hk => ⟨hk.1, hk.2⟩))))) (Reps.none _ _)))); intro v261 w5 ho6 hb hg_ hnew_; clear hg_ hnew_; (first | rw [← Ny260.out] at ho6 | (simp only [Int.reduceToNat] at ho6; rw [← Ny260.out] at ho6)); have HO262 := Aside0.mk (Kd.N_lower ho6 (below_size bel_)); replace HB := Aside0.mk (below_step bel_ hb); clear hb ho6; obtain ⟨Ao7, co7, eo7⟩ := Kd.N_slice HO262.out; subst eo7) | ((with_reducible refine gate_callee (f := 95) rfl ?_); refine goesL_ (some 8) rfl rfl Tryz.func95 (by kernel_rfl) rfl #[.slice Ao7 y260.length co7] rfl ar_ ?_; (with_reducible refine (slices_Concat_int_int.calls k _ _ y260 t263 _ ?_ ?_ A2.out).mono ?_); exact ca_ ((Kd.N_reads' HO262.out).2.2); exact (Kd.N_reads' HO262.out).2.1; rintro e w8 ⟨v264, rfl, ho0, hb⟩; refine ⟨_, rfl, ?_⟩; have HO265 := Aside0.mk (Kd.R_lower (Kd.R_newM (M := fun k_ => (w.heap.size ≤ k_)) ho0 (below_size bel_) (fun k_ h_ => h_)) (below_size bel_)); replace HB := Aside0.mk (below_step bel_ hb); clear hb ho0))
 go_ret
 exact ⟨_, by first | rfl | (simp [errW_none, errW_some] <;> rfl) | (simp [*, errW_none, errW_some] <;> rfl), by refine vR_ ?_; exact Kd.R_mono HO265.out (fun _ hk => hk.1), bel_⟩

/-! ### model_Right_1: function 79 -/
def model_Right_1.f (a0 : Int) (a1_0 : Int) : Option (Bool) := if a0 < 0 then (some true) else (some (decide (a0 ≥ a1_0)))
set_option maxHeartbeats 8000000 in
set_option maxRecDepth 100000 in
theorem model_Right_1.calls (a0 : Int) (B1 : Nat) (a1_0 : Int) (r : Bool) (w : World) (hbx1 : w.heap[B1]? = some (.cells #[.int .i64 a1_0] 3 (0, 0))) (h : model_Right_1.f a0 a1_0 = some r) :
  Calls Tryz.prog 79 #[.int .i64 a0, .pointer (some ⟨B1, 0, none⟩)] w fun e w' => e = .returned (.bool r) ∧ Drawn0 w w' := by
 have BKc1 := Aside0.mk hbx1
 clear hbx1
 unfold model_Right_1.f at h
 have H := h
 clear h
 by_cases c3 : a0 < 0
 ·
  rw [if_pos c3] at H
  have c3b0 : decide (a0 < 0) = true := decide_eq_true c3
  clear c3
  obtain rfl := Option.some.inj H
  go_enter Tryz.func79, Tryz.ntmps79
  go_wp2
  go_ret
  exact ⟨by first | rfl | (simp; done) | (simp [*]; done), by repeat (first | exact Drawn0.refl _ | apply Drawn0.step)⟩
 ·
  rw [if_neg c3] at H
  have c3b0 : decide (a0 < 0) = false := decide_eq_false c3
  clear c3
  obtain rfl := Option.some.inj H
  obtain ⟨_, _⟩ := cel1_ BKc1.out
  go_enter Tryz.func79, Tryz.ntmps79
  go_wp2
  go_ret
  exact ⟨by first | rfl | (simp; done) | (simp [*]; done), by repeat (first | exact Drawn0.refl _ | apply Drawn0.step)⟩

/-! ### model_bounded_1: function 104 -/
def model_bounded_1.f (a0 : Int) (a1_0 : Int) : Option (Bool) := if a0 < a1_0 then (some true) else (some (decide (a0 > 1000000)))
set_option maxHeartbeats 8000000 in
set_option maxRecDepth 100000 in
theorem model_bounded_1.calls (a0 : Int) (B1 : Nat) (a1_0 : Int) (r : Bool) (w : World) (hbx1 : w.heap[B1]? = some (.cells #[.int .i64 a1_0] 3 (0, 0))) (h : model_bounded_1.f a0 a1_0 = some r) :
  Calls Tryz.prog 104 #[.int .i64 a0, .pointer (some ⟨B1, 0, none⟩)] w fun e w' => e = .returned (.bool r) ∧ Drawn0 w w' := by
 have BKc1 := Aside0.mk hbx1
 clear hbx1
 unfold model_bounded_1.f at h
 have H := h
 clear h
 by_cases c3 : a0 < a1_0
 ·
  rw [if_pos c3] at H
  have c3b0 : decide (a0 < a1_0) = true := decide_eq_true c3
  clear c3
  obtain rfl := Option.some.inj H
  obtain ⟨_, _⟩ := cel1_ BKc1.out
  go_enter Tryz.func104, Tryz.ntmps104
  go_wp2
  go_ret
  exact ⟨by first | rfl | (simp; done) | (simp [*]; done), by repeat (first | exact Drawn0.refl _ | apply Drawn0.step)⟩
 ·
  rw [if_neg c3] at H
  have c3b0 : decide (a0 < a1_0) = false := decide_eq_false c3
  clear c3
  obtain rfl := Option.some.inj H
  obtain ⟨_, _⟩ := cel1_ BKc1.out
  go_enter Tryz.func104, Tryz.ntmps104
  go_wp2
  go_ret
  exact ⟨by first | rfl | (simp; done) | (simp [*]; done), by repeat (first | exact Drawn0.refl _ | apply Drawn0.step)⟩

/-! ### slices_IndexFunc_int_int_83_at_model_bounded_1: function 83 -/
def slices_IndexFunc_int_int_83_at_model_bounded_1.l0 : Nat → List Int → Int → Int → Int → Option (Int)
 | 0, _, _, _, _ => none
 | k + 1, x0, x7, x8, x7003000 => if x8 < x7 then (if 0 ≤ x8 then (if x8 < (x0.length : Int) then ((model_bounded_1.f (rd x0 x8) x7003000).bind fun t267 => (if t267 = true then (some x8) else (slices_IndexFunc_int_int_83_at_model_bounded_1.l0 k x0 x7 (wrap64 (x8 + 1)) x7003000))) else (none)) else (none)) else (some (-1))
def slices_IndexFunc_int_int_83_at_model_bounded_1.f (k : Nat) (l0 : List Int)  (a2_0 : Int) : Option (Int) := slices_IndexFunc_int_int_83_at_model_bounded_1.l0 k l0 (l0.length : Int) 0 a2_0
theorem slices_IndexFunc_int_int_83_at_model_bounded_1.mono_l : ∀ k, (∀ y0 y1 y2 y3, LeO (slices_IndexFunc_int_int_83_at_model_bounded_1.l0 k y0 y1 y2 y3) (slices_IndexFunc_int_int_83_at_model_bounded_1.l0 (k + 1) y0 y1 y2 y3))
 | 0 => fun _ _ _ _ r h => by simp [slices_IndexFunc_int_int_83_at_model_bounded_1.l0] at h
 | k + 1 => by
  have ih0 := slices_IndexFunc_int_int_83_at_model_bounded_1.mono_l k
  ·
   intro y0 y1 y2 y3
   unfold slices_IndexFunc_int_int_83_at_model_bounded_1.l0
   exact leo_
theorem slices_IndexFunc_int_int_83_at_model_bounded_1.mono : ∀ a0 a1 k, LeO (slices_IndexFunc_int_int_83_at_model_bounded_1.f k a0 a1) (slices_IndexFunc_int_int_83_at_model_bounded_1.f (k + 1) a0 a1) := by
 intro a0 a1 k
 have ih0 := slices_IndexFunc_int_int_83_at_model_bounded_1.mono_l k
 unfold slices_IndexFunc_int_int_83_at_model_bounded_1.f
 exact leo_
set_option maxHeartbeats 8000000 in
set_option maxRecDepth 100000 in
theorem slices_IndexFunc_int_int_83_at_model_bounded_1.calls (k : Nat) (A0 : Option Addr) (c0 : Nat) (l0 : List Int)  (B2 : Nat) (a2_0 : Int) (r : Int) (w : World) (hr0 : Kd.C (Kd.int .i64) w A0 l0.length l0) (hc0 : l0.length ≤ c0) (hbx2 : w.heap[B2]? = some (.cells #[.int .i64 a2_0] 3 (0, 0))) (h : slices_IndexFunc_int_int_83_at_model_bounded_1.f k l0 a2_0 = some r) :
  Calls Tryz.prog 83 #[.slice A0 l0.length c0, .func (.func 104) #[] #[.pointer (some ⟨B2, 0, none⟩)]] w fun e w' => e = .returned (.int .i64 r) ∧ Drawn0 w w' := by
 have HR0 := Aside0.mk hr0
 have HC0 := Aside0.mk hc0
 clear hr0 hc0
 have BKc2 := Aside0.mk hbx2
 clear hbx2
 unfold slices_IndexFunc_int_int_83_at_model_bounded_1.f at h
 have H := h
 clear h
 have H' := Aside0.mk H
 clear H
 go_enter Tryz.func83, Tryz.ntmps83
 go_wp2
 go_loopg [8] k (fun kq v8 w' => ∃ (x8_1 : Int), v8 = .int .i64 x8_1 ∧ Aside0 (slices_IndexFunc_int_int_83_at_model_bounded_1.l0 kq l0 (l0.length : Int) x8_1 a2_0 = some r) ∧ Aside0 (kq ≤ k) ∧ Aside0 (w'.heap[B2]? = some (.cells #[.int .i64 a2_0] 3 (0, 0))) ∧ Drawn0 w w')
 case atStart => exact ⟨(0), eq_, H', ⟨Nat.le_refl _⟩, ⟨by refine bk_ ?_; exact BKc2.out⟩, by repeat (first | exact Drawn0.refl _ | apply Drawn0.step)⟩
 case round =>
  clear H'
  try clear c2
  try clear p2
  obtain ⟨x8_1, rfl, HA, HK1, BKc2, ⟨m1, rfl⟩⟩ := hrel
  cases gk with
  | zero => exact absurd HA.out (by simp [slices_IndexFunc_int_int_83_at_model_bounded_1.l0])
  | succ k1 =>
   have H := HA.out
   clear HA
   simp only [slices_IndexFunc_int_int_83_at_model_bounded_1.l0] at H
   by_cases c4 : x8_1 < (l0.length : Int)
   ·
    rw [if_pos c4] at H
    have c4b0 : decide (x8_1 < (l0.length : Int)) = true := decide_eq_true c4
    clear c4
    by_cases c5 : 0 ≤ x8_1
    ·
     rw [if_pos c5] at H
     have c5b0 : decide (0 ≤ x8_1) = true := decide_eq_true c5
     clear c5
     by_cases c6 : x8_1 < (l0.length : Int)
     ·
      rw [if_pos c6] at H
      have c6b0 : decide (x8_1 < (l0.length : Int)) = true := decide_eq_true c6
      clear c6
      replace H := Option.bind_eq_some_iff.mp H
      obtain ⟨t267, A70, H⟩ := H
      try dsimp only at H
      have A7 := Aside0.mk A70
      clear A70
      by_cases c8 : t267 = true
      ·
       subst c8
       rw [if_pos rfl] at H
       obtain rfl := Option.some.inj H
       have p266 : 0 ≤ (x8_1 : Int) := dq_
       have q266 : x8_1 < (l0.length : Int) := dq_
       obtain ⟨ad266, e266, hx266_0⟩ := Kd.at_int HR0.out x8_1 p266 q266
       cases e266
       replace p266 := eq_true p266
       replace q266 := eq_true q266
       go_wp2_with (first | (go_at_call 104; (with_reducible refine (model_bounded_1.calls (rd l0 x8_1) B2 a2_0 true _ ?side1 A7.out).mono ?_); (case side1 => exact by refine bk_ ?_; exact BKc2.out); rintro e w' ⟨rfl, ⟨nd, rfl⟩⟩))
       go_ret
       exact ⟨by first | rfl | (simp; done) | (simp [*]; done), by repeat (first | exact Drawn0.refl _ | apply Drawn0.step)⟩
      ·
       replace c8 := Bool.eq_false_iff.mpr c8
       subst c8
       have H1 : (slices_IndexFunc_int_int_83_at_model_bounded_1.l0 k1 l0 (l0.length : Int) (wrap64 (x8_1 + 1)) a2_0) = some r := by rw [if_neg (show ¬ (false = true) by decide)] at H; exact H
       clear H
       have H := H1
       clear H1
       have H' := Aside0.mk H
       clear H
       have p266 : 0 ≤ (x8_1 : Int) := dq_
       have q266 : x8_1 < (l0.length : Int) := dq_
       obtain ⟨ad266, e266, hx266_0⟩ := Kd.at_int HR0.out x8_1 p266 q266
       cases e266
       replace p266 := eq_true p266
       replace q266 := eq_true q266
       go_wp2_with (first | (go_at_call 104; (with_reducible refine (model_bounded_1.calls (rd l0 x8_1) B2 a2_0 false _ ?side1 A7.out).mono ?_); (case side1 => exact by refine bk_ ?_; exact BKc2.out); rintro e w' ⟨rfl, ⟨nd, rfl⟩⟩))
       go_roundg k1
       case measure => have := HK1.out; omega
       case rel => exact ⟨(wrap64 (x8_1 + 1)), eq_, H', ⟨by have := HK1.out; omega⟩, ⟨by refine bk_ ?_; exact BKc2.out⟩, by repeat (first | exact Drawn0.refl _ | apply Drawn0.step)⟩
     ·
      rw [if_neg c6] at H
      exact absurd H (by simp)
    ·
     rw [if_neg c5] at H
     exact absurd H (by simp)
   ·
    rw [if_neg c4] at H
    have c4b0 : decide (x8_1 < (l0.length : Int)) = false := decide_eq_false c4
    clear c4
    obtain rfl := Option.some.inj H
    go_wp2
    go_ret
    exact ⟨by first | rfl | (simp; done) | (simp [*]; done), by repeat (first | exact Drawn0.refl _ | apply Drawn0.step)⟩

/-! ### slices_ContainsFunc_int_int_60_at_model_bounded_1: function 60 -/
def slices_ContainsFunc_int_int_60_at_model_bounded_1.f (k : Nat) (l0 : List Int)  (a2_0 : Int) : Option (Bool) := (slices_IndexFunc_int_int_83_at_model_bounded_1.f k l0 a2_0).bind fun t268 => (some (decide (t268 ≥ 0)))
theorem slices_ContainsFunc_int_int_60_at_model_bounded_1.mono : ∀ a0 a1 k, LeO (slices_ContainsFunc_int_int_60_at_model_bounded_1.f k a0 a1) (slices_ContainsFunc_int_int_60_at_model_bounded_1.f (k + 1) a0 a1) := by
 intro a0 a1 k
 unfold slices_ContainsFunc_int_int_60_at_model_bounded_1.f
 have m0 := @slices_IndexFunc_int_int_83_at_model_bounded_1.mono
 exact leo_
set_option maxHeartbeats 8000000 in
set_option maxRecDepth 100000 in
theorem slices_ContainsFunc_int_int_60_at_model_bounded_1.calls (k : Nat) (A0 : Option Addr) (c0 : Nat) (l0 : List Int)  (B2 : Nat) (a2_0 : Int) (r : Bool) (w : World) (hr0 : Kd.C (Kd.int .i64) w A0 l0.length l0) (hc0 : l0.length ≤ c0) (hbx2 : w.heap[B2]? = some (.cells #[.int .i64 a2_0] 3 (0, 0))) (h : slices_ContainsFunc_int_int_60_at_model_bounded_1.f k l0 a2_0 = some r) :
  Calls Tryz.prog 60 #[.slice A0 l0.length c0, .func (.func 104) #[] #[.pointer (some ⟨B2, 0, none⟩)]] w fun e w' => e = .returned (.bool r) ∧ Drawn0 w w' := by
 have HR0 := Aside0.mk hr0
 have HC0 := Aside0.mk hc0
 clear hr0 hc0
 have BKc2 := Aside0.mk hbx2
 clear hbx2
 unfold slices_ContainsFunc_int_int_60_at_model_bounded_1.f at h
 have H := h
 clear h
 replace H := Option.bind_eq_some_iff.mp H
 obtain ⟨t268, A40, H⟩ := H
 try dsimp only at H
 have A4 := Aside0.mk A40
 clear A40
 obtain rfl := Option.some.inj H
 go_enter Tryz.func60, Tryz.ntmps60
 go_wp2_with (first | ((with_reducible refine gate_callee (f := 83) rfl ?_); refine goesL_ (some 7) rfl rfl Tryz.func83 (by kernel_rfl) rfl #[.slice A0 l0.length c0, .func (.func 104) #[] #[.pointer (some ⟨B2, 0, none⟩)]] rfl ar_ ?_; (with_reducible refine (slices_IndexFunc_int_int_83_at_model_bounded_1.calls k _ _ l0 B2 a2_0 t268 _ ?side1 ?side2 ?side3 A4.out).mono ?_); (case side1 => exact ca_ (HR0.out)); (case side2 => exact HC0.out); (case side3 => exact by refine bk_ ?_; exact BKc2.out); rintro e w' ⟨rfl, ⟨nd, rfl⟩⟩; refine ⟨_, rfl, ?_⟩))
 go_ret
 exact ⟨by first | rfl | (simp; done) | (simp [*]; done), by repeat (first | exact Drawn0.refl _ | apply Drawn0.step)⟩

/-! ### model_bounded: function 96 -/
def model_bounded.f (k : Nat) (l0 : List Int) (a1 : Int) : Option (Bool) := (slices_ContainsFunc_int_int_60_at_model_bounded_1.f k l0 a1).bind fun t270 => (some (!t270))
theorem model_bounded.mono : ∀ a0 a1 k, LeO (model_bounded.f k a0 a1) (model_bounded.f (k + 1) a0 a1) := by
 intro a0 a1 k
 unfold model_bounded.f
 have m0 := @slices_ContainsFunc_int_int_60_at_model_bounded_1.mono
 exact leo_
set_option maxHeartbeats 8000000 in
set_option maxRecDepth 100000 in
theorem model_bounded.calls (k : Nat) (A0 : Option Addr) (c0 : Nat) (l0 : List Int) (a1 : Int) (r : Bool) (w : World) (hr0 : Kd.C (Kd.int .i64) w A0 l0.length l0) (hc0 : l0.length ≤ c0) (h : model_bounded.f k l0 a1 = some r) :
  Calls Tryz.prog 96 #[.slice A0 l0.length c0, .int .i64 a1] w fun e w' => e = .returned (.bool r) ∧ Below w.heap.size w w' := by
 have HR0 := Aside0.mk hr0
 have HC0 := Aside0.mk hc0
 clear hr0 hc0
 have HB := Aside0.mk (Below.refl w.heap.size w)
 unfold model_bounded.f at h
 have H := h
 clear h
 replace H := Option.bind_eq_some_iff.mp H
 obtain ⟨t270, A30, H⟩ := H
 try dsimp only at H
 have A3 := Aside0.mk A30
 clear A30
 obtain rfl := Option.some.inj H
 go_enter Tryz.func96, Tryz.ntmps96
 go_wp2_with (first | ((with_reducible refine gate_dst (N := 3) rfl ?_); refine bxe_ (N := 3) (cs := #[.int .i64 a1]) (t := 3) ?_; intro gb269 hg w4 hbox hb; have BK269 := Aside0.mk (hbox); have GW269 := Aside0.mk (by rw [hg]; exact (below_size bel_) : w.heap.size ≤ gb269); have GE269 := GW269; replace HB := Aside0.mk (below_step bel_ hb); clear hb hbox hg) | ((with_reducible refine gate_callee (f := 60) rfl ?_); refine goesL_ (some 7) rfl rfl Tryz.func60 (by kernel_rfl) rfl #[.slice A0 l0.length c0, .func (.func 104) #[] #[.pointer (some ⟨gb269, 0, none⟩)]] rfl ar_ ?_; (with_reducible refine (slices_ContainsFunc_int_int_60_at_model_bounded_1.calls k _ _ l0 gb269 a1 t270 _ ?side1 ?side2 ?side3 A3.out).mono ?_); (case side1 => exact ca_ ((Kd.C_below HR0.out HB.out))); (case side2 => exact HC0.out); (case side3 => exact by refine bk_ ?_; exact BK269.out); rintro e w' ⟨rfl, ⟨nd, rfl⟩⟩; refine ⟨_, rfl, ?_⟩))
 go_ret
 exact ⟨by first | rfl | (simp [errW_none, errW_some] <;> rfl) | (simp [*, errW_none, errW_some] <;> rfl), bel_⟩


/-! ### model_numbers: function 80 -/
def model_numbers.l0 : Nat → Int → Int → Int → Int → Int → Int → List Int → List Int → List Int → List Int → List Int → Int → List (List Int) → Option (Bool)
 | 0, _, _, _, _, _, _, _, _, _, _, _, _, _ => none
 | k + 1, x3, x4, x5, x16, x17, x272000, x272001, x272002, x272003, x272004, x272005, x272006, x272007 => if x17 < x16 then (none) else ((model_bounded.f k x272003 x3).bind fun t272 => (if t272 = true then ((model_bounded.f k x272004 x4).bind fun t273 => (if t273 = true then ((model_bounded.f k x272005 x4).bind fun t274 => (if t274 = true then (if x272006 ≥ x5 then (some (decide (x272006 ≤ 9999999999))) else (none)) else (none))) else (none))) else (none)))
def model_numbers.f (k : Nat) (a0_0 : Int) (l0_1 : List Int) (l0_2 : List Int) (l0_3 : List Int) (l0_4 : List Int) (l0_5 : List Int) (a0_6 : Int) (l0_7 : List (List Int)) : Option (Bool) := if a0_0 = 19 then (none) else (if a0_0 = 21 then (none) else (model_numbers.l0 k (-1000000) (-1000000) (-9999999999) (l0_7.length : Int) 0 a0_0 l0_1 l0_2 l0_3 l0_4 l0_5 a0_6 l0_7))
theorem model_numbers.mono_l : ∀ k, (∀ y0 y1 y2 y3 y4 y5 y6 y7 y8 y9 y10 y11 y12, LeO (model_numbers.l0 k y0 y1 y2 y3 y4 y5 y6 y7 y8 y9 y10 y11 y12) (model_numbers.l0 (k + 1) y0 y1 y2 y3 y4 y5 y6 y7 y8 y9 y10 y11 y12))
 | 0 => fun _ _ _ _ _ _ _ _ _ _ _ _ _ r h => by simp [model_numbers.l0] at h
 | k + 1 => by
  have ih0 := model_numbers.mono_l k
  ·
   intro y0 y1 y2 y3 y4 y5 y6 y7 y8 y9 y10 y11 y12
   unfold model_numbers.l0
   have m0 := @model_bounded.mono
   exact leo_
theorem model_numbers.mono : ∀ a0 a1 a2 a3 a4 a5 a6 a7 k, LeO (model_numbers.f k a0 a1 a2 a3 a4 a5 a6 a7) (model_numbers.f (k + 1) a0 a1 a2 a3 a4 a5 a6 a7) := by
 intro a0 a1 a2 a3 a4 a5 a6 a7 k
 have ih0 := model_numbers.mono_l k
 unfold model_numbers.f
 have m0 := @model_bounded.mono
 exact leo_
set_option maxHeartbeats 8000000 in
set_option maxRecDepth 100000 in
theorem model_numbers.calls (k : Nat) (a0_0 : Int) (A0_1 : Option Addr) (c0_1 : Nat) (l0_1 : List Int) (A0_2 : Option Addr) (c0_2 : Nat) (l0_2 : List Int) (A0_3 : Option Addr) (c0_3 : Nat) (l0_3 : List Int) (A0_4 : Option Addr) (c0_4 : Nat) (l0_4 : List Int) (A0_5 : Option Addr) (c0_5 : Nat) (l0_5 : List Int) (a0_6 : Int) (A0_7 : Option Addr) (c0_7 : Nat) (l0_7 : List (List Int)) (r : Bool) (w : World) (hr0_1 : Kd.C (Kd.int .i64) w A0_1 l0_1.length l0_1) (hc0_1 : l0_1.length ≤ c0_1) (hr0_2 : Kd.C (Kd.int .i64) w A0_2 l0_2.length l0_2) (hc0_2 : l0_2.length ≤ c0_2) (hr0_3 : Kd.C (Kd.int .i64) w A0_3 l0_3.length l0_3) (hc0_3 : l0_3.length ≤ c0_3) (hr0_4 : Kd.C (Kd.int .i64) w A0_4 l0_4.length l0_4) (hc0_4 : l0_4.length ≤ c0_4) (hr0_5 : Kd.C (Kd.int .i64) w A0_5 l0_5.length l0_5) (hc0_5 : l0_5.length ≤ c0_5) (hr0_7 : Kd.C (Kd.slice 3 (Kd.int .i64)) w A0_7 l0_7.length l0_7) (hc0_7 : l0_7.length ≤ c0_7) (h : model_numbers.f k a0_0 l0_1 l0_2 l0_3 l0_4 l0_5 a0_6 l0_7 = some r) :
  Calls Tryz.prog 80 #[.agg #[.int .i64 a0_0, .slice A0_1 l0_1.length c0_1, .slice A0_2 l0_2.length c0_2, .slice A0_3 l0_3.length c0_3, .slice A0_4 l0_4.length c0_4, .slice A0_5 l0_5.length c0_5, .int .i64 a0_6, .slice A0_7 l0_7.length c0_7]] w fun e w' => e = .returned (.bool r) ∧ Below w.heap.size w w' := by
 have hu32 := Tryz.underlying32
 have HC0_1 := Aside0.mk hc0_1
 clear hr0_1 hc0_1
 have HC0_2 := Aside0.mk hc0_2
 clear hr0_2 hc0_2
 have HR0_3 := Aside0.mk hr0_3
 have HC0_3 := Aside0.mk hc0_3
 clear hr0_3 hc0_3
 have HR0_4 := Aside0.mk hr0_4
 have HC0_4 := Aside0.mk hc0_4
 clear hr0_4 hc0_4
 have HR0_5 := Aside0.mk hr0_5
 have HC0_5 := Aside0.mk hc0_5
 clear hr0_5 hc0_5
 have HC0_7 := Aside0.mk hc0_7
 clear hr0_7 hc0_7
 have HB := Aside0.mk (Below.refl w.heap.size w)
 unfold model_numbers.f at h
 have H := h
 clear h
 by_cases c2 : a0_0 = 19
 ·
  rw [if_pos c2] at H
  exact absurd H (by simp)
 ·
  rw [if_neg c2] at H
  have c2b0 : (a0_0 == 19) = false := beq_eq_false_iff_ne.mpr c2
  have c2b1 : (a0_0 != 19) = true := bne_iff_ne.mpr c2
  by_cases c3 : a0_0 = 21
  ·
   rw [if_pos c3] at H
   exact absurd H (by simp)
  ·
   rw [if_neg c3] at H
   have c3b0 : (a0_0 == 21) = false := beq_eq_false_iff_ne.mpr c3
   have c3b1 : (a0_0 != 21) = true := bne_iff_ne.mpr c3
   have H' := Aside0.mk H
   clear H
   go_enter Tryz.func80, Tryz.ntmps80
   go_wp2_with (first | ((with_reducible refine gate_dst (N := 1) rfl ?_); refine bxe_ (N := 1) (cs := #[.int .i64 a0_0, .slice A0_1 l0_1.length c0_1, .slice A0_2 l0_2.length c0_2, .slice A0_3 l0_3.length c0_3, .slice A0_4 l0_4.length c0_4, .slice A0_5 l0_5.length c0_5, .int .i64 a0_6, .slice A0_7 l0_7.length c0_7]) (t := 32) ?_; intro gb271 hg w4 hbox hb; have BK271 := Aside0.mk (hbox); have GW271 := Aside0.mk (by rw [hg]; exact (below_size bel_) : w.heap.size ≤ gb271); have GE271 := GW271; replace HB := Aside0.mk (below_step bel_ hb); clear hb hbox hg; obtain ⟨_, _, _, _, _, _, _, _, _, _, _, _, _, _, _, _⟩ := cel8_ BK271.out))
   go_loopg [17] k (fun kq v17 w' => ∃ (x17_1 : Int), v17 = .int .i64 x17_1 ∧ Aside0 (model_numbers.l0 kq (-1000000) (-1000000) (-9999999999) (l0_7.length : Int) x17_1 a0_0 l0_1 l0_2 l0_3 l0_4 l0_5 a0_6 l0_7 = some r) ∧ Aside0 (kq ≤ k) ∧ Aside0 (w'.heap[gb271]? = some (.cells #[.int .i64 a0_0, (.slice A0_1 l0_1.length c0_1), (.slice A0_2 l0_2.length c0_2), (.slice A0_3 l0_3.length c0_3), (.slice A0_4 l0_4.length c0_4), (.slice A0_5 l0_5.length c0_5), .int .i64 a0_6, (.slice A0_7 l0_7.length c0_7)] 32 (0, 0))) ∧ Aside0 (Below w.heap.size w w'))
   case atStart => exact ⟨(0), eq_, H', ⟨Nat.le_refl _⟩, ⟨by refine bk_ ?_; exact BK271.out⟩, ⟨bel_⟩⟩
   case round =>
    clear H'
    try clear c2
    try clear c2b0
    try clear c2b1
    try clear p2
    try clear c3
    try clear c3b0
    try clear c3b1
    obtain ⟨x17_1, rfl, HA, HK1, BK271, HB⟩ := hrel
    cases gk with
    | zero => exact absurd HA.out (by simp [model_numbers.l0])
    | succ k1 =>
     have H := HA.out
     clear HA
     simp only [model_numbers.l0] at H
     by_cases c6 : x17_1 < (l0_7.length : Int)
     ·
      rw [if_pos c6] at H
      exact absurd H (by simp)
     ·
      rw [if_neg c6] at H
      have c6b0 : decide (x17_1 < (l0_7.length : Int)) = false := decide_eq_false c6
      clear c6
      replace H := Option.bind_eq_some_iff.mp H
      obtain ⟨t272, A70, H⟩ := H
      try dsimp only at H
      have A7 := Aside0.mk A70
      clear A70
      by_cases c8 : t272 = true
      ·
       subst c8
       rw [if_pos rfl] at H
       replace H := Option.bind_eq_some_iff.mp H
       obtain ⟨t273, A90, H⟩ := H
       try dsimp only at H
       have A9 := Aside0.mk A90
       clear A90
       by_cases c10 : t273 = true
       ·
        subst c10
        rw [if_pos rfl] at H
        replace H := Option.bind_eq_some_iff.mp H
        obtain ⟨t274, A110, H⟩ := H
        try dsimp only at H
        have A11 := Aside0.mk A110
        clear A110
        by_cases c12 : t274 = true
        ·
         subst c12
         rw [if_pos rfl] at H
         by_cases c13 : a0_6 ≥ (-9999999999)
         ·
          rw [if_pos c13] at H
          have c13b0 : decide ((-9999999999) ≤ a0_6) = true := decide_eq_true c13
          clear c13
          obtain rfl := Option.some.inj H
          obtain ⟨_, _, _, _, _, _, _, _, _, _, _, _, _, _, _, _⟩ := cel8_ BK271.out
          go_wp2_with (first | ((with_reducible refine gate_callee (f := 96) rfl ?_); refine goesL_ (some 29) rfl rfl Tryz.func96 (by kernel_rfl) rfl #[.slice A0_3 l0_3.length c0_3, .int .i64 (-1000000)] rfl ar_ ?_; (with_reducible refine (model_bounded.calls k1 _ _ l0_3 (-1000000) true _ ?_ ?_ A7.out).mono ?_); exact ca_ ((Kd.C_below HR0_3.out HB.out)); exact HC0_3.out; rintro e w15 ⟨rfl, hb⟩; refine ⟨_, rfl, ?_⟩; replace BK271 := Aside0.mk (blk_below (bk_ BK271.out) hb); replace HB := Aside0.mk (below_step bel_ hb); clear hb; obtain ⟨_, _, _, _, _, _, _, _, _, _, _, _, _, _, _, _⟩ := cel8_ BK271.out) | (go_at_call 96; (with_reducible refine (model_bounded.calls k1 _ _ l0_4 (-1000000) true _ ?_ ?_ A9.out).mono ?_); exact ca_ ((Kd.C_below HR0_4.out HB.out)); exact HC0_4.out; rintro e w17 ⟨rfl, hb⟩; replace BK271 := Aside0.mk (blk_below (bk_ BK271.out) hb); replace HB := Aside0.mk (below_step bel_ hb); clear hb; obtain ⟨_, _, _, _, _, _, _, _, _, _, _, _, _, _, _, _⟩ := cel8_ BK271.out) | (go_at_call 96; (with_reducible refine (model_bounded.calls k1 _ _ l0_5 (-1000000) true _ ?_ ?_ A11.out).mono ?_); exact ca_ ((Kd.C_below HR0_5.out HB.out)); exact HC0_5.out; rintro e w19 ⟨rfl, hb⟩; replace BK271 := Aside0.mk (blk_below (bk_ BK271.out) hb); replace HB := Aside0.mk (below_step bel_ hb); clear hb; obtain ⟨_, _, _, _, _, _, _, _, _, _, _, _, _, _, _, _⟩ := cel8_ BK271.out))
          go_ret
          exact ⟨by first | rfl | (simp [errW_none, errW_some] <;> rfl) | (simp [*, errW_none, errW_some] <;> rfl), bel_⟩
         ·
          rw [if_neg c13] at H
          exact absurd H (by simp)
        ·
         replace c12 := Bool.eq_false_iff.mpr c12
         subst c12
         have H1 : (none) = some r := by rw [if_neg (show ¬ (false = true) by decide)] at H; exact H
         clear H
         have H := H1
         clear H1
         exact absurd H (by simp)
       ·
        replace c10 := Bool.eq_false_iff.mpr c10
        subst c10
        have H1 : (none) = some r := by rw [if_neg (show ¬ (false = true) by decide)] at H; exact H
        clear H
        have H := H1
        clear H1
        exact absurd H (by simp)
      ·
       replace c8 := Bool.eq_false_iff.mpr c8
       subst c8
       have H1 : (none) = some r := by rw [if_neg (show ¬ (false = true) by decide)] at H; exact H
       clear H
       have H := H1
       clear H1
       exact absurd H (by simp)

/-! ### model_counts: function 81 -/
def model_counts.f (a0_0 : Int) (l0_1 : List Int) (l0_2 : List Int) (l0_3 : List Int) (l0_4 : List Int) (l0_5 : List Int) (a0_6 : Int) (l0_7 : List (List Int)) : Option (Bool) := if a0_0 = 21 then (none) else (some true)
set_option maxHeartbeats 8000000 in
set_option maxRecDepth 100000 in
theorem model_counts.calls (a0_0 : Int) (A0_1 : Option Addr) (c0_1 : Nat) (l0_1 : List Int) (A0_2 : Option Addr) (c0_2 : Nat) (l0_2 : List Int) (A0_3 : Option Addr) (c0_3 : Nat) (l0_3 : List Int) (A0_4 : Option Addr) (c0_4 : Nat) (l0_4 : List Int) (A0_5 : Option Addr) (c0_5 : Nat) (l0_5 : List Int) (a0_6 : Int) (A0_7 : Option Addr) (c0_7 : Nat) (l0_7 : List (List Int)) (r : Bool) (w : World) (hr0_1 : Kd.C (Kd.int .i64) w A0_1 l0_1.length l0_1) (hc0_1 : l0_1.length ≤ c0_1) (hr0_2 : Kd.C (Kd.int .i64) w A0_2 l0_2.length l0_2) (hc0_2 : l0_2.length ≤ c0_2) (hr0_3 : Kd.C (Kd.int .i64) w A0_3 l0_3.length l0_3) (hc0_3 : l0_3.length ≤ c0_3) (hr0_4 : Kd.C (Kd.int .i64) w A0_4 l0_4.length l0_4) (hc0_4 : l0_4.length ≤ c0_4) (hr0_5 : Kd.C (Kd.int .i64) w A0_5 l0_5.length l0_5) (hc0_5 : l0_5.length ≤ c0_5) (hr0_7 : Kd.C (Kd.slice 3 (Kd.int .i64)) w A0_7 l0_7.length l0_7) (hc0_7 : l0_7.length ≤ c0_7) (h : model_counts.f a0_0 l0_1 l0_2 l0_3 l0_4 l0_5 a0_6 l0_7 = some r) :
  Calls Tryz.prog 81 #[.agg #[.int .i64 a0_0, .slice A0_1 l0_1.length c0_1, .slice A0_2 l0_2.length c0_2, .slice A0_3 l0_3.length c0_3, .slice A0_4 l0_4.length c0_4, .slice A0_5 l0_5.length c0_5, .int .i64 a0_6, .slice A0_7 l0_7.length c0_7]] w fun e w' => e = .returned (.bool r) ∧ Below w.heap.size w w' := by
 have hu32 := Tryz.underlying32
 have HC0_1 := Aside0.mk hc0_1
 clear hr0_1 hc0_1
 have HC0_2 := Aside0.mk hc0_2
 clear hr0_2 hc0_2
 have HC0_3 := Aside0.mk hc0_3
 clear hr0_3 hc0_3
 have HC0_4 := Aside0.mk hc0_4
 clear hr0_4 hc0_4
 have HC0_5 := Aside0.mk hc0_5
 clear hr0_5 hc0_5
 have HC0_7 := Aside0.mk hc0_7
 clear hr0_7 hc0_7
 have HB := Aside0.mk (Below.refl w.heap.size w)
 unfold model_counts.f at h
 have H := h
 clear h
 by_cases c2 : a0_0 = 21
 ·
  rw [if_pos c2] at H
  exact absurd H (by simp)
 ·
  rw [if_neg c2] at H
  have c2b0 : (a0_0 == 21) = false := beq_eq_false_iff_ne.mpr c2
  have c2b1 : (a0_0 != 21) = true := bne_iff_ne.mpr c2
  obtain rfl := Option.some.inj H
  go_enter Tryz.func81, Tryz.ntmps81
  go_wp2_with (first | ((with_reducible refine gate_dst (N := 1) rfl ?_); refine bxe_ (N := 1) (cs := #[.int .i64 a0_0, .slice A0_1 l0_1.length c0_1, .slice A0_2 l0_2.length c0_2, .slice A0_3 l0_3.length c0_3, .slice A0_4 l0_4.length c0_4, .slice A0_5 l0_5.length c0_5, .int .i64 a0_6, .slice A0_7 l0_7.length c0_7]) (t := 32) ?_; intro gb275 hg w3 hbox hb; have BK275 := Aside0.mk (hbox); have GW275 := Aside0.mk (by rw [hg]; exact (below_size bel_) : w.heap.size ≤ gb275); have GE275 := GW275; replace HB := Aside0.mk (below_step bel_ hb); clear hb hbox hg; obtain ⟨_, _, _, _, _, _, _, _, _, _, _, _, _, _, _, _⟩ := cel8_ BK275.out))
  repeat (go_quiet (first | ((with_reducible refine gate_dst (N := 1) rfl ?_); refine bxe_ (N := 1) (cs := #[.int .i64 a0_0, .slice A0_1 l0_1.length c0_1, .slice A0_2 l0_2.length c0_2, .slice A0_3 l0_3.length c0_3, .slice A0_4 l0_4.length c0_4, .slice A0_5 l0_5.length c0_5, .int .i64 a0_6, .slice A0_7 l0_7.length c0_7]) (t := 32) ?_; intro gb275 hg w3 hbox hb; have BK275 := Aside0.mk (hbox); have GW275 := Aside0.mk (by rw [hg]; exact (below_size bel_) : w.heap.size ≤ gb275); have GE275 := GW275; replace HB := Aside0.mk (below_step bel_ hb); clear hb hbox hg; obtain ⟨_, _, _, _, _, _, _, _, _, _, _, _, _, _, _, _⟩ := cel8_ BK275.out)); try go_wp2_with (first | ((with_reducible refine gate_dst (N := 1) rfl ?_); refine bxe_ (N := 1) (cs := #[.int .i64 a0_0, .slice A0_1 l0_1.length c0_1, .slice A0_2 l0_2.length c0_2, .slice A0_3 l0_3.length c0_3, .slice A0_4 l0_4.length c0_4, .slice A0_5 l0_5.length c0_5, .int .i64 a0_6, .slice A0_7 l0_7.length c0_7]) (t := 32) ?_; intro gb275 hg w3 hbox hb; have BK275 := Aside0.mk (hbox); have GW275 := Aside0.mk (by rw [hg]; exact (below_size bel_) : w.heap.size ≤ gb275); have GE275 := GW275; replace HB := Aside0.mk (below_step bel_ hb); clear hb hbox hg; obtain ⟨_, _, _, _, _, _, _, _, _, _, _, _, _, _, _, _⟩ := cel8_ BK275.out)))
  go_ret
  exact ⟨by first | rfl | (simp [errW_none, errW_some] <;> rfl) | (simp [*, errW_none, errW_some] <;> rfl), bel_⟩

/-! ### slices_IndexFunc_int_int_83_at_model_Right_1: function 83 -/
def slices_IndexFunc_int_int_83_at_model_Right_1.l0 : Nat → List Int → Int → Int → Int → Option (Int)
 | 0, _, _, _, _ => none
 | k + 1, x0, x7, x8, x7003000 => if x8 < x7 then (if 0 ≤ x8 then (if x8 < (x0.length : Int) then ((model_Right_1.f (rd x0 x8) x7003000).bind fun t277 => (if t277 = true then (some x8) else (slices_IndexFunc_int_int_83_at_model_Right_1.l0 k x0 x7 (wrap64 (x8 + 1)) x7003000))) else (none)) else (none)) else (some (-1))
def slices_IndexFunc_int_int_83_at_model_Right_1.f (k : Nat) (l0 : List Int)  (a2_0 : Int) : Option (Int) := slices_IndexFunc_int_int_83_at_model_Right_1.l0 k l0 (l0.length : Int) 0 a2_0
theorem slices_IndexFunc_int_int_83_at_model_Right_1.mono_l : ∀ k, (∀ y0 y1 y2 y3, LeO (slices_IndexFunc_int_int_83_at_model_Right_1.l0 k y0 y1 y2 y3) (slices_IndexFunc_int_int_83_at_model_Right_1.l0 (k + 1) y0 y1 y2 y3))
 | 0 => fun _ _ _ _ r h => by simp [slices_IndexFunc_int_int_83_at_model_Right_1.l0] at h
 | k + 1 => by
  have ih0 := slices_IndexFunc_int_int_83_at_model_Right_1.mono_l k
  ·
   intro y0 y1 y2 y3
   unfold slices_IndexFunc_int_int_83_at_model_Right_1.l0
   exact leo_
theorem slices_IndexFunc_int_int_83_at_model_Right_1.mono : ∀ a0 a1 k, LeO (slices_IndexFunc_int_int_83_at_model_Right_1.f k a0 a1) (slices_IndexFunc_int_int_83_at_model_Right_1.f (k + 1) a0 a1) := by
 intro a0 a1 k
 have ih0 := slices_IndexFunc_int_int_83_at_model_Right_1.mono_l k
 unfold slices_IndexFunc_int_int_83_at_model_Right_1.f
 exact leo_
set_option maxHeartbeats 8000000 in
set_option maxRecDepth 100000 in
theorem slices_IndexFunc_int_int_83_at_model_Right_1.calls (k : Nat) (A0 : Option Addr) (c0 : Nat) (l0 : List Int)  (B2 : Nat) (a2_0 : Int) (r : Int) (w : World) (hr0 : Kd.C (Kd.int .i64) w A0 l0.length l0) (hc0 : l0.length ≤ c0) (hbx2 : w.heap[B2]? = some (.cells #[.int .i64 a2_0] 3 (0, 0))) (h : slices_IndexFunc_int_int_83_at_model_Right_1.f k l0 a2_0 = some r) :
  Calls Tryz.prog 83 #[.slice A0 l0.length c0, .func (.func 79) #[] #[.pointer (some ⟨B2, 0, none⟩)]] w fun e w' => e = .returned (.int .i64 r) ∧ Drawn0 w w' := by
 have HR0 := Aside0.mk hr0
 have HC0 := Aside0.mk hc0
 clear hr0 hc0
 have BKc2 := Aside0.mk hbx2
 clear hbx2
 unfold slices_IndexFunc_int_int_83_at_model_Right_1.f at h
 have H := h
 clear h
 have H' := Aside0.mk H
 clear H
 go_enter Tryz.func83, Tryz.ntmps83
 go_wp2
 go_loopg [8] k (fun kq v8 w' => ∃ (x8_1 : Int), v8 = .int .i64 x8_1 ∧ Aside0 (slices_IndexFunc_int_int_83_at_model_Right_1.l0 kq l0 (l0.length : Int) x8_1 a2_0 = some r) ∧ Aside0 (kq ≤ k) ∧ Aside0 (w'.heap[B2]? = some (.cells #[.int .i64 a2_0] 3 (0, 0))) ∧ Drawn0 w w')
 case atStart => exact ⟨(0), eq_, H', ⟨Nat.le_refl _⟩, ⟨by refine bk_ ?_; exact BKc2.out⟩, by repeat (first | exact Drawn0.refl _ | apply Drawn0.step)⟩
 case round =>
  clear H'
  try clear c2
  try clear p2
  obtain ⟨x8_1, rfl, HA, HK1, BKc2, ⟨m1, rfl⟩⟩ := hrel
  cases gk with
  | zero => exact absurd HA.out (by simp [slices_IndexFunc_int_int_83_at_model_Right_1.l0])
  | succ k1 =>
   have H := HA.out
   clear HA
   simp only [slices_IndexFunc_int_int_83_at_model_Right_1.l0] at H
   by_cases c4 : x8_1 < (l0.length : Int)
   ·
    rw [if_pos c4] at H
    have c4b0 : decide (x8_1 < (l0.length : Int)) = true := decide_eq_true c4
    clear c4
    by_cases c5 : 0 ≤ x8_1
    ·
     rw [if_pos c5] at H
     have c5b0 : decide (0 ≤ x8_1) = true := decide_eq_true c5
     clear c5
     by_cases c6 : x8_1 < (l0.length : Int)
     ·
      rw [if_pos c6] at H
      have c6b0 : decide (x8_1 < (l0.length : Int)) = true := decide_eq_true c6
      clear c6
      replace H := Option.bind_eq_some_iff.mp H
      obtain ⟨t277, A70, H⟩ := H
      try dsimp only at H
      have A7 := Aside0.mk A70
      clear A70
      by_cases c8 : t277 = true
      ·
       subst c8
       rw [if_pos rfl] at H
       obtain rfl := Option.some.inj H
       have p276 : 0 ≤ (x8_1 : Int) := dq_
       have q276 : x8_1 < (l0.length : Int) := dq_
       obtain ⟨ad276, e276, hx276_0⟩ := Kd.at_int HR0.out x8_1 p276 q276
       cases e276
       replace p276 := eq_true p276
       replace q276 := eq_true q276
       go_wp2_with (first | (go_at_call 79; (with_reducible refine (model_Right_1.calls (rd l0 x8_1) B2 a2_0 true _ ?side1 A7.out).mono ?_); (case side1 => exact by refine bk_ ?_; exact BKc2.out); rintro e w' ⟨rfl, ⟨nd, rfl⟩⟩))
       go_ret
       exact ⟨by first | rfl | (simp; done) | (simp [*]; done), by repeat (first | exact Drawn0.refl _ | apply Drawn0.step)⟩
      ·
       replace c8 := Bool.eq_false_iff.mpr c8
       subst c8
       have H1 : (slices_IndexFunc_int_int_83_at_model_Right_1.l0 k1 l0 (l0.length : Int) (wrap64 (x8_1 + 1)) a2_0) = some r := by rw [if_neg (show ¬ (false = true) by decide)] at H; exact H
       clear H
       have H := H1
       clear H1
       have H' := Aside0.mk H
       clear H
       have p276 : 0 ≤ (x8_1 : Int) := dq_
       have q276 : x8_1 < (l0.length : Int) := dq_
       obtain ⟨ad276, e276, hx276_0⟩ := Kd.at_int HR0.out x8_1 p276 q276
       cases e276
       replace p276 := eq_true p276
       replace q276 := eq_true q276
       go_wp2_with (first | (go_at_call 79; (with_reducible refine (model_Right_1.calls (rd l0 x8_1) B2 a2_0 false _ ?side1 A7.out).mono ?_); (case side1 => exact by refine bk_ ?_; exact BKc2.out); rintro e w' ⟨rfl, ⟨nd, rfl⟩⟩))
       go_roundg k1
       case measure => have := HK1.out; omega
       case rel => exact ⟨(wrap64 (x8_1 + 1)), eq_, H', ⟨by have := HK1.out; omega⟩, ⟨by refine bk_ ?_; exact BKc2.out⟩, by repeat (first | exact Drawn0.refl _ | apply Drawn0.step)⟩
     ·
      rw [if_neg c6] at H
      exact absurd H (by simp)
    ·
     rw [if_neg c5] at H
     exact absurd H (by simp)
   ·
    rw [if_neg c4] at H
    have c4b0 : decide (x8_1 < (l0.length : Int)) = false := decide_eq_false c4
    clear c4
    obtain rfl := Option.some.inj H
    go_wp2
    go_ret
    exact ⟨by first | rfl | (simp; done) | (simp [*]; done), by repeat (first | exact Drawn0.refl _ | apply Drawn0.step)⟩

/-! ### slices_ContainsFunc_int_int_60_at_model_Right_1: function 60 -/
def slices_ContainsFunc_int_int_60_at_model_Right_1.f (k : Nat) (l0 : List Int)  (a2_0 : Int) : Option (Bool) := (slices_IndexFunc_int_int_83_at_model_Right_1.f k l0 a2_0).bind fun t278 => (some (decide (t278 ≥ 0)))
theorem slices_ContainsFunc_int_int_60_at_model_Right_1.mono : ∀ a0 a1 k, LeO (slices_ContainsFunc_int_int_60_at_model_Right_1.f k a0 a1) (slices_ContainsFunc_int_int_60_at_model_Right_1.f (k + 1) a0 a1) := by
 intro a0 a1 k
 unfold slices_ContainsFunc_int_int_60_at_model_Right_1.f
 have m0 := @slices_IndexFunc_int_int_83_at_model_Right_1.mono
 exact leo_
set_option maxHeartbeats 8000000 in
set_option maxRecDepth 100000 in
theorem slices_ContainsFunc_int_int_60_at_model_Right_1.calls (k : Nat) (A0 : Option Addr) (c0 : Nat) (l0 : List Int)  (B2 : Nat) (a2_0 : Int) (r : Bool) (w : World) (hr0 : Kd.C (Kd.int .i64) w A0 l0.length l0) (hc0 : l0.length ≤ c0) (hbx2 : w.heap[B2]? = some (.cells #[.int .i64 a2_0] 3 (0, 0))) (h : slices_ContainsFunc_int_int_60_at_model_Right_1.f k l0 a2_0 = some r) :
  Calls Tryz.prog 60 #[.slice A0 l0.length c0, .func (.func 79) #[] #[.pointer (some ⟨B2, 0, none⟩)]] w fun e w' => e = .returned (.bool r) ∧ Drawn0 w w' := by
 have HR0 := Aside0.mk hr0
 have HC0 := Aside0.mk hc0
 clear hr0 hc0
 have BKc2 := Aside0.mk hbx2
 clear hbx2
 unfold slices_ContainsFunc_int_int_60_at_model_Right_1.f at h
 have H := h
 clear h
 replace H := Option.bind_eq_some_iff.mp H
 obtain ⟨t278, A40, H⟩ := H
 try dsimp only at H
 have A4 := Aside0.mk A40
 clear A40
 obtain rfl := Option.some.inj H
 go_enter Tryz.func60, Tryz.ntmps60
 go_wp2_with (first | ((with_reducible refine gate_callee (f := 83) rfl ?_); refine goesL_ (some 7) rfl rfl Tryz.func83 (by kernel_rfl) rfl #[.slice A0 l0.length c0, .func (.func 79) #[] #[.pointer (some ⟨B2, 0, none⟩)]] rfl ar_ ?_; (with_reducible refine (slices_IndexFunc_int_int_83_at_model_Right_1.calls k _ _ l0 B2 a2_0 t278 _ ?side1 ?side2 ?side3 A4.out).mono ?_); (case side1 => exact ca_ (HR0.out)); (case side2 => exact HC0.out); (case side3 => exact by refine bk_ ?_; exact BKc2.out); rintro e w' ⟨rfl, ⟨nd, rfl⟩⟩; refine ⟨_, rfl, ?_⟩))
 go_ret
 exact ⟨by first | rfl | (simp; done) | (simp [*]; done), by repeat (first | exact Drawn0.refl _ | apply Drawn0.step)⟩


/-! ### model_Right: function 57 -/
def model_Right.f (k : Nat) (a0_0 : Int) (l0_1 : List Int) (l0_2 : List Int) (l0_3 : List Int) (l0_4 : List Int) (l0_5 : List Int) (a0_6 : Int) (l0_7 : List (List Int)) (a1 : Int) : Option (Int) := (model_Shape.f a0_0).bind fun t281 => (if t281.toList = ([] : List UInt8) then (none) else ((model_counted.f a0_0 l0_1 l0_2 l0_3 l0_4 l0_5 a0_6 l0_7 t281).bind fun t282 => (if t282 = true then ((model_alike.f a0_0 l0_1 l0_2 l0_3 l0_4 l0_5 a0_6 l0_7).bind fun t283 => (if t283 = true then (if a0_6 = 0 then ((model_Vars.f k a0_0 l0_1 l0_2 l0_3 l0_4 l0_5 a0_6 l0_7).bind fun t284 => ((slices_ContainsFunc_int_int_60_at_model_Right_1.f k t284 a1).bind fun t287 => (if t287 = true then (none) else ((model_numbers.f k a0_0 l0_1 l0_2 l0_3 l0_4 l0_5 a0_6 l0_7).bind fun t288 => (if t288 = true then ((model_counts.f a0_0 l0_1 l0_2 l0_3 l0_4 l0_5 a0_6 l0_7).bind fun t289 => (if t289 = true then (some 0) else (none))) else (none)))))) else (none)) else (none))) else (none))))
theorem model_Right.mono : ∀ a0 a1 a2 a3 a4 a5 a6 a7 a8 k, LeO (model_Right.f k a0 a1 a2 a3 a4 a5 a6 a7 a8) (model_Right.f (k + 1) a0 a1 a2 a3 a4 a5 a6 a7 a8) := by
 intro a0 a1 a2 a3 a4 a5 a6 a7 a8 k
 unfold model_Right.f
 have m0 := @model_Vars.mono
 have m1 := @model_numbers.mono
 have m2 := @slices_ContainsFunc_int_int_60_at_model_Right_1.mono
 exact leo_
set_option maxHeartbeats 8000000 in
set_option maxRecDepth 100000 in
theorem model_Right.calls (k : Nat) (a0_0 : Int) (A0_1 : Option Addr) (c0_1 : Nat) (l0_1 : List Int) (A0_2 : Option Addr) (c0_2 : Nat) (l0_2 : List Int) (A0_3 : Option Addr) (c0_3 : Nat) (l0_3 : List Int) (A0_4 : Option Addr) (c0_4 : Nat) (l0_4 : List Int) (A0_5 : Option Addr) (c0_5 : Nat) (l0_5 : List Int) (a0_6 : Int) (A0_7 : Option Addr) (c0_7 : Nat) (l0_7 : List (List Int)) (a1 : Int) (r : Int) (w : World) (hr0_1 : Kd.C (Kd.int .i64) w A0_1 l0_1.length l0_1) (hc0_1 : l0_1.length ≤ c0_1) (hr0_2 : Kd.C (Kd.int .i64) w A0_2 l0_2.length l0_2) (hc0_2 : l0_2.length ≤ c0_2) (hr0_3 : Kd.C (Kd.int .i64) w A0_3 l0_3.length l0_3) (hc0_3 : l0_3.length ≤ c0_3) (hr0_4 : Kd.C (Kd.int .i64) w A0_4 l0_4.length l0_4) (hc0_4 : l0_4.length ≤ c0_4) (hr0_5 : Kd.C (Kd.int .i64) w A0_5 l0_5.length l0_5) (hc0_5 : l0_5.length ≤ c0_5) (hr0_7 : Kd.C (Kd.slice 3 (Kd.int .i64)) w A0_7 l0_7.length l0_7) (hc0_7 : l0_7.length ≤ c0_7) (h : model_Right.f k a0_0 l0_1 l0_2 l0_3 l0_4 l0_5 a0_6 l0_7 a1 = some r) :
  Calls Tryz.prog 57 #[.agg #[.int .i64 a0_0, .slice A0_1 l0_1.length c0_1, .slice A0_2 l0_2.length c0_2, .slice A0_3 l0_3.length c0_3, .slice A0_4 l0_4.length c0_4, .slice A0_5 l0_5.length c0_5, .int .i64 a0_6, .slice A0_7 l0_7.length c0_7], .int .i64 a1] w fun e w' => e = .returned (.int .i64 r) ∧ Below w.heap.size w w' := by
 have hu32 := Tryz.underlying32
 have HR0_1 := Aside0.mk hr0_1
 have HC0_1 := Aside0.mk hc0_1
 clear hr0_1 hc0_1
 have HR0_2 := Aside0.mk hr0_2
 have HC0_2 := Aside0.mk hc0_2
 clear hr0_2 hc0_2
 have HR0_3 := Aside0.mk hr0_3
 have HC0_3 := Aside0.mk hc0_3
 clear hr0_3 hc0_3
 have HR0_4 := Aside0.mk hr0_4
 have HC0_4 := Aside0.mk hc0_4
 clear hr0_4 hc0_4
 have HR0_5 := Aside0.mk hr0_5
 have HC0_5 := Aside0.mk hc0_5
 clear hr0_5 hc0_5
 have HR0_7 := Aside0.mk hr0_7
 have HC0_7 := Aside0.mk hc0_7
 clear hr0_7 hc0_7
 have HB := Aside0.mk (Below.refl w.heap.size w)
 unfold model_Right.f at h
 have H := h
 clear h
 replace H := Option.bind_eq_some_iff.mp H
 obtain ⟨t281, A30, H⟩ := H
 try dsimp only at H
 have A3 := Aside0.mk A30
 clear A30
 by_cases c4 : t281.toList = ([] : List UInt8)
 ·
  rw [if_pos c4] at H
  exact absurd H (by simp)
 ·
  rw [if_neg c4] at H
  have c4b0 : (t281.toList == ([] : List UInt8)) = false := beq_eq_false_iff_ne.mpr c4
  have c4b1 : (t281.toList != ([] : List UInt8)) = true := bne_iff_ne.mpr c4
  replace H := Option.bind_eq_some_iff.mp H
  obtain ⟨t282, A50, H⟩ := H
  try dsimp only at H
  have A5 := Aside0.mk A50
  clear A50
  by_cases c6 : t282 = true
  ·
   subst c6
   rw [if_pos rfl] at H
   replace H := Option.bind_eq_some_iff.mp H
   obtain ⟨t283, A70, H⟩ := H
   try dsimp only at H
   have A7 := Aside0.mk A70
   clear A70
   by_cases c8 : t283 = true
   ·
    subst c8
    rw [if_pos rfl] at H
    by_cases c9 : a0_6 = 0
    ·
     rw [if_pos c9] at H
     have c9b0 : (a0_6 == 0) = true := beq_iff_eq.mpr c9
     have c9b1 : (a0_6 != 0) = false := bne_eq_false_iff_eq.mpr c9
     clear c9
     replace H := Option.bind_eq_some_iff.mp H
     obtain ⟨t284, A100, H⟩ := H
     try dsimp only at H
     have A10 := Aside0.mk A100
     clear A100
     replace H := Option.bind_eq_some_iff.mp H
     obtain ⟨t287, A110, H⟩ := H
     try dsimp only at H
     have A11 := Aside0.mk A110
     clear A110
     by_cases c12 : t287 = true
     ·
      subst c12
      rw [if_pos rfl] at H
      exact absurd H (by simp)
     ·
      replace c12 := Bool.eq_false_iff.mpr c12
      subst c12
      have H1 : ((model_numbers.f k a0_0 l0_1 l0_2 l0_3 l0_4 l0_5 a0_6 l0_7).bind fun t288 => (if t288 = true then ((model_counts.f a0_0 l0_1 l0_2 l0_3 l0_4 l0_5 a0_6 l0_7).bind fun t289 => (if t289 = true then (some 0) else (none))) else (none))) = some r := by rw [if_neg (show ¬ (false = true) by decide)] at H; exact H
      clear H
      have H := H1
      clear H1
      replace H := Option.bind_eq_some_iff.mp H
      obtain ⟨t288, A130, H⟩ := H
      try dsimp only at H
      have A13 := Aside0.mk A130
      clear A130
      by_cases c14 : t288 = true
      ·
       subst c14
       rw [if_pos rfl] at H
       replace H := Option.bind_eq_some_iff.mp H
       obtain ⟨t289, A150, H⟩ := H
       try dsimp only at H
       have A15 := Aside0.mk A150
       clear A150
       by_cases c16 : t289 = true
       ·
        subst c16
        rw [if_pos rfl] at H
        obtain rfl := Option.some.inj H
        go_enter Tryz.func57, Tryz.ntmps57
        go_wp2_with (first | ((with_reducible refine gate_dst (N := 2) rfl ?_); refine bxe_ (N := 2) (cs := #[.int .i64 a0_0, .slice A0_1 l0_1.length c0_1, .slice A0_2 l0_2.length c0_2, .slice A0_3 l0_3.length c0_3, .slice A0_4 l0_4.length c0_4, .slice A0_5 l0_5.length c0_5, .int .i64 a0_6, .slice A0_7 l0_7.length c0_7]) (t := 32) ?_; intro gb279 hg w17 hbox hb; have BK279 := Aside0.mk (hbox); have GW279 := Aside0.mk (by rw [hg]; exact (below_size bel_) : w.heap.size ≤ gb279); have GE279 := GW279; replace HB := Aside0.mk (below_step bel_ hb); clear hb hbox hg) | ((with_reducible refine gate_dst (N := 3) rfl ?_); refine bxe_ (N := 3) (cs := #[.int .i64 a1]) (t := 3) ?_; intro gb280 hg w18 hbox hb; have BK280 := Aside0.mk (hbox); have GW280 := Aside0.mk (by rw [hg]; exact (below_size bel_) : w.heap.size ≤ gb280); have GE280 := GW280; replace HB := Aside0.mk (below_step bel_ hb); have NB279_280 := Aside0.mk ((by rw [hg]; exact Nat.ne_of_lt (blk_lt (bk_ BK279.out)) : gb279 ≠ gb280)); have NB280_279 := Aside0.mk ((by rw [hg]; exact Nat.ne_of_gt (blk_lt (bk_ BK279.out)) : gb280 ≠ gb279)); replace BK279 := Aside0.mk (blk_below (bk_ BK279.out) hb); clear hb hbox hg; have hnb19 := NB279_280.out; have hnc19 := NB280_279.out; obtain ⟨_, _, _, _, _, _, _, _, _, _, _, _, _, _, _, _⟩ := cel8_ BK279.out) | ((with_reducible refine gate_callee (f := 74) rfl ?_); refine goesL_ (some 8) rfl rfl Tryz.func74 (by kernel_rfl) rfl #[.int .i64 a0_0] rfl ar_ ?_; (with_reducible refine (model_Shape.calls a0_0 t281 _ A3.out).mono ?_); rintro e w21 ⟨rfl, hb⟩; refine ⟨_, rfl, ?_⟩; replace BK279 := Aside0.mk (blk_below (bk_ BK279.out) hb); replace BK280 := Aside0.mk (blk_below (bk_ BK280.out) hb); replace HB := Aside0.mk (below_step bel_ hb); clear hb; obtain ⟨_, _, _, _, _, _, _, _, _, _, _, _, _, _, _, _⟩ := cel8_ BK279.out) | ((with_reducible refine gate_callee (f := 75) rfl ?_); refine goesL_ (some 15) rfl rfl Tryz.func75 (by kernel_rfl) rfl #[.agg #[.int .i64 a0_0, .slice A0_1 l0_1.length c0_1, .slice A0_2 l0_2.length c0_2, .slice A0_3 l0_3.length c0_3, .slice A0_4 l0_4.length c0_4, .slice A0_5 l0_5.length c0_5, .int .i64 a0_6, .slice A0_7 l0_7.length c0_7], .string t281] rfl ar_ ?_; (with_reducible refine (model_counted.calls a0_0 _ _ l0_1 _ _ l0_2 _ _ l0_3 _ _ l0_4 _ _ l0_5 a0_6 _ _ l0_7 t281 true _ ?_ ?_ ?_ ?_ ?_ ?_ ?_ ?_ ?_ ?_ ?_ ?_ A5.out).mono ?_); exact ca_ ((Kd.C_below HR0_1.out HB.out)); exact HC0_1.out; exact ca_ ((Kd.C_below HR0_2.out HB.out)); exact HC0_2.out; exact ca_ ((Kd.C_below HR0_3.out HB.out)); exact HC0_3.out; exact ca_ ((Kd.C_below HR0_4.out HB.out)); exact HC0_4.out; exact ca_ ((Kd.C_below HR0_5.out HB.out)); exact HC0_5.out; exact ca_ ((Kd.C_below HR0_7.out HB.out)); exact HC0_7.out; rintro e w23 ⟨rfl, hb⟩; refine ⟨_, rfl, ?_⟩; replace BK279 := Aside0.mk (blk_below (bk_ BK279.out) hb); replace BK280 := Aside0.mk (blk_below (bk_ BK280.out) hb); replace HB := Aside0.mk (below_step bel_ hb); clear hb; obtain ⟨_, _, _, _, _, _, _, _, _, _, _, _, _, _, _, _⟩ := cel8_ BK279.out) | (go_at_call 76; (with_reducible refine (model_alike.calls a0_0 _ _ l0_1 _ _ l0_2 _ _ l0_3 _ _ l0_4 _ _ l0_5 a0_6 _ _ l0_7 true _ ?_ ?_ ?_ ?_ ?_ ?_ ?_ ?_ ?_ ?_ ?_ ?_ A7.out).mono ?_); exact ca_ ((Kd.C_below HR0_1.out HB.out)); exact HC0_1.out; exact ca_ ((Kd.C_below HR0_2.out HB.out)); exact HC0_2.out; exact ca_ ((Kd.C_below HR0_3.out HB.out)); exact HC0_3.out; exact ca_ ((Kd.C_below HR0_4.out HB.out)); exact HC0_4.out; exact ca_ ((Kd.C_below HR0_5.out HB.out)); exact HC0_5.out; exact ca_ ((Kd.C_below HR0_7.out HB.out)); exact HC0_7.out; rintro e w25 ⟨rfl, hb⟩; replace BK279 := Aside0.mk (blk_below (bk_ BK279.out) hb); replace BK280 := Aside0.mk (blk_below (bk_ BK280.out) hb); replace HB := Aside0.mk (below_step bel_ hb); clear hb; obtain ⟨_, _, _, _, _, _, _, _, _, _, _, _, _, _, _, _⟩ := cel8_ BK279.out) | ((with_reducible refine gate_callee (f := 78) rfl ?_); refine goesL_ (some 34) rfl rfl Tryz.func78 (by kernel_rfl) rfl #[.agg #[.int .i64 a0_0, .slice A0_1 l0_1.length c0_1, .slice A0_2 l0_2.length c0_2, .slice A0_3 l0_3.length c0_3, .slice A0_4 l0_4.length c0_4, .slice A0_5 l0_5.length c0_5, .int .i64 a0_6, .slice A0_7 l0_7.length c0_7]] rfl ar_ ?_; (with_reducible refine (model_Vars.calls k a0_0 (fun k_ => k_ < w.heap.size) _ _ l0_1 (fun k_ => k_ < w.heap.size) _ _ l0_2 _ _ l0_3 _ _ l0_4 _ _ l0_5 a0_6 _ _ l0_7 t284 _ ?_ ?_ ?_ ?_ ?_ ?_ ?_ ?_ ?_ ?_ A10.out).mono ?_); exact Kd.V_mk HC0_1.out (Kd.F_below (Kd.C_F (Kd.heap_int .i64) HR0_1.out) bel_); exact Kd.V_mk HC0_2.out (Kd.F_below (Kd.C_F (Kd.heap_int .i64) HR0_2.out) bel_); exact ca_ ((Kd.C_below HR0_3.out HB.out)); exact HC0_3.out; exact ca_ ((Kd.C_below HR0_4.out HB.out)); exact HC0_4.out; exact ca_ ((Kd.C_below HR0_5.out HB.out)); exact HC0_5.out; exact ca_ ((Kd.C_below HR0_7.out HB.out)); exact HC0_7.out; rintro e w27 ⟨v285, rfl, ho0, hb⟩; refine ⟨_, rfl, ?_⟩; have HO286 := Aside0.mk (Kd.R_lower (Kd.R_newB (Kd.R_mono (ok' := fun k_ => True) ho0 (fun _ hk_ => trivial)) (bk_ BK280.out)) (below_size bel_)); replace BK279 := Aside0.mk (blk_below (bk_ BK279.out) hb); replace BK280 := Aside0.mk (blk_below (bk_ BK280.out) hb); replace HB := Aside0.mk (below_step bel_ hb); clear hb ho0; obtain ⟨Ao28, co28, eo28⟩ := Kd.R_slice HO286.out; subst eo28) | ((with_reducible refine gate_callee (f := 60) rfl ?_); refine goesL_ (some 36) rfl rfl Tryz.func60 (by kernel_rfl) rfl #[.slice Ao28 t284.length co28, .func (.func 79) #[] #[.pointer (some ⟨gb280, 0, none⟩)]] rfl ar_ ?_; (with_reducible refine (slices_ContainsFunc_int_int_60_at_model_Right_1.calls k _ _ t284 gb280 a1 false _ ?side1 ?side2 ?side3 A11.out).mono ?_); (case side1 => exact ca_ ((Kd.R_reads' HO286.out).2.2)); (case side2 => exact (Kd.R_reads' HO286.out).2.1); (case side3 => exact by refine bk_ ?_; exact BK280.out); rintro e w' ⟨rfl, ⟨nd, rfl⟩⟩; refine ⟨_, rfl, ?_⟩; obtain ⟨_, _, _, _, _, _, _, _, _, _, _, _, _, _, _, _⟩ := cel8_ BK279.out) | ((with_reducible refine gate_callee (f := 80) rfl ?_); refine goesL_ (some 39) rfl rfl Tryz.func80 (by kernel_rfl) rfl #[.agg #[.int .i64 a0_0, .slice A0_1 l0_1.length c0_1, .slice A0_2 l0_2.length c0_2, .slice A0_3 l0_3.length c0_3, .slice A0_4 l0_4.length c0_4, .slice A0_5 l0_5.length c0_5, .int .i64 a0_6, .slice A0_7 l0_7.length c0_7]] rfl ar_ ?_; (with_reducible refine (model_numbers.calls k a0_0 _ _ l0_1 _ _ l0_2 _ _ l0_3 _ _ l0_4 _ _ l0_5 a0_6 _ _ l0_7 true _ ?side1 ?side2 ?side3 ?side4 ?side5 ?side6 ?side7 ?side8 ?side9 ?side10 ?side11 ?side12 A13.out).mono ?_); (case side1 => repeat (first | exact (Kd.C_below HR0_1.out bel_) | (with_reducible refine Kd.C_alloc ?_ _) | (with_reducible refine Kd.C_drewN ?_ _) | (with_reducible refine Kd.C_drew ?_))); (case side2 => exact HC0_1.out); (case side3 => repeat (first | exact (Kd.C_below HR0_2.out bel_) | (with_reducible refine Kd.C_alloc ?_ _) | (with_reducible refine Kd.C_drewN ?_ _) | (with_reducible refine Kd.C_drew ?_))); (case side4 => exact HC0_2.out); (case side5 => repeat (first | exact (Kd.C_below HR0_3.out bel_) | (with_reducible refine Kd.C_alloc ?_ _) | (with_reducible refine Kd.C_drewN ?_ _) | (with_reducible refine Kd.C_drew ?_))); (case side6 => exact HC0_3.out); (case side7 => repeat (first | exact (Kd.C_below HR0_4.out bel_) | (with_reducible refine Kd.C_alloc ?_ _) | (with_reducible refine Kd.C_drewN ?_ _) | (with_reducible refine Kd.C_drew ?_))); (case side8 => exact HC0_4.out); (case side9 => repeat (first | exact (Kd.C_below HR0_5.out bel_) | (with_reducible refine Kd.C_alloc ?_ _) | (with_reducible refine Kd.C_drewN ?_ _) | (with_reducible refine Kd.C_drew ?_))); (case side10 => exact HC0_5.out); (case side11 => repeat (first | exact (Kd.C_below HR0_7.out bel_) | (with_reducible refine Kd.C_alloc ?_ _) | (with_reducible refine Kd.C_drewN ?_ _) | (with_reducible refine Kd.C_drew ?_))); (case side12 => exact HC0_7.out); rintro e w30 ⟨rfl, hb⟩; refine ⟨_, rfl, ?_⟩; replace BK279 := Aside0.mk (blk_below (bk_ BK279.out) hb); replace HB := Aside0.mk (below_step bel_ hb); clear hb; obtain ⟨_, _, _, _, _, _, _, _, _, _, _, _, _, _, _, _⟩ := cel8_ BK279.out) | (go_at_call 81; (with_reducible refine (model_counts.calls a0_0 _ _ l0_1 _ _ l0_2 _ _ l0_3 _ _ l0_4 _ _ l0_5 a0_6 _ _ l0_7 true _ ?_ ?_ ?_ ?_ ?_ ?_ ?_ ?_ ?_ ?_ ?_ ?_ A15.out).mono ?_); exact ca_ ((Kd.C_below HR0_1.out HB.out)); exact HC0_1.out; exact ca_ ((Kd.C_below HR0_2.out HB.out)); exact HC0_2.out; exact ca_ ((Kd.C_below HR0_3.out HB.out)); exact HC0_3.out; exact ca_ ((Kd.C_below HR0_4.out HB.out)); exact HC0_4.out; exact ca_ ((Kd.C_below HR0_5.out HB.out)); exact HC0_5.out; exact ca_ ((Kd.C_below HR0_7.out HB.out)); exact HC0_7.out; rintro e w32 ⟨rfl, hb⟩; replace HB := Aside0.mk (below_step bel_ hb); clear hb))
        go_ret
        exact ⟨by first | rfl | (simp [errW_none, errW_some] <;> rfl) | (simp [*, errW_none, errW_some] <;> rfl), bel_⟩
       ·
        replace c16 := Bool.eq_false_iff.mpr c16
        subst c16
        have H1 : (none) = some r := by rw [if_neg (show ¬ (false = true) by decide)] at H; exact H
        clear H
        have H := H1
        clear H1
        exact absurd H (by simp)
      ·
       replace c14 := Bool.eq_false_iff.mpr c14
       subst c14
       have H1 : (none) = some r := by rw [if_neg (show ¬ (false = true) by decide)] at H; exact H
       clear H
       have H := H1
       clear H1
       exact absurd H (by simp)
    ·
     rw [if_neg c9] at H
     exact absurd H (by simp)
   ·
    replace c8 := Bool.eq_false_iff.mpr c8
    subst c8
    have H1 : (none) = some r := by rw [if_neg (show ¬ (false = true) by decide)] at H; exact H
    clear H
    have H := H1
    clear H1
    exact absurd H (by simp)
  ·
   replace c6 := Bool.eq_false_iff.mpr c6
   subst c6
   have H1 : (none) = some r := by rw [if_neg (show ¬ (false = true) by decide)] at H; exact H
   clear H
   have H := H1
   clear H1
   exact absurd H (by simp)

/-! ### dom_Dom_73_at_prop_Fits_1: function 73 -/
def dom_Dom_73_at_prop_Fits_1.l0 : Nat → List (S58) → Int → Int → Option (Int)
 | 0, _, _, _ => none
 | k + 1, x0, x7, x8 => if x8 < x7 then (if 0 ≤ x8 then (if x8 < (x0.length : Int) then ((prop_Fits_1.f ((rd_T58 x0 x8).f0) ((rd_T58 x0 x8).f1) ((rd_T58 x0 x8).f2) ((rd_T58 x0 x8).f3) ((rd_T58 x0 x8).f4)).bind fun t291 => (if t291 = true then (some x8) else (dom_Dom_73_at_prop_Fits_1.l0 k x0 x7 (wrap64 (x8 + 1))))) else (none)) else (none)) else (some (-1))
def dom_Dom_73_at_prop_Fits_1.f (k : Nat) (l0 : List (S58))  : Option (Int) := dom_Dom_73_at_prop_Fits_1.l0 k l0 (l0.length : Int) 0
theorem dom_Dom_73_at_prop_Fits_1.mono_l : ∀ k, (∀ y0 y1 y2, LeO (dom_Dom_73_at_prop_Fits_1.l0 k y0 y1 y2) (dom_Dom_73_at_prop_Fits_1.l0 (k + 1) y0 y1 y2))
 | 0 => fun _ _ _ r h => by simp [dom_Dom_73_at_prop_Fits_1.l0] at h
 | k + 1 => by
  have ih0 := dom_Dom_73_at_prop_Fits_1.mono_l k
  ·
   intro y0 y1 y2
   unfold dom_Dom_73_at_prop_Fits_1.l0
   exact leo_
theorem dom_Dom_73_at_prop_Fits_1.mono : ∀ a0 k, LeO (dom_Dom_73_at_prop_Fits_1.f k a0) (dom_Dom_73_at_prop_Fits_1.f (k + 1) a0) := by
 intro a0 k
 have ih0 := dom_Dom_73_at_prop_Fits_1.mono_l k
 unfold dom_Dom_73_at_prop_Fits_1.f
 exact leo_
set_option maxHeartbeats 8000000 in
set_option maxRecDepth 100000 in
theorem dom_Dom_73_at_prop_Fits_1.calls (k : Nat) (A0 : Option Addr) (c0 : Nat) (l0 : List (S58))  (r : Int) (w : World) (hr0 : Kd.C k58 w A0 l0.length l0) (hc0 : l0.length ≤ c0) (h : dom_Dom_73_at_prop_Fits_1.f k l0 = some r) :
  Calls Tryz.prog 73 #[.slice A0 l0.length c0, .func (.func 55) #[] #[]] w fun e w' => e = .returned (.int .i64 r) ∧ Below w.heap.size w w' := by
 have hu58 := Tryz.underlying58
 have HR0 := Aside0.mk hr0
 have HC0 := Aside0.mk hc0
 clear hr0 hc0
 have HB := Aside0.mk (Below.refl w.heap.size w)
 unfold dom_Dom_73_at_prop_Fits_1.f at h
 have H := h
 clear h
 have H' := Aside0.mk H
 clear H
 go_enter Tryz.func73, Tryz.ntmps73
 go_wp2
 go_loopg [8] k (fun kq v8 w' => ∃ (x8_1 : Int), v8 = .int .i64 x8_1 ∧ Aside0 (dom_Dom_73_at_prop_Fits_1.l0 kq l0 (l0.length : Int) x8_1 = some r) ∧ Aside0 (kq ≤ k) ∧ Aside0 (Below w.heap.size w w'))
 case atStart => exact ⟨(0), eq_, H', ⟨Nat.le_refl _⟩, ⟨bel_⟩⟩
 case round =>
  clear H'
  try clear p2
  obtain ⟨x8_1, rfl, HA, HK1, HB⟩ := hrel
  cases gk with
  | zero => exact absurd HA.out (by simp [dom_Dom_73_at_prop_Fits_1.l0])
  | succ k1 =>
   have H := HA.out
   clear HA
   simp only [dom_Dom_73_at_prop_Fits_1.l0] at H
   by_cases c3 : x8_1 < (l0.length : Int)
   ·
    rw [if_pos c3] at H
    have c3b0 : decide (x8_1 < (l0.length : Int)) = true := decide_eq_true c3
    clear c3
    by_cases c4 : 0 ≤ x8_1
    ·
     rw [if_pos c4] at H
     have c4b0 : decide (0 ≤ x8_1) = true := decide_eq_true c4
     clear c4
     by_cases c5 : x8_1 < (l0.length : Int)
     ·
      rw [if_pos c5] at H
      have c5b0 : decide (x8_1 < (l0.length : Int)) = true := decide_eq_true c5
      clear c5
      replace H := Option.bind_eq_some_iff.mp H
      obtain ⟨t291, A60, H⟩ := H
      try dsimp only at H
      have A6 := Aside0.mk A60
      clear A60
      by_cases c7 : t291 = true
      ·
       subst c7
       rw [if_pos rfl] at H
       obtain rfl := Option.some.inj H
       have p290 : 0 ≤ (x8_1 : Int) := dq_
       have q290 : x8_1 < (l0.length : Int) := dq_
       obtain ⟨ad290, A290_1, c290_1, e290, hx290_0, hx290_1, hx290_2, hx290_3, hx290_4, hl290_1, hi290_1⟩ := at_T58 HR0.out x8_1 p290 q290
       cases e290
       replace hx290_0 := (HB.out.cell (World.block_lt_of_cell? w _ hx290_0)).trans hx290_0
       replace hx290_1 := (HB.out.cell (World.block_lt_of_cell? w _ hx290_1)).trans hx290_1
       replace hx290_2 := (HB.out.cell (World.block_lt_of_cell? w _ hx290_2)).trans hx290_2
       replace hx290_3 := (HB.out.cell (World.block_lt_of_cell? w _ hx290_3)).trans hx290_3
       replace hx290_4 := (HB.out.cell (World.block_lt_of_cell? w _ hx290_4)).trans hx290_4
       have HR290_1 := Aside0.mk hi290_1
       have HC290_1 := Aside0.mk hl290_1
       clear hi290_1 hl290_1
       replace p290 := eq_true p290
       replace q290 := eq_true q290
       go_wp2_with (first | (go_at_call 55; (with_reducible refine (prop_Fits_1.calls ((rd_T58 l0 x8_1).f0) _ _ ((rd_T58 l0 x8_1).f1) ((rd_T58 l0 x8_1).f2) ((rd_T58 l0 x8_1).f3) ((rd_T58 l0 x8_1).f4) true _ ?_ ?_ A6.out).mono ?_); exact ca_ ((Kd.C_below HR290_1.out HB.out)); exact HC290_1.out; rintro e w8 ⟨rfl, hb⟩; replace HB := Aside0.mk (below_step bel_ hb); clear hb))
       go_ret
       exact ⟨by first | rfl | (simp [errW_none, errW_some] <;> rfl) | (simp [*, errW_none, errW_some] <;> rfl), bel_⟩
      ·
       replace c7 := Bool.eq_false_iff.mpr c7
       subst c7
       have H1 : (dom_Dom_73_at_prop_Fits_1.l0 k1 l0 (l0.length : Int) (wrap64 (x8_1 + 1))) = some r := by rw [if_neg (show ¬ (false = true) by decide)] at H; exact H
       clear H
       have H := H1
       clear H1
       have H' := Aside0.mk H
       clear H
       have p290 : 0 ≤ (x8_1 : Int) := dq_
       have q290 : x8_1 < (l0.length : Int) := dq_
       obtain ⟨ad290, A290_1, c290_1, e290, hx290_0, hx290_1, hx290_2, hx290_3, hx290_4, hl290_1, hi290_1⟩ := at_T58 HR0.out x8_1 p290 q290
       cases e290
       replace hx290_0 := (HB.out.cell (World.block_lt_of_cell? w _ hx290_0)).trans hx290_0
       replace hx290_1 := (HB.out.cell (World.block_lt_of_cell? w _ hx290_1)).trans hx290_1
       replace hx290_2 := (HB.out.cell (World.block_lt_of_cell? w _ hx290_2)).trans hx290_2
       replace hx290_3 := (HB.out.cell (World.block_lt_of_cell? w _ hx290_3)).trans hx290_3
       replace hx290_4 := (HB.out.cell (World.block_lt_of_cell? w _ hx290_4)).trans hx290_4
       have HR290_1 := Aside0.mk hi290_1
       have HC290_1 := Aside0.mk hl290_1
       clear hi290_1 hl290_1
       replace p290 := eq_true p290
       replace q290 := eq_true q290
       go_wp2_with (first | (go_at_call 55; (with_reducible refine (prop_Fits_1.calls ((rd_T58 l0 x8_1).f0) _ _ ((rd_T58 l0 x8_1).f1) ((rd_T58 l0 x8_1).f2) ((rd_T58 l0 x8_1).f3) ((rd_T58 l0 x8_1).f4) false _ ?_ ?_ A6.out).mono ?_); exact ca_ ((Kd.C_below HR290_1.out HB.out)); exact HC290_1.out; rintro e w9 ⟨rfl, hb⟩; replace HB := Aside0.mk (below_step bel_ hb); clear hb))
       go_roundg k1
       case measure => have := HK1.out; omega
       case rel => exact ⟨(wrap64 (x8_1 + 1)), eq_, H', ⟨by have := HK1.out; omega⟩, ⟨bel_⟩⟩
     ·
      rw [if_neg c5] at H
      exact absurd H (by simp)
    ·
     rw [if_neg c4] at H
     exact absurd H (by simp)
   ·
    rw [if_neg c3] at H
    have c3b0 : decide (x8_1 < (l0.length : Int)) = false := decide_eq_false c3
    clear c3
    obtain rfl := Option.some.inj H
    go_wp2
    go_ret
    exact ⟨by first | rfl | (simp [errW_none, errW_some] <;> rfl) | (simp [*, errW_none, errW_some] <;> rfl), bel_⟩

/-! ### dom_Dom_54_at_prop_Fits_1: function 54 -/
def dom_Dom_54_at_prop_Fits_1.f (k : Nat) (l0 : List (S58))  : Option (Bool) := (dom_Dom_73_at_prop_Fits_1.f k l0).bind fun t292 => (some (decide (t292 ≥ 0)))
theorem dom_Dom_54_at_prop_Fits_1.mono : ∀ a0 k, LeO (dom_Dom_54_at_prop_Fits_1.f k a0) (dom_Dom_54_at_prop_Fits_1.f (k + 1) a0) := by
 intro a0 k
 unfold dom_Dom_54_at_prop_Fits_1.f
 have m0 := @dom_Dom_73_at_prop_Fits_1.mono
 exact leo_
set_option maxHeartbeats 8000000 in
set_option maxRecDepth 100000 in
theorem dom_Dom_54_at_prop_Fits_1.calls (k : Nat) (A0 : Option Addr) (c0 : Nat) (l0 : List (S58))  (r : Bool) (w : World) (hr0 : Kd.C k58 w A0 l0.length l0) (hc0 : l0.length ≤ c0) (h : dom_Dom_54_at_prop_Fits_1.f k l0 = some r) :
  Calls Tryz.prog 54 #[.slice A0 l0.length c0, .func (.func 55) #[] #[]] w fun e w' => e = .returned (.bool r) ∧ Below w.heap.size w w' := by
 have HR0 := Aside0.mk hr0
 have HC0 := Aside0.mk hc0
 clear hr0 hc0
 have HB := Aside0.mk (Below.refl w.heap.size w)
 unfold dom_Dom_54_at_prop_Fits_1.f at h
 have H := h
 clear h
 replace H := Option.bind_eq_some_iff.mp H
 obtain ⟨t292, A30, H⟩ := H
 try dsimp only at H
 have A3 := Aside0.mk A30
 clear A30
 obtain rfl := Option.some.inj H
 go_enter Tryz.func54, Tryz.ntmps54
 go_wp2_with (first | ((with_reducible refine gate_callee (f := 73) rfl ?_); refine goesL_ (some 7) rfl rfl Tryz.func73 (by kernel_rfl) rfl #[.slice A0 l0.length c0, .func (.func 55) #[] #[]] rfl ar_ ?_; (with_reducible refine (dom_Dom_73_at_prop_Fits_1.calls k _ _ l0 t292 _ ?_ ?_ A3.out).mono ?_); exact ca_ (HR0.out); exact HC0.out; rintro e w4 ⟨rfl, hb⟩; refine ⟨_, rfl, ?_⟩; replace HB := Aside0.mk (below_step bel_ hb); clear hb))
 go_ret
 exact ⟨by first | rfl | (simp [errW_none, errW_some] <;> rfl) | (simp [*, errW_none, errW_some] <;> rfl), bel_⟩


/-! ### prop_Fits: function 26 -/
def prop_Fits.f (k : Nat) (a0_0 : Int) (l0_1 : List Int) (l0_2 : List Int) (l0_3 : List Int) (l0_4 : List Int) (l0_5 : List Int) (a0_6 : Int) (l0_7 : List (List Int)) (l1 : List (S58)) (a2 : Int) (a3 : Int) : Option (Bool) := (dom_Dom_54_at_prop_Fits_1.f k l1).bind fun t294 => (if a0_0 ≥ a2 then (if a0_0 ≤ a3 then ((model_Right.f k a0_0 l0_1 l0_2 l0_3 l0_4 l0_5 a0_6 l0_7 256).bind fun t295 => (if t295 = 0 then (if (l1.length : Int) = (wrap64 ((l0_1.length : Int) + (l0_2.length : Int))) then (some (!t294)) else (none)) else (none))) else (none)) else (none))
theorem prop_Fits.mono : ∀ a0 a1 a2 a3 a4 a5 a6 a7 a8 a9 a10 k, LeO (prop_Fits.f k a0 a1 a2 a3 a4 a5 a6 a7 a8 a9 a10) (prop_Fits.f (k + 1) a0 a1 a2 a3 a4 a5 a6 a7 a8 a9 a10) := by
 intro a0 a1 a2 a3 a4 a5 a6 a7 a8 a9 a10 k
 unfold prop_Fits.f
 have m0 := @dom_Dom_54_at_prop_Fits_1.mono
 have m1 := @model_Right.mono
 exact leo_
set_option maxHeartbeats 8000000 in
set_option maxRecDepth 100000 in
theorem prop_Fits.calls (k : Nat) (a0_0 : Int) (A0_1 : Option Addr) (c0_1 : Nat) (l0_1 : List Int) (A0_2 : Option Addr) (c0_2 : Nat) (l0_2 : List Int) (A0_3 : Option Addr) (c0_3 : Nat) (l0_3 : List Int) (A0_4 : Option Addr) (c0_4 : Nat) (l0_4 : List Int) (A0_5 : Option Addr) (c0_5 : Nat) (l0_5 : List Int) (a0_6 : Int) (A0_7 : Option Addr) (c0_7 : Nat) (l0_7 : List (List Int)) (A1 : Option Addr) (c1 : Nat) (l1 : List (S58)) (a2 : Int) (a3 : Int) (r : Bool) (w : World) (hr0_1 : Kd.C (Kd.int .i64) w A0_1 l0_1.length l0_1) (hc0_1 : l0_1.length ≤ c0_1) (hr0_2 : Kd.C (Kd.int .i64) w A0_2 l0_2.length l0_2) (hc0_2 : l0_2.length ≤ c0_2) (hr0_3 : Kd.C (Kd.int .i64) w A0_3 l0_3.length l0_3) (hc0_3 : l0_3.length ≤ c0_3) (hr0_4 : Kd.C (Kd.int .i64) w A0_4 l0_4.length l0_4) (hc0_4 : l0_4.length ≤ c0_4) (hr0_5 : Kd.C (Kd.int .i64) w A0_5 l0_5.length l0_5) (hc0_5 : l0_5.length ≤ c0_5) (hr0_7 : Kd.C (Kd.slice 3 (Kd.int .i64)) w A0_7 l0_7.length l0_7) (hc0_7 : l0_7.length ≤ c0_7) (hr1 : Kd.C k58 w A1 l1.length l1) (hc1 : l1.length ≤ c1) (h : prop_Fits.f k a0_0 l0_1 l0_2 l0_3 l0_4 l0_5 a0_6 l0_7 l1 a2 a3 = some r) :
  Calls Tryz.prog 26 #[.agg #[.int .i64 a0_0, .slice A0_1 l0_1.length c0_1, .slice A0_2 l0_2.length c0_2, .slice A0_3 l0_3.length c0_3, .slice A0_4 l0_4.length c0_4, .slice A0_5 l0_5.length c0_5, .int .i64 a0_6, .slice A0_7 l0_7.length c0_7], .slice A1 l1.length c1, .int .i64 a2, .int .i64 a3] w fun e w' => e = .returned (.bool r) ∧ Below w.heap.size w w' := by
 have hu32 := Tryz.underlying32
 have HR0_1 := Aside0.mk hr0_1
 have HC0_1 := Aside0.mk hc0_1
 clear hr0_1 hc0_1
 have HR0_2 := Aside0.mk hr0_2
 have HC0_2 := Aside0.mk hc0_2
 clear hr0_2 hc0_2
 have HR0_3 := Aside0.mk hr0_3
 have HC0_3 := Aside0.mk hc0_3
 clear hr0_3 hc0_3
 have HR0_4 := Aside0.mk hr0_4
 have HC0_4 := Aside0.mk hc0_4
 clear hr0_4 hc0_4
 have HR0_5 := Aside0.mk hr0_5
 have HC0_5 := Aside0.mk hc0_5
 clear hr0_5 hc0_5
 have HR0_7 := Aside0.mk hr0_7
 have HC0_7 := Aside0.mk hc0_7
 clear hr0_7 hc0_7
 have HR1 := Aside0.mk hr1
 have HC1 := Aside0.mk hc1
 clear hr1 hc1
 have HB := Aside0.mk (Below.refl w.heap.size w)
 unfold prop_Fits.f at h
 have H := h
 clear h
 replace H := Option.bind_eq_some_iff.mp H
 obtain ⟨t294, A50, H⟩ := H
 try dsimp only at H
 have A5 := Aside0.mk A50
 clear A50
 by_cases c6 : a0_0 ≥ a2
 ·
  rw [if_pos c6] at H
  have c6b0 : decide (a2 ≤ a0_0) = true := decide_eq_true c6
  clear c6
  by_cases c7 : a0_0 ≤ a3
  ·
   rw [if_pos c7] at H
   have c7b0 : decide (a0_0 ≤ a3) = true := decide_eq_true c7
   clear c7
   replace H := Option.bind_eq_some_iff.mp H
   obtain ⟨t295, A80, H⟩ := H
   try dsimp only at H
   have A8 := Aside0.mk A80
   clear A80
   by_cases c9 : t295 = 0
   ·
    rw [if_pos c9] at H
    have c9b0 : (t295 == 0) = true := beq_iff_eq.mpr c9
    have c9b1 : (t295 != 0) = false := bne_eq_false_iff_eq.mpr c9
    clear c9
    by_cases c10 : (l1.length : Int) = (wrap64 ((l0_1.length : Int) + (l0_2.length : Int)))
    ·
     rw [if_pos c10] at H
     have c10b0 : ((l1.length : Int) == (wrap64 ((l0_1.length : Int) + (l0_2.length : Int)))) = true := beq_iff_eq.mpr c10
     have c10b1 : ((l1.length : Int) != (wrap64 ((l0_1.length : Int) + (l0_2.length : Int)))) = false := bne_eq_false_iff_eq.mpr c10
     clear c10
     obtain rfl := Option.some.inj H
     go_enter Tryz.func26, Tryz.ntmps26
     go_wp2_with (first | ((with_reducible refine gate_dst (N := 4) rfl ?_); (try (refine gate_guard (by rfl) ?_; dsimp only)); refine bxe_ (N := 4) (cs := #[.int .i64 a0_0, .slice A0_1 l0_1.length c0_1, .slice A0_2 l0_2.length c0_2, .slice A0_3 l0_3.length c0_3, .slice A0_4 l0_4.length c0_4, .slice A0_5 l0_5.length c0_5, .int .i64 a0_6, .slice A0_7 l0_7.length c0_7]) (t := 32) ?_; intro gb293 hg w11 hbox hb; have BK293 := Aside0.mk (hbox); have GW293 := Aside0.mk (by rw [hg]; exact (below_size bel_) : w.heap.size ≤ gb293); have GE293 := GW293; replace HB := Aside0.mk (below_step bel_ hb); clear hb hbox hg) | ((with_reducible refine gate_callee (f := 54) rfl ?_); refine goesL_ (some 11) rfl rfl Tryz.func54 (by kernel_rfl) rfl #[.slice A1 l1.length c1, .func (.func 55) #[] #[]] rfl ar_ ?_; (with_reducible refine (dom_Dom_54_at_prop_Fits_1.calls k _ _ l1 t294 _ ?_ ?_ A5.out).mono ?_); exact ca_ ((Kd.C_below HR1.out HB.out)); exact HC1.out; rintro e w12 ⟨rfl, hb⟩; refine ⟨_, rfl, ?_⟩; replace BK293 := Aside0.mk (blk_below (bk_ BK293.out) hb); replace HB := Aside0.mk (below_step bel_ hb); clear hb; obtain ⟨_, _, _, _, _, _, _, _, _, _, _, _, _, _, _, _⟩ := cel8_ BK293.out) | (go_at_call 57; (with_reducible refine (model_Right.calls k a0_0 _ _ l0_1 _ _ l0_2 _ _ l0_3 _ _ l0_4 _ _ l0_5 a0_6 _ _ l0_7 256 t295 _ ?_ ?_ ?_ ?_ ?_ ?_ ?_ ?_ ?_ ?_ ?_ ?_ A8.out).mono ?_); exact ca_ ((Kd.C_below HR0_1.out HB.out)); exact HC0_1.out; exact ca_ ((Kd.C_below HR0_2.out HB.out)); exact HC0_2.out; exact ca_ ((Kd.C_below HR0_3.out HB.out)); exact HC0_3.out; exact ca_ ((Kd.C_below HR0_4.out HB.out)); exact HC0_4.out; exact ca_ ((Kd.C_below HR0_5.out HB.out)); exact HC0_5.out; exact ca_ ((Kd.C_below HR0_7.out HB.out)); exact HC0_7.out; rintro e w14 ⟨rfl, hb⟩; replace BK293 := Aside0.mk (blk_below (bk_ BK293.out) hb); replace HB := Aside0.mk (below_step bel_ hb); clear hb; obtain ⟨_, _, _, _, _, _, _, _, _, _, _, _, _, _, _, _⟩ := cel8_ BK293.out))
     go_ret
     exact ⟨by first | rfl | (simp [errW_none, errW_some] <;> rfl) | (simp [*, errW_none, errW_some] <;> rfl), bel_⟩
    ·
     rw [if_neg c10] at H
     exact absurd H (by simp)
   ·
    rw [if_neg c9] at H
    exact absurd H (by simp)
  ·
   rw [if_neg c7] at H
   exact absurd H (by simp)
 ·
  rw [if_neg c6] at H
  exact absurd H (by simp)

/-! ### slices_CloneDom: function 27 -/
def slices_CloneDom.f (l0 : List S58) : Option (List S58) := if l0.length < 1000000000000 then some l0 else none
theorem infoDom : (Tryz.prog.info? 58).map (fun i => (i.zero, i.size, i.bytes)) = some (some (.agg #[.int .i64 0, .slice none 0 0, .int .i64 0, .int .i64 0, .int .i64 0]), 5, 56) := by kernel_rfl
theorem slices_CloneDom.calls (P0_ : Nat → Prop) (A0 : Option Addr) (c0 : Nat) (l0 : List S58) (r : List S58) (w : World) (hs0 : Kd.V k58 58 w w.heap.size (fun k_ => P0_ k_) (.slice A0 l0.length c0) l0) (h : slices_CloneDom.f l0 = some r) :
  Calls Tryz.prog 27 #[.slice A0 l0.length c0] w fun e w' => ∃ v0_ : Value, e = .returned (v0_) ∧ Kd.N k58 58 w' w.heap.size (fun k_ => (P0_ k_ ∨ w.heap.size ≤ k_)) v0_ r ∧ Below w.heap.size w w' := by
 unfold slices_CloneDom.f at h
 by_cases hb : l0.length < 1000000000000
 ·
  rw [if_pos hb] at h
  obtain rfl := Option.some.inj h
  clear h
  rcases A0 with _ | ad
  ·
   have h0 : l0 = [] := by
    rcases Nat.eq_zero_or_pos l0.length with h0 | h0
    ·
     exact List.eq_nil_of_length_eq_zero h0
    ·
     obtain ⟨ad, e, _⟩ := (Kd.F_now (Kd.V_F hs0)).2.2 h0; cases e
   subst h0
   have qT : ∀ (w : World) (a : Option Addr) (n c n' c' : Nat), (binOp .eql 36 (.slice a n c) (.slice none n' c')).run Tryz.prog w = .ok (.bool a.isNone) w := fun w a n c n' c' => Lib.run_eql_slice_nil w _ _ a n c n' c' Tryz.underlying36
   clear hs0 hb
   go_enter Tryz.func27, Tryz.ntmps27
   go_wp2
   go_ret
   exact ⟨_, rfl, Kd.N_nil _ _ _ _ _, Below.refl _ _⟩
  ·
   have qT : ∀ (w : World) (a : Option Addr) (n c n' c' : Nat), (binOp .eql 36 (.slice a n c) (.slice none n' c')).run Tryz.prog w = .ok (.bool a.isNone) w := fun w a n c n' c' => Lib.run_eql_slice_nil w _ _ a n c n' c' Tryz.underlying36
   have HR := Aside0.mk hs0
   have HL := Aside0.mk hb
   clear hs0 hb
   go_enter Tryz.func27, Tryz.ntmps27
   go_wp2_with (first | ((with_reducible refine gate_dst (N := 5) rfl ?_); refine Kd.R_lit k58 _ 58 ?hg (N := 5) ?hd (xs := ([] : List S58)) (inner := []) (ok := fun k_ => w.heap.size ≤ k_) (okp := fun _ => False) ?hr ?hp (fun _ hk => hk.elim) (Nat.le_refl _) (Below.refl _ _) (Nat.le_refl _) (by simp) ?_; (case hd => rfl); (case hg => rfl); (case hr => first | (go_simp; done) | (go_simp; rfl)); (case hp => exact Reps.none _ _); intro v1 w1 hR hB hG hat; have HO := Aside0.mk (Kd.N_mono (Kd.R_N hR) (ok' := fun k_ => (P0_ k_ ∧ k_ < w.heap.size) ∨ w.heap.size ≤ k_) (fun k hk => Or.inr hk)); have HB := Aside0.mk hB; have HV := Aside0.mk (fun k (hk : some k = v1.ownBlock) => hR.1 k hk.symm); clear hR hB hG hat) | ((with_reducible refine gate_builtin (b := .append) (xs := #[.tmp 5, .tmp 6]) rfl ?_); at_builtin; refine Kd.N_append_rows k58 (w0 := w) w.heap.size rfl (.tmp 5) (.tmp 6) 36 58 (.agg #[.int .i64 0, .slice none 0 0, .int .i64 0, .int .i64 0, .int .i64 0]) 56 rfl Tryz.underlying36 infoDom rfl (by decide) (by decide) v1 [] l0 (some ad) l0.length c0 (fun k_ => (P0_ k_ ∧ k_ < w.heap.size) ∨ w.heap.size ≤ k_) (fun k_ => P0_ k_ ∧ k_ < w.heap.size) rfl rfl HO.out (Kd.V_F (Kd.V_below (Kd.V_bound HR.out) HB.out)) (fun k hk => ⟨Or.inl hk, fun he => Nat.lt_irrefl _ (Nat.lt_of_lt_of_le hk.2 (HV.out k he))⟩) (fun k hk => Or.inr (Nat.le_trans HB.out.size hk)) HB.out HB.out.size (by have := HL.out; simp only [List.length_nil]; omega) ?_; intro v2 w2 hR hB hG hat; have HO2 := Aside0.mk hR; have HB2 := Aside0.mk hB; clear hR hB hG hat))
   go_ret
   exact ⟨_, rfl, Kd.N_mono HO2.out (fun k hk => hk.elim (fun h => Or.inl h.1) Or.inr), HB2.out⟩
 ·
  rw [if_neg hb] at h; cases h

/-! ### clause_want: function 28 -/
def clause_want.f (a0_0 : Int) (l0_1 : List Int) (l0_2 : List Int) (l0_3 : List Int) (l0_4 : List Int) (l0_5 : List Int) (a0_6 : Int) (l0_7 : List (List Int)) (a1 : Int) : Option (Int) := if a1 < (l0_1.length : Int) then (some 1) else (some 0)
set_option maxHeartbeats 8000000 in
set_option maxRecDepth 100000 in
theorem clause_want.calls (a0_0 : Int) (A0_1 : Option Addr) (c0_1 : Nat) (l0_1 : List Int) (A0_2 : Option Addr) (c0_2 : Nat) (l0_2 : List Int) (A0_3 : Option Addr) (c0_3 : Nat) (l0_3 : List Int) (A0_4 : Option Addr) (c0_4 : Nat) (l0_4 : List Int) (A0_5 : Option Addr) (c0_5 : Nat) (l0_5 : List Int) (a0_6 : Int) (A0_7 : Option Addr) (c0_7 : Nat) (l0_7 : List (List Int)) (a1 : Int) (r : Int) (w : World) (hr0_1 : Kd.C (Kd.int .i64) w A0_1 l0_1.length l0_1) (hc0_1 : l0_1.length ≤ c0_1) (hr0_2 : Kd.C (Kd.int .i64) w A0_2 l0_2.length l0_2) (hc0_2 : l0_2.length ≤ c0_2) (hr0_3 : Kd.C (Kd.int .i64) w A0_3 l0_3.length l0_3) (hc0_3 : l0_3.length ≤ c0_3) (hr0_4 : Kd.C (Kd.int .i64) w A0_4 l0_4.length l0_4) (hc0_4 : l0_4.length ≤ c0_4) (hr0_5 : Kd.C (Kd.int .i64) w A0_5 l0_5.length l0_5) (hc0_5 : l0_5.length ≤ c0_5) (hr0_7 : Kd.C (Kd.slice 3 (Kd.int .i64)) w A0_7 l0_7.length l0_7) (hc0_7 : l0_7.length ≤ c0_7) (h : clause_want.f a0_0 l0_1 l0_2 l0_3 l0_4 l0_5 a0_6 l0_7 a1 = some r) :
  Calls Tryz.prog 28 #[.agg #[.int .i64 a0_0, .slice A0_1 l0_1.length c0_1, .slice A0_2 l0_2.length c0_2, .slice A0_3 l0_3.length c0_3, .slice A0_4 l0_4.length c0_4, .slice A0_5 l0_5.length c0_5, .int .i64 a0_6, .slice A0_7 l0_7.length c0_7], .int .i64 a1] w fun e w' => e = .returned (.int .i64 r) ∧ Below w.heap.size w w' := by
 have hu32 := Tryz.underlying32
 have HC0_1 := Aside0.mk hc0_1
 clear hr0_1 hc0_1
 have HC0_2 := Aside0.mk hc0_2
 clear hr0_2 hc0_2
 have HC0_3 := Aside0.mk hc0_3
 clear hr0_3 hc0_3
 have HC0_4 := Aside0.mk hc0_4
 clear hr0_4 hc0_4
 have HC0_5 := Aside0.mk hc0_5
 clear hr0_5 hc0_5
 have HC0_7 := Aside0.mk hc0_7
 clear hr0_7 hc0_7
 have HB := Aside0.mk (Below.refl w.heap.size w)
 unfold clause_want.f at h
 have H := h
 clear h
 by_cases c3 : a1 < (l0_1.length : Int)
 ·
  rw [if_pos c3] at H
  have c3b0 : decide (a1 < (l0_1.length : Int)) = true := decide_eq_true c3
  clear c3
  obtain rfl := Option.some.inj H
  go_enter Tryz.func28, Tryz.ntmps28
  go_wp2_with (first | ((with_reducible refine gate_dst (N := 2) rfl ?_); refine bxe_ (N := 2) (cs := #[.int .i64 a0_0, .slice A0_1 l0_1.length c0_1, .slice A0_2 l0_2.length c0_2, .slice A0_3 l0_3.length c0_3, .slice A0_4 l0_4.length c0_4, .slice A0_5 l0_5.length c0_5, .int .i64 a0_6, .slice A0_7 l0_7.length c0_7]) (t := 32) ?_; intro gb296 hg w4 hbox hb; have BK296 := Aside0.mk (hbox); have GW296 := Aside0.mk (by rw [hg]; exact (below_size bel_) : w.heap.size ≤ gb296); have GE296 := GW296; replace HB := Aside0.mk (below_step bel_ hb); clear hb hbox hg; obtain ⟨_, _, _, _, _, _, _, _, _, _, _, _, _, _, _, _⟩ := cel8_ BK296.out))
  go_ret
  exact ⟨by first | rfl | (simp [errW_none, errW_some] <;> rfl) | (simp [*, errW_none, errW_some] <;> rfl), bel_⟩
 ·
  rw [if_neg c3] at H
  have c3b0 : decide (a1 < (l0_1.length : Int)) = false := decide_eq_false c3
  clear c3
  obtain rfl := Option.some.inj H
  go_enter Tryz.func28, Tryz.ntmps28
  go_wp2_with (first | ((with_reducible refine gate_dst (N := 2) rfl ?_); refine bxe_ (N := 2) (cs := #[.int .i64 a0_0, .slice A0_1 l0_1.length c0_1, .slice A0_2 l0_2.length c0_2, .slice A0_3 l0_3.length c0_3, .slice A0_4 l0_4.length c0_4, .slice A0_5 l0_5.length c0_5, .int .i64 a0_6, .slice A0_7 l0_7.length c0_7]) (t := 32) ?_; intro gb296 hg w6 hbox hb; have BK296 := Aside0.mk (hbox); have GW296 := Aside0.mk (by rw [hg]; exact (below_size bel_) : w.heap.size ≤ gb296); have GE296 := GW296; replace HB := Aside0.mk (below_step bel_ hb); clear hb hbox hg; obtain ⟨_, _, _, _, _, _, _, _, _, _, _, _, _, _, _, _⟩ := cel8_ BK296.out))
  go_ret
  exact ⟨by first | rfl | (simp [errW_none, errW_some] <;> rfl) | (simp [*, errW_none, errW_some] <;> rfl), bel_⟩

/-! ### bits_TrailingZeros64: function 48 -/
def tabL : List Int := [0, 1, 56, 2, 57, 49, 28, 3, 61, 58, 42, 50, 38, 29, 17, 4, 62, 47, 59, 36, 45, 43, 51, 22, 53, 39, 33, 30, 24, 18, 12, 5, 63, 55, 48, 27, 60, 41, 37, 16, 46, 35, 44, 21, 52, 32, 23, 11, 54, 26, 40, 15, 34, 20, 31, 10, 25, 14, 19, 9, 13, 8, 7, 6]
def bits_TrailingZeros64.f (a0 : Int) : Option Int := if 0 ≤ a0 ∧ a0 < 18446744073709551616 then some (Lib.ctz 64 a0.toNat : Nat) else none
theorem tz64_key (x a : Nat) (hx : x < 18446744073709551616) (hx0 : x ≠ 0) (hlow : x &&& (18446744073709551616 - x) = a) :
  IntKind.u64.wrap (Go.bits .and .u64 (x : Int) (IntKind.u64.wrap (-(x : Int))) * 285870213051353865) / 288230376151711744 = ((a * 285870213051353865 % 18446744073709551616 / 288230376151711744 : Nat) : Int) := by
 have e1 : IntKind.u64.wrap (-(x : Int)) = ((18446744073709551616 - x : Nat) : Int) := by rw [IntKind.wrap_u64]; omega
 rw [e1, bits_and_u64_nat x _ hx (by omega), hlow, IntKind.wrap_u64]
 omega
set_option maxHeartbeats 1000000 in
theorem tz64_core (x k idx : Nat) (w : World) (hx0 : ((x : Int) == 0) = false)
  (key : IntKind.u64.wrap (Go.bits .and .u64 (x : Int) (IntKind.u64.wrap (-(x : Int))) * 285870213051353865) / 288230376151711744 = (idx : Int))
  (hi : idx < 64) (hk : k < 64) (hcell : w.cell? ⟨0, idx, none⟩ = some (.int .u8 k)) :
  Calls Tryz.prog 48 #[.int .u64 x] w fun e w' => e = .returned (.int .i64 k) ∧ w = w' := by
 go_enter Tryz.func48, Tryz.ntmps48
 go_wp2_with (simp only [key])
 go_ret
 exact ⟨rfl, rfl⟩
theorem tz64_zero (w : World) : Calls Tryz.prog 48 #[.int .u64 0] w fun e w' => e = .returned (.int .i64 64) ∧ w = w' := by
 go_enter Tryz.func48, Tryz.ntmps48
 go_wp2
 go_ret
 exact ⟨rfl, rfl⟩
theorem tabL_at (i : Nat) (h : i < 64) : tabL.getD i 0 = ((Lib.deBruijn64tab.getD i 0 : Nat) : Int) := by
 revert i; decide +kernel
theorem bits_TrailingZeros64.calls (a0 : Int) (r : Int) (w : World) (hrtab : Kd.C (Kd.int .u8) w (some ⟨0, 0, none⟩) tabL.length tabL) (h : bits_TrailingZeros64.f a0 = some r) :
  Calls Tryz.prog 48 #[.int .u64 a0] w fun e w' => e = .returned (.int .i64 r) ∧ Drawn0 w w' := by
 unfold bits_TrailingZeros64.f at h
 by_cases hb : 0 ≤ a0 ∧ a0 < 18446744073709551616
 ·
  rw [if_pos hb] at h
  obtain rfl := Option.some.inj h
  obtain ⟨x, rfl⟩ := Int.eq_ofNat_of_zero_le hb.1
  rw [Int.toNat_natCast]
  by_cases hx0 : x = 0
  ·
   subst hx0
   exact (tz64_zero w).mono (fun e w' ⟨he, hw⟩ => ⟨he, by subst hw; exact Drawn0.refl _⟩)
  ·
   have hx : x < 18446744073709551616 := by omega
   obtain ⟨hlow, hk⟩ := Lib.lowest_bit 64 x hx0 hx
   obtain ⟨hi, htab⟩ := Lib.deBruijn64_at _ hk
   obtain ⟨ad, had, hcell⟩ := Kd.at_int hrtab ((2 ^ Lib.ctz 64 x * 285870213051353865 % 18446744073709551616 / 288230376151711744 : Nat) : Int) (by omega) (by show _ < ((64 : Nat) : Int); omega)
   obtain rfl := Option.some.inj had
   rw [Int.toNat_natCast] at hcell
   have e1 : rd tabL ((2 ^ Lib.ctz 64 x * 285870213051353865 % 18446744073709551616 / 288230376151711744 : Nat) : Int) = ((Lib.ctz 64 x : Nat) : Int) := by
    unfold rd
    rw [Int.toNat_natCast, tabL_at _ hi, htab]
   rw [e1, add_plain] at hcell
   exact (tz64_core x _ _ w (by simp; omega) (tz64_key x _ hx hx0 hlow) hi hk hcell).mono (fun e w' ⟨he, hw⟩ => ⟨he, by subst hw; exact Drawn0.refl _⟩)
 ·
  rw [if_neg hb] at h
  cases h

/-! ### bits_LeadingZeros64: function 84 -/
def bits_LeadingZeros64.f (a0 : Int) : Option Int := if 0 ≤ a0 ∧ a0 < 18446744073709551616 then some (64 - (Lib.bitLen a0.toNat : Int)) else none
theorem bits_LeadingZeros64.calls (a0 : Int) (r : Int) (w : World) (h : bits_LeadingZeros64.f a0 = some r) :
  Calls Tryz.prog 84 #[.int .u64 a0] w fun e w' => e = .returned (.int .i64 r) ∧ Below w.heap.size w w' := by
 unfold bits_LeadingZeros64.f at h
 by_cases hb : 0 ≤ a0 ∧ a0 < 18446744073709551616
 ·
  rw [if_pos hb] at h
  obtain rfl := Option.some.inj h
  exact (Tryz.bits_LeadingZeros64 a0 w hb.1 (by omega)).mono (fun e w' ⟨he, hw⟩ => ⟨he, by subst hw; exact Below.refl _ _⟩)
 ·
  rw [if_neg hb] at h; cases h

/-! ### bits_OnesCount64: function 85 -/
def bits_OnesCount64.f (a0 : Int) : Option (Int) := some (Go.bits .and .i64 (wrap64 (IntKind.u64.wrap ((IntKind.u64.wrap ((IntKind.u64.wrap ((Go.bits .and .u64 (IntKind.u64.wrap (((IntKind.u64.wrap ((Go.bits .and .u64 ((IntKind.u64.wrap ((Go.bits .and .u64 (a0 / 2) 6148914691236517205) + (Go.bits .and .u64 a0 6148914691236517205))) / 4) 3689348814741910323) + (Go.bits .and .u64 (IntKind.u64.wrap ((Go.bits .and .u64 (a0 / 2) 6148914691236517205) + (Go.bits .and .u64 a0 6148914691236517205))) 3689348814741910323))) / 16) + (IntKind.u64.wrap ((Go.bits .and .u64 ((IntKind.u64.wrap ((Go.bits .and .u64 (a0 / 2) 6148914691236517205) + (Go.bits .and .u64 a0 6148914691236517205))) / 4) 3689348814741910323) + (Go.bits .and .u64 (IntKind.u64.wrap ((Go.bits .and .u64 (a0 / 2) 6148914691236517205) + (Go.bits .and .u64 a0 6148914691236517205))) 3689348814741910323))))) 1085102592571150095) + ((Go.bits .and .u64 (IntKind.u64.wrap (((IntKind.u64.wrap ((Go.bits .and .u64 ((IntKind.u64.wrap ((Go.bits .and .u64 (a0 / 2) 6148914691236517205) + (Go.bits .and .u64 a0 6148914691236517205))) / 4) 3689348814741910323) + (Go.bits .and .u64 (IntKind.u64.wrap ((Go.bits .and .u64 (a0 / 2) 6148914691236517205) + (Go.bits .and .u64 a0 6148914691236517205))) 3689348814741910323))) / 16) + (IntKind.u64.wrap ((Go.bits .and .u64 ((IntKind.u64.wrap ((Go.bits .and .u64 (a0 / 2) 6148914691236517205) + (Go.bits .and .u64 a0 6148914691236517205))) / 4) 3689348814741910323) + (Go.bits .and .u64 (IntKind.u64.wrap ((Go.bits .and .u64 (a0 / 2) 6148914691236517205) + (Go.bits .and .u64 a0 6148914691236517205))) 3689348814741910323))))) 1085102592571150095) / 256))) + ((IntKind.u64.wrap ((Go.bits .and .u64 (IntKind.u64.wrap (((IntKind.u64.wrap ((Go.bits .and .u64 ((IntKind.u64.wrap ((Go.bits .and .u64 (a0 / 2) 6148914691236517205) + (Go.bits .and .u64 a0 6148914691236517205))) / 4) 3689348814741910323) + (Go.bits .and .u64 (IntKind.u64.wrap ((Go.bits .and .u64 (a0 / 2) 6148914691236517205) + (Go.bits .and .u64 a0 6148914691236517205))) 3689348814741910323))) / 16) + (IntKind.u64.wrap ((Go.bits .and .u64 ((IntKind.u64.wrap ((Go.bits .and .u64 (a0 / 2) 6148914691236517205) + (Go.bits .and .u64 a0 6148914691236517205))) / 4) 3689348814741910323) + (Go.bits .and .u64 (IntKind.u64.wrap ((Go.bits .and .u64 (a0 / 2) 6148914691236517205) + (Go.bits .and .u64 a0 6148914691236517205))) 3689348814741910323))))) 1085102592571150095) + ((Go.bits .and .u64 (IntKind.u64.wrap (((IntKind.u64.wrap ((Go.bits .and .u64 ((IntKind.u64.wrap ((Go.bits .and .u64 (a0 / 2) 6148914691236517205) + (Go.bits .and .u64 a0 6148914691236517205))) / 4) 3689348814741910323) + (Go.bits .and .u64 (IntKind.u64.wrap ((Go.bits .and .u64 (a0 / 2) 6148914691236517205) + (Go.bits .and .u64 a0 6148914691236517205))) 3689348814741910323))) / 16) + (IntKind.u64.wrap ((Go.bits .and .u64 ((IntKind.u64.wrap ((Go.bits .and .u64 (a0 / 2) 6148914691236517205) + (Go.bits .and .u64 a0 6148914691236517205))) / 4) 3689348814741910323) + (Go.bits .and .u64 (IntKind.u64.wrap ((Go.bits .and .u64 (a0 / 2) 6148914691236517205) + (Go.bits .and .u64 a0 6148914691236517205))) 3689348814741910323))))) 1085102592571150095) / 256))) / 65536))) + ((IntKind.u64.wrap ((IntKind.u64.wrap ((Go.bits .and .u64 (IntKind.u64.wrap (((IntKind.u64.wrap ((Go.bits .and .u64 ((IntKind.u64.wrap ((Go.bits .and .u64 (a0 / 2) 6148914691236517205) + (Go.bits .and .u64 a0 6148914691236517205))) / 4) 3689348814741910323) + (Go.bits .and .u64 (IntKind.u64.wrap ((Go.bits .and .u64 (a0 / 2) 6148914691236517205) + (Go.bits .and .u64 a0 6148914691236517205))) 3689348814741910323))) / 16) + (IntKind.u64.wrap ((Go.bits .and .u64 ((IntKind.u64.wrap ((Go.bits .and .u64 (a0 / 2) 6148914691236517205) + (Go.bits .and .u64 a0 6148914691236517205))) / 4) 3689348814741910323) + (Go.bits .and .u64 (IntKind.u64.wrap ((Go.bits .and .u64 (a0 / 2) 6148914691236517205) + (Go.bits .and .u64 a0 6148914691236517205))) 3689348814741910323))))) 1085102592571150095) + ((Go.bits .and .u64 (IntKind.u64.wrap (((IntKind.u64.wrap ((Go.bits .and .u64 ((IntKind.u64.wrap ((Go.bits .and .u64 (a0 / 2) 6148914691236517205) + (Go.bits .and .u64 a0 6148914691236517205))) / 4) 3689348814741910323) + (Go.bits .and .u64 (IntKind.u64.wrap ((Go.bits .and .u64 (a0 / 2) 6148914691236517205) + (Go.bits .and .u64 a0 6148914691236517205))) 3689348814741910323))) / 16) + (IntKind.u64.wrap ((Go.bits .and .u64 ((IntKind.u64.wrap ((Go.bits .and .u64 (a0 / 2) 6148914691236517205) + (Go.bits .and .u64 a0 6148914691236517205))) / 4) 3689348814741910323) + (Go.bits .and .u64 (IntKind.u64.wrap ((Go.bits .and .u64 (a0 / 2) 6148914691236517205) + (Go.bits .and .u64 a0 6148914691236517205))) 3689348814741910323))))) 1085102592571150095) / 256))) + ((IntKind.u64.wrap ((Go.bits .and .u64 (IntKind.u64.wrap (((IntKind.u64.wrap ((Go.bits .and .u64 ((IntKind.u64.wrap ((Go.bits .and .u64 (a0 / 2) 6148914691236517205) + (Go.bits .and .u64 a0 6148914691236517205))) / 4) 3689348814741910323) + (Go.bits .and .u64 (IntKind.u64.wrap ((Go.bits .and .u64 (a0 / 2) 6148914691236517205) + (Go.bits .and .u64 a0 6148914691236517205))) 3689348814741910323))) / 16) + (IntKind.u64.wrap ((Go.bits .and .u64 ((IntKind.u64.wrap ((Go.bits .and .u64 (a0 / 2) 6148914691236517205) + (Go.bits .and .u64 a0 6148914691236517205))) / 4) 3689348814741910323) + (Go.bits .and .u64 (IntKind.u64.wrap ((Go.bits .and .u64 (a0 / 2) 6148914691236517205) + (Go.bits .and .u64 a0 6148914691236517205))) 3689348814741910323))))) 1085102592571150095) + ((Go.bits .and .u64 (IntKind.u64.wrap (((IntKind.u64.wrap ((Go.bits .and .u64 ((IntKind.u64.wrap ((Go.bits .and .u64 (a0 / 2) 6148914691236517205) + (Go.bits .and .u64 a0 6148914691236517205))) / 4) 3689348814741910323) + (Go.bits .and .u64 (IntKind.u64.wrap ((Go.bits .and .u64 (a0 / 2) 6148914691236517205) + (Go.bits .and .u64 a0 6148914691236517205))) 3689348814741910323))) / 16) + (IntKind.u64.wrap ((Go.bits .and .u64 ((IntKind.u64.wrap ((Go.bits .and .u64 (a0 / 2) 6148914691236517205) + (Go.bits .and .u64 a0 6148914691236517205))) / 4) 3689348814741910323) + (Go.bits .and .u64 (IntKind.u64.wrap ((Go.bits .and .u64 (a0 / 2) 6148914691236517205) + (Go.bits .and .u64 a0 6148914691236517205))) 3689348814741910323))))) 1085102592571150095) / 256))) / 65536))) / 4294967296)))) 127)
set_option maxHeartbeats 8000000 in
set_option maxRecDepth 100000 in
theorem bits_OnesCount64.calls (a0 : Int) (r : Int) (w : World) (h : bits_OnesCount64.f a0 = some r) :
  Calls Tryz.prog 85 #[.int .u64 a0] w fun e w' => e = .returned (.int .i64 r) ∧ Drawn0 w w' := by
 unfold bits_OnesCount64.f at h
 have H := h
 clear h
 obtain rfl := Option.some.inj H
 go_enter Tryz.func85, Tryz.ntmps85
 go_wp2
 go_ret
 exact ⟨by first | rfl | (simp; done) | (simp [*]; done), by repeat (first | exact Drawn0.refl _ | apply Drawn0.step)⟩


/-! ### dom_made: function 65 -/
def dom_made.l0 : Nat → Int → List Int → Int → Int → Int → List Int → Int → Int → Int → Option (Int × List Int × Int × Int × Int)
 | 0, _, _, _, _, _, _, _, _, _ => none
 | k + 1, x0, x11, x12, x13, x299000, x299001, x299002, x299003, x299004 => if x13 < x12 then (if 0 ≤ x13 then (if x13 < (x11.length : Int) then (if (rd x11 x13) = 0 then (dom_made.l0 k x0 x11 x12 (wrap64 (x13 + 1)) x299000 x299001 x299002 x299003 x299004) else (if x299004 = 0 then ((bits_TrailingZeros64.f (rd x11 x13)).bind fun t300 => ((bits_LeadingZeros64.f (rd x11 x13)).bind fun t301 => ((bits_OnesCount64.f (rd x11 x13)).bind fun t302 => (dom_made.l0 k x0 x11 x12 (wrap64 (x13 + 1)) x299000 x299001 (wrap64 ((wrap64 (x0 + (wrap64 (64 * x13)))) + t300)) (wrap64 ((wrap64 ((wrap64 ((wrap64 (x0 + (wrap64 (64 * x13)))) + 64)) - 1)) - t301)) (wrap64 (x299004 + t302)))))) else ((bits_LeadingZeros64.f (rd x11 x13)).bind fun t303 => ((bits_OnesCount64.f (rd x11 x13)).bind fun t304 => (dom_made.l0 k x0 x11 x12 (wrap64 (x13 + 1)) x299000 x299001 x299002 (wrap64 ((wrap64 ((wrap64 ((wrap64 (x0 + (wrap64 (64 * x13)))) + 64)) - 1)) - t303)) (wrap64 (x299004 + t304))))))) else (none)) else (none)) else (some (x299000, x299001, x299002, x299003, x299004))
def dom_made.f (k : Nat) (a0 : Int) (l1 : List Int) : Option (Int × List Int × Int × Int × Int) := dom_made.l0 k a0 l1 (l1.length : Int) 0 a0 l1 0 0 0
theorem dom_made.mono_l : ∀ k, (∀ y0 y1 y2 y3 y4 y5 y6 y7 y8, LeO (dom_made.l0 k y0 y1 y2 y3 y4 y5 y6 y7 y8) (dom_made.l0 (k + 1) y0 y1 y2 y3 y4 y5 y6 y7 y8))
 | 0 => fun _ _ _ _ _ _ _ _ _ r h => by simp [dom_made.l0] at h
 | k + 1 => by
  have ih0 := dom_made.mono_l k
  ·
   intro y0 y1 y2 y3 y4 y5 y6 y7 y8
   unfold dom_made.l0
   exact leo_
theorem dom_made.mono : ∀ a0 a1 k, LeO (dom_made.f k a0 a1) (dom_made.f (k + 1) a0 a1) := by
 intro a0 a1 k
 have ih0 := dom_made.mono_l k
 unfold dom_made.f
 exact leo_
set_option maxHeartbeats 8000000 in
set_option maxRecDepth 100000 in
theorem dom_made.calls (k : Nat) (a0 : Int) (P1_ : Nat → Prop) (A1 : Option Addr) (c1 : Nat) (l1 : List Int) (r1 : Int) (r2 : List Int) (r3 : Int) (r4 : Int) (r5 : Int) (w : World) (hs1 : Kd.V (Kd.int .u64) 80 w w.heap.size (fun k_ => P1_ k_) (.slice A1 l1.length c1) l1) (hrtab : Kd.C (Kd.int .u8) w (some ⟨0, 0, none⟩) tabL.length tabL) (h : dom_made.f k a0 l1 = some (r1, r2, r3, r4, r5)) :
  Calls Tryz.prog 65 #[.int .i64 a0, .slice A1 l1.length c1] w fun e w' => ∃ v1_ : Value, e = .returned (.agg #[.int .i64 r1, v1_, .int .i64 r3, .int .i64 r4, .int .i64 r5]) ∧ Kd.V (Kd.int .u64) 80 w' w.heap.size (fun k_ => (P1_ k_ ∨ w.heap.size ≤ k_)) v1_ r2 ∧ Below w.heap.size w w' := by
 have hu58 := Tryz.underlying58
 have HO1 := Aside0.mk (show Kd.V (Kd.int .u64) 80 w w.heap.size (fun k_ => (P1_ k_ ∨ w.heap.size ≤ k_)) (.slice A1 l1.length c1) l1 from Kd.V_mono hs1 (fun k_ hk => .inl hk))
 have HRtab := Aside0.mk hrtab
 clear hrtab
 have HB := Aside0.mk (Below.refl w.heap.size w)
 unfold dom_made.f at h
 have H := h
 clear h
 have H' := Aside0.mk H
 clear H
 go_enter Tryz.func65, Tryz.ntmps65
 go_wp2_with (first | ((with_reducible refine gate_dst (N := 4) rfl ?_); refine bxe_ (N := 4) (cs := #[.int .i64 0, .slice none 0 0, .int .i64 0, .int .i64 0, .int .i64 0]) (t := 58) ?_; intro gb297 hg w3 hbox hb; replace HO1 := Aside0.mk (Kd.V_below (Kd.V_elderB (vV_ HO1.out) gb297 (Nat.le_of_eq hg.symm)) hb); have BK297 := Aside0.mk (hbox); have GW297 := Aside0.mk (by rw [hg]; exact (below_size bel_) : w.heap.size ≤ gb297); have GE297 := GW297; replace HB := Aside0.mk (below_step bel_ hb); clear hb hbox hg) | ((with_reducible refine gate_dst (N := 5) rfl ?_); refine bxe_ (N := 5) (cs := #[.int .i64 0, .slice none 0 0, .int .i64 0, .int .i64 0, .int .i64 0]) (t := 58) ?_; intro gb298 hg w4 hbox hb; replace HO1 := Aside0.mk (Kd.V_below (Kd.V_elderB (vV_ HO1.out) gb298 (Nat.le_of_eq hg.symm)) hb); have BK298 := Aside0.mk (hbox); have GW298 := Aside0.mk (by rw [hg]; exact (below_size bel_) : w.heap.size ≤ gb298); have GE298 := GW298; replace HB := Aside0.mk (below_step bel_ hb); have NB297_298 := Aside0.mk ((by rw [hg]; exact Nat.ne_of_lt (blk_lt (bk_ BK297.out)) : gb297 ≠ gb298)); have NB298_297 := Aside0.mk ((by rw [hg]; exact Nat.ne_of_gt (blk_lt (bk_ BK297.out)) : gb298 ≠ gb297)); replace BK297 := Aside0.mk (blk_below (bk_ BK297.out) hb); clear hb hbox hg; have hnb5 := NB298_297.out; have hnc5 := NB297_298.out; obtain ⟨_, _, _, _, _, _, _, _, _, _⟩ := cel5_ BK298.out))
 go_loopg [13] k (fun kq v13 w' => ∃ (x13_1 : Int) (x299002_1 : Int) (x299003_1 : Int) (x299004_1 : Int), v13 = .int .i64 x13_1 ∧ Aside0 (dom_made.l0 kq a0 l1 (l1.length : Int) x13_1 a0 l1 x299002_1 x299003_1 x299004_1 = some (r1, r2, r3, r4, r5)) ∧ Aside0 (kq ≤ k) ∧ Aside0 (Kd.V (Kd.int .u64) 80 w' w.heap.size (fun k_ => (P1_ k_ ∨ w.heap.size ≤ k_) ∧ k_ ≠ gb297 ∧ k_ ≠ gb298) (.slice A1 l1.length c1) l1) ∧ Aside0 (Kd.V (Kd.int .u64) 80 w' w.heap.size (fun k_ => (P1_ k_ ∨ w.heap.size ≤ k_) ∧ k_ ≠ gb297 ∧ k_ ≠ gb298) (.slice A1 l1.length c1) l1) ∧ Aside0 (w'.heap[gb297]? = some (.cells #[.int .i64 0, (.slice none 0 0), .int .i64 0, .int .i64 0, .int .i64 0] 58 (0, 0))) ∧ Aside0 (w'.heap[gb298]? = some (.cells #[.int .i64 a0, (.slice A1 l1.length c1), .int .i64 x299002_1, .int .i64 x299003_1, .int .i64 x299004_1] 58 (0, 0))) ∧ Aside0 (Below w.heap.size w w'))
 case atStart => exact ⟨(0), (0), (0), (0), eq_, H', ⟨Nat.le_refl _⟩, ⟨by refine vV_ ?_; exact Kd.V_mono (fV_ (fV_ (fV_ (fV_ (fV_ (Kd.V_mono HO1.out (fun k_ hk => (⟨hk, hk.2⟩ : _ ∧ k_ ≠ gb298)))))))) (fun _ hk => ⟨hk.1.1.1, ⟨hk.1.1.2, hk.1.2⟩⟩)⟩, ⟨by refine vV_ ?_; exact Kd.V_mono (fV_ (fV_ (fV_ (fV_ (fV_ (Kd.V_mono HO1.out (fun k_ hk => (⟨hk, hk.2⟩ : _ ∧ k_ ≠ gb298)))))))) (fun _ hk => ⟨hk.1.1.1, ⟨hk.1.1.2, hk.1.2⟩⟩)⟩, ⟨by refine bk_ ?_; refine blk_far ?_ NB297_298.out _; refine bk_ ?_; refine blk_far ?_ NB297_298.out _; refine bk_ ?_; refine blk_far ?_ NB297_298.out _; refine bk_ ?_; refine blk_far ?_ NB297_298.out _; refine bk_ ?_; refine blk_far ?_ NB297_298.out _; refine bk_ ?_; exact BK297.out⟩, ⟨by refine bk_ ?_; refine blk_put (cs := #[.int .i64 a0, .slice A1 l1.length c1, .int .i64 0, .int .i64 0, .int .i64 0]) ?_ 4 _ rfl; refine bk_ ?_; refine blk_put (cs := #[.int .i64 a0, .slice A1 l1.length c1, .int .i64 0, .int .i64 0, .int .i64 0]) ?_ 3 _ rfl; refine bk_ ?_; refine blk_put (cs := #[.int .i64 a0, .slice A1 l1.length c1, .int .i64 0, .int .i64 0, .int .i64 0]) ?_ 2 _ rfl; refine bk_ ?_; refine blk_put (cs := #[.int .i64 a0, .slice none 0 0, .int .i64 0, .int .i64 0, .int .i64 0]) ?_ 1 _ rfl; refine bk_ ?_; refine blk_put (cs := #[.int .i64 0, .slice none 0 0, .int .i64 0, .int .i64 0, .int .i64 0]) ?_ 0 _ rfl; refine bk_ ?_; exact BK298.out⟩, ⟨bel_⟩⟩
 case round =>
  clear H'
  try clear c1
  try clear p2
  try clear c5
  try clear c6
  obtain ⟨x13_1, x299002_1, x299003_1, x299004_1, rfl, HA, HK1, HO_11, HO_299001, BK297, BK298, HB⟩ := hrel
  cases gk with
  | zero => exact absurd HA.out (by simp [dom_made.l0])
  | succ k1 =>
   have H := HA.out
   clear HA
   simp only [dom_made.l0] at H
   by_cases c7 : x13_1 < (l1.length : Int)
   ·
    rw [if_pos c7] at H
    have c7b0 : decide (x13_1 < (l1.length : Int)) = true := decide_eq_true c7
    clear c7
    by_cases c8 : 0 ≤ x13_1
    ·
     rw [if_pos c8] at H
     have c8b0 : decide (0 ≤ x13_1) = true := decide_eq_true c8
     clear c8
     by_cases c9 : x13_1 < (l1.length : Int)
     ·
      rw [if_pos c9] at H
      have c9b0 : decide (x13_1 < (l1.length : Int)) = true := decide_eq_true c9
      clear c9
      by_cases c10 : (rd l1 x13_1) = 0
      ·
       rw [if_pos c10] at H
       have c10b0 : ((rd l1 x13_1) == 0) = true := beq_iff_eq.mpr c10
       have c10b1 : ((rd l1 x13_1) != 0) = false := bne_eq_false_iff_eq.mpr c10
       clear c10
       have H' := Aside0.mk H
       clear H
       have p299 : 0 ≤ (x13_1 : Int) := dq_
       have q299 : x13_1 < (l1.length : Int) := dq_
       obtain ⟨ad299, e299, hx299_0⟩ := Kd.at_int (Kd.V_reads' HO_11.out).2.2 x13_1 p299 q299
       cases e299
       replace p299 := eq_true p299
       replace q299 := eq_true q299
       go_wp2
       go_roundg k1
       case measure => have := HK1.out; omega
       case rel => exact ⟨(wrap64 (x13_1 + 1)), (x299002_1), (x299003_1), (x299004_1), eq_, H', ⟨by have := HK1.out; omega⟩, ⟨by refine vV_ ?_; exact HO_11.out⟩, ⟨by refine vV_ ?_; exact HO_299001.out⟩, ⟨by refine bk_ ?_; exact BK297.out⟩, ⟨by refine bk_ ?_; exact BK298.out⟩, ⟨bel_⟩⟩
      ·
       rw [if_neg c10] at H
       have c10b0 : ((rd l1 x13_1) == 0) = false := beq_eq_false_iff_ne.mpr c10
       have c10b1 : ((rd l1 x13_1) != 0) = true := bne_iff_ne.mpr c10
       by_cases c11 : x299004_1 = 0
       ·
        rw [if_pos c11] at H
        have c11b0 : (x299004_1 == 0) = true := beq_iff_eq.mpr c11
        have c11b1 : (x299004_1 != 0) = false := bne_eq_false_iff_eq.mpr c11
        clear c11
        replace H := Option.bind_eq_some_iff.mp H
        obtain ⟨t300, A120, H⟩ := H
        try dsimp only at H
        have A12 := Aside0.mk A120
        clear A120
        replace H := Option.bind_eq_some_iff.mp H
        obtain ⟨t301, A130, H⟩ := H
        try dsimp only at H
        have A13 := Aside0.mk A130
        clear A130
        replace H := Option.bind_eq_some_iff.mp H
        obtain ⟨t302, A140, H⟩ := H
        try dsimp only at H
        have A14 := Aside0.mk A140
        clear A140
        have H' := Aside0.mk H
        clear H
        have p299 : 0 ≤ (x13_1 : Int) := dq_
        have q299 : x13_1 < (l1.length : Int) := dq_
        obtain ⟨ad299, e299, hx299_0⟩ := Kd.at_int (Kd.V_reads' HO_11.out).2.2 x13_1 p299 q299
        cases e299
        replace p299 := eq_true p299
        replace q299 := eq_true q299
        have hnb15 := NB298_297.out
        have hnc15 := NB297_298.out
        obtain ⟨_, _, _, _, _, _, _, _, _, _⟩ := cel5_ BK298.out
        try go_wp2_with (first | ((with_reducible refine gate_callee (f := 48) rfl ?_); refine goesL_ (some 28) rfl rfl Tryz.func48 (by kernel_rfl) rfl #[.int .u64 (rd l1 x13_1)] rfl ar_ ?_; (with_reducible refine (bits_TrailingZeros64.calls (rd l1 x13_1) t300 _ ?_ A12.out).mono ?_); exact ca_ ((Kd.C_below HRtab.out HB.out)); rintro e w' ⟨rfl, ⟨nd, rfl⟩⟩; refine ⟨_, rfl, ?_⟩; (try (rw [drewN_self wr]; generalize hq_ : World.drewN wr _ = wr; replace HO_11 : Aside0 (Kd.V (Kd.int .u64) 80 wr w.heap.size (fun k_ => (P1_ k_ ∨ w.heap.size ≤ k_) ∧ k_ ≠ gb297 ∧ k_ ≠ gb298) (.slice (some ad299) l1.length c1) l1) := ⟨by rw [← hq_]; exact (vV_ HO_11.out)⟩; replace HO_299001 : Aside0 (Kd.V (Kd.int .u64) 80 wr w.heap.size (fun k_ => (P1_ k_ ∨ w.heap.size ≤ k_) ∧ k_ ≠ gb297 ∧ k_ ≠ gb298) (.slice (some ad299) l1.length c1) l1) := ⟨by rw [← hq_]; exact (vV_ HO_299001.out)⟩; replace BK297 : Aside0 (wr.heap[gb297]? = some (.cells #[.int .i64 0, .slice none 0 0, .int .i64 0, .int .i64 0, .int .i64 0] 58 (0, 0))) := ⟨by rw [← hq_]; exact (bk_ BK297.out)⟩; replace BK298 : Aside0 (wr.heap[gb298]? = some (.cells #[.int .i64 a0, .slice (some ad299) l1.length c1, .int .i64 x299002_1, .int .i64 x299003_1, .int .i64 x299004_1] 58 (0, 0))) := ⟨by rw [← hq_]; exact (bk_ BK298.out)⟩; replace HB : Aside0 (Below w.heap.size w wr) := ⟨by rw [← hq_]; exact bel_⟩; clear hq_)); (try (obtain ⟨_, _, _, _, _, _, _, _, _, _⟩ := cel5_ BK297.out)); (try (obtain ⟨_, _, _, _, _, _, _, _, _, _⟩ := cel5_ BK298.out))) | ((with_reducible refine gate_callee (f := 84) rfl ?_); refine goesL_ (some 38) rfl rfl Tryz.func84 (by kernel_rfl) rfl #[.int .u64 (rd l1 x13_1)] rfl ar_ ?_; (with_reducible refine (bits_LeadingZeros64.calls (rd l1 x13_1) t301 _ A13.out).mono ?_); rintro e w19 ⟨rfl, hb⟩; refine ⟨_, rfl, ?_⟩; replace HO_11 := Aside0.mk (Kd.V_below (by refine vV_ ?_; exact (Kd.V_mono (fV_ (Kd.V_mono HO_11.out (fun k_ hk => (⟨hk, hk.2.2⟩ : _ ∧ k_ ≠ gb298)))) (fun _ h_ => h_.1))) hb); replace HO_299001 := Aside0.mk (Kd.V_below (by refine vV_ ?_; exact (Kd.V_mono (fV_ (Kd.V_mono HO_299001.out (fun k_ hk => (⟨hk, hk.2.2⟩ : _ ∧ k_ ≠ gb298)))) (fun _ h_ => h_.1))) hb); replace BK297 := Aside0.mk (blk_below (g := gb297) (o := .cells #[.int .i64 0, .slice none 0 0, .int .i64 0, .int .i64 0, .int .i64 0] 58 (0, 0)) (by refine bk_ ?_; refine blk_far ?_ NB297_298.out _; refine bk_ ?_; exact BK297.out) hb); replace BK298 := Aside0.mk (blk_below (g := gb298) (o := .cells #[.int .i64 a0, .slice (some ad299) l1.length c1, .int .i64 (wrap64 ((wrap64 (a0 + (wrap64 (64 * x13_1)))) + t300)), .int .i64 x299003_1, .int .i64 x299004_1] 58 (0, 0)) (by refine bk_ ?_; refine blk_put (cs := #[.int .i64 a0, .slice (some ad299) l1.length c1, .int .i64 x299002_1, .int .i64 x299003_1, .int .i64 x299004_1]) ?_ 2 _ rfl; refine bk_ ?_; exact BK298.out) hb); replace HB := Aside0.mk (below_step bel_ hb); clear hb; obtain ⟨_, _, _, _, _, _, _, _, _, _⟩ := cel5_ BK298.out))
        obtain ⟨w21, hq_⟩ : ∃ x, x = (w19.setCell ⟨gb298, 3, none⟩ (.int .i64 (wrap64 ((wrap64 ((wrap64 ((wrap64 (a0 + (wrap64 (64 * x13_1)))) + 64)) - 1)) - t301)))) := ⟨_, rfl⟩
        replace HO_11 : Aside0 (Kd.V (Kd.int .u64) 80 w21 w.heap.size (fun k_ => (P1_ k_ ∨ w.heap.size ≤ k_) ∧ k_ ≠ gb297 ∧ k_ ≠ gb298) (.slice (some ad299) l1.length c1) l1) := ⟨by subst hq_; refine vV_ ?_; exact Kd.V_mono (fV_ (Kd.V_mono HO_11.out (fun k_ hk => (⟨hk, hk.2.2⟩ : _ ∧ k_ ≠ gb298)))) (fun _ hk => ⟨hk.1.1, ⟨hk.1.2.1, hk.1.2.2⟩⟩)⟩
        replace HO_299001 : Aside0 (Kd.V (Kd.int .u64) 80 w21 w.heap.size (fun k_ => (P1_ k_ ∨ w.heap.size ≤ k_) ∧ k_ ≠ gb297 ∧ k_ ≠ gb298) (.slice (some ad299) l1.length c1) l1) := ⟨by subst hq_; refine vV_ ?_; exact Kd.V_mono (fV_ (Kd.V_mono HO_299001.out (fun k_ hk => (⟨hk, hk.2.2⟩ : _ ∧ k_ ≠ gb298)))) (fun _ hk => ⟨hk.1.1, ⟨hk.1.2.1, hk.1.2.2⟩⟩)⟩
        replace BK297 : Aside0 (w21.heap[gb297]? = some (.cells #[.int .i64 0, .slice none 0 0, .int .i64 0, .int .i64 0, .int .i64 0] 58 (0, 0))) := ⟨by subst hq_; refine bk_ ?_; refine blk_far ?_ NB297_298.out _; refine bk_ ?_; exact BK297.out⟩
        replace BK298 : Aside0 (w21.heap[gb298]? = some (.cells #[.int .i64 a0, .slice (some ad299) l1.length c1, .int .i64 (wrap64 ((wrap64 (a0 + (wrap64 (64 * x13_1)))) + t300)), .int .i64 (wrap64 ((wrap64 ((wrap64 ((wrap64 (a0 + (wrap64 (64 * x13_1)))) + 64)) - 1)) - t301)), .int .i64 x299004_1] 58 (0, 0))) := ⟨by subst hq_; refine bk_ ?_; refine blk_put (cs := #[.int .i64 a0, .slice (some ad299) l1.length c1, .int .i64 (wrap64 ((wrap64 (a0 + (wrap64 (64 * x13_1)))) + t300)), .int .i64 x299003_1, .int .i64 x299004_1]) ?_ 3 _ rfl; refine bk_ ?_; exact BK298.out⟩
        replace HB : Aside0 (Below w.heap.size w w21) := ⟨by subst hq_; exact bel_⟩
        rw [← hq_]
        clear hq_
        replace HO_11 := Aside0.mk (Kd.V_drew HO_11.out)
        replace HO_299001 := Aside0.mk (Kd.V_drew HO_299001.out)
        replace BK297 := Aside0.mk (blk_drew BK297.out)
        replace BK298 := Aside0.mk (blk_drew BK298.out)
        replace HB := Aside0.mk (below_drew1 HB.out)
        refine start_ (n := 7) (S := fun w' => w'.cell? ⟨gb298, 0, none⟩ = some (.int .i64 a0) ∧ w'.cell? ⟨gb298, 1, none⟩ = some (.slice (some ad299) l1.length c1) ∧ w'.cell? ⟨gb298, 2, none⟩ = some (.int .i64 (wrap64 ((wrap64 (a0 + (wrap64 (64 * x13_1)))) + t300))) ∧ w'.cell? ⟨gb298, 3, none⟩ = some (.int .i64 (wrap64 ((wrap64 ((wrap64 ((wrap64 (a0 + (wrap64 (64 * x13_1)))) + 64)) - 1)) - t301))) ∧ w'.cell? ⟨gb298, 4, none⟩ = some (.int .i64 x299004_1)) (ds := [6]) #[false, false, false, false, false, false, false] (by kernel_rfl) rfl rfl (ca5_ BK298.out) (fun hHeld => ?_)
        generalize w21.drew = w22 at HO_11 HO_299001 BK297 BK298 HB hHeld ⊢
        refine pu_ (i := 0) (N := some 41) (by kernel_rfl) ?_
        refine pu_ (i := 2) (N := some 43) (by kernel_rfl) ?_
        refine tak_ (i := 1) (N := some 42) (by kernel_rfl) hHeld ?_
        refine one_ (i := 3) (N := some 44) #[true, true, true, true, false, false, false] rfl rfl (by kernel_rfl) (by decide) (fun K hK => ?_)
        refine goes_ Tryz.func85 (by kernel_rfl) rfl #[.int .u64 (rd l1 x13_1)] (by rfl) rfl rfl ar_ ?_
        with_reducible refine (bits_OnesCount64.calls (rd l1 x13_1) t302 _ A14.out).mono ?_
        rintro e w' ⟨rfl, ⟨nd, rfl⟩⟩
        refine ⟨_, rfl, ?_⟩
        refine hK.out _ _ (ca5_ BK298.out) (fun hHeld => ?_)
        clear hK K
        refine nor_ (N := some 44) ?_
        refine pu_ (i := 4) (N := some 45) (by kernel_rfl) ?_
        refine pu_ (i := 5) (N := some 46) (by kernel_rfl) ?_
        refine last_ (i := 6) (N := none) #[true, true, true, true, true, true, true] rfl rfl (by kernel_rfl) (by decide) (fun K hK => ?_)
        have hs23 : w22.cell? ⟨gb298, 4, none⟩ = some (.int .i64 x299004_1) := (blk_cell BK298.out 4).trans rfl
        have hfs23 := blk_frozen BK298.out 4
        have hns23_0 := NB297_298.out
        have hms23_0 := NB298_297.out
        refine skip_ (w1 := ?_) (by rfl) rfl ?_ ?_
        rotate_left
        ·
         go_simp
         rfl
        refine hK.out _ _ ?_
        clear hK K
        refine done_ (by kernel_rfl) ?_
        try go_wp2
        go_roundg k1
        case measure => have := HK1.out; omega
        case rel => exact ⟨(wrap64 (x13_1 + 1)), (wrap64 ((wrap64 (a0 + (wrap64 (64 * x13_1)))) + t300)), (wrap64 ((wrap64 ((wrap64 ((wrap64 (a0 + (wrap64 (64 * x13_1)))) + 64)) - 1)) - t301)), (wrap64 (x299004_1 + t302)), eq_, H', ⟨by have := HK1.out; omega⟩, ⟨by refine vV_ ?_; exact Kd.V_mono (fV_ (Kd.V_mono HO_11.out (fun k_ hk => (⟨hk, hk.2.2⟩ : _ ∧ k_ ≠ gb298)))) (fun _ hk => ⟨hk.1.1, ⟨hk.1.2.1, hk.1.2.2⟩⟩)⟩, ⟨by refine vV_ ?_; exact Kd.V_mono (fV_ (Kd.V_mono HO_299001.out (fun k_ hk => (⟨hk, hk.2.2⟩ : _ ∧ k_ ≠ gb298)))) (fun _ hk => ⟨hk.1.1, ⟨hk.1.2.1, hk.1.2.2⟩⟩)⟩, ⟨by refine bk_ ?_; refine blk_far ?_ NB297_298.out _; refine bk_ ?_; exact BK297.out⟩, ⟨by refine bk_ ?_; refine blk_put (cs := #[.int .i64 a0, .slice (some ad299) l1.length c1, .int .i64 (wrap64 ((wrap64 (a0 + (wrap64 (64 * x13_1)))) + t300)), .int .i64 (wrap64 ((wrap64 ((wrap64 ((wrap64 (a0 + (wrap64 (64 * x13_1)))) + 64)) - 1)) - t301)), .int .i64 x299004_1]) ?_ 4 _ rfl; refine bk_ ?_; exact BK298.out⟩, ⟨bel_⟩⟩
       ·
        rw [if_neg c11] at H
        have c11b0 : (x299004_1 == 0) = false := beq_eq_false_iff_ne.mpr c11
        have c11b1 : (x299004_1 != 0) = true := bne_iff_ne.mpr c11
        replace H := Option.bind_eq_some_iff.mp H
        obtain ⟨t303, A240, H⟩ := H
        try dsimp only at H
        have A24 := Aside0.mk A240
        clear A240
        replace H := Option.bind_eq_some_iff.mp H
        obtain ⟨t304, A250, H⟩ := H
        try dsimp only at H
        have A25 := Aside0.mk A250
        clear A250
        have H' := Aside0.mk H
        clear H
        have p299 : 0 ≤ (x13_1 : Int) := dq_
        have q299 : x13_1 < (l1.length : Int) := dq_
        obtain ⟨ad299, e299, hx299_0⟩ := Kd.at_int (Kd.V_reads' HO_11.out).2.2 x13_1 p299 q299
        cases e299
        replace p299 := eq_true p299
        replace q299 := eq_true q299
        have hnb26 := NB298_297.out
        have hnc26 := NB297_298.out
        obtain ⟨_, _, _, _, _, _, _, _, _, _⟩ := cel5_ BK298.out
        try go_wp2_with (first | ((with_reducible refine gate_callee (f := 84) rfl ?_); refine goesL_ (some 38) rfl rfl Tryz.func84 (by kernel_rfl) rfl #[.int .u64 (rd l1 x13_1)] rfl ar_ ?_; (with_reducible refine (bits_LeadingZeros64.calls (rd l1 x13_1) t303 _ A24.out).mono ?_); rintro e w28 ⟨rfl, hb⟩; refine ⟨_, rfl, ?_⟩; replace HO_11 := Aside0.mk (Kd.V_below (vV_ HO_11.out) hb); replace HO_299001 := Aside0.mk (Kd.V_below (vV_ HO_299001.out) hb); replace BK297 := Aside0.mk (blk_below (bk_ BK297.out) hb); replace BK298 := Aside0.mk (blk_below (bk_ BK298.out) hb); replace HB := Aside0.mk (below_step bel_ hb); clear hb; obtain ⟨_, _, _, _, _, _, _, _, _, _⟩ := cel5_ BK298.out))
        obtain ⟨w30, hq_⟩ : ∃ x, x = (w28.setCell ⟨gb298, 3, none⟩ (.int .i64 (wrap64 ((wrap64 ((wrap64 ((wrap64 (a0 + (wrap64 (64 * x13_1)))) + 64)) - 1)) - t303)))) := ⟨_, rfl⟩
        replace HO_11 : Aside0 (Kd.V (Kd.int .u64) 80 w30 w.heap.size (fun k_ => (P1_ k_ ∨ w.heap.size ≤ k_) ∧ k_ ≠ gb297 ∧ k_ ≠ gb298) (.slice (some ad299) l1.length c1) l1) := ⟨by subst hq_; refine vV_ ?_; exact Kd.V_mono (fV_ (Kd.V_mono HO_11.out (fun k_ hk => (⟨hk, hk.2.2⟩ : _ ∧ k_ ≠ gb298)))) (fun _ hk => ⟨hk.1.1, ⟨hk.1.2.1, hk.1.2.2⟩⟩)⟩
        replace HO_299001 : Aside0 (Kd.V (Kd.int .u64) 80 w30 w.heap.size (fun k_ => (P1_ k_ ∨ w.heap.size ≤ k_) ∧ k_ ≠ gb297 ∧ k_ ≠ gb298) (.slice (some ad299) l1.length c1) l1) := ⟨by subst hq_; refine vV_ ?_; exact Kd.V_mono (fV_ (Kd.V_mono HO_299001.out (fun k_ hk => (⟨hk, hk.2.2⟩ : _ ∧ k_ ≠ gb298)))) (fun _ hk => ⟨hk.1.1, ⟨hk.1.2.1, hk.1.2.2⟩⟩)⟩
        replace BK297 : Aside0 (w30.heap[gb297]? = some (.cells #[.int .i64 0, .slice none 0 0, .int .i64 0, .int .i64 0, .int .i64 0] 58 (0, 0))) := ⟨by subst hq_; refine bk_ ?_; refine blk_far ?_ NB297_298.out _; refine bk_ ?_; exact BK297.out⟩
        replace BK298 : Aside0 (w30.heap[gb298]? = some (.cells #[.int .i64 a0, .slice (some ad299) l1.length c1, .int .i64 x299002_1, .int .i64 (wrap64 ((wrap64 ((wrap64 ((wrap64 (a0 + (wrap64 (64 * x13_1)))) + 64)) - 1)) - t303)), .int .i64 x299004_1] 58 (0, 0))) := ⟨by subst hq_; refine bk_ ?_; refine blk_put (cs := #[.int .i64 a0, .slice (some ad299) l1.length c1, .int .i64 x299002_1, .int .i64 x299003_1, .int .i64 x299004_1]) ?_ 3 _ rfl; refine bk_ ?_; exact BK298.out⟩
        replace HB : Aside0 (Below w.heap.size w w30) := ⟨by subst hq_; exact bel_⟩
        rw [← hq_]
        clear hq_
        replace HO_11 := Aside0.mk (Kd.V_drew HO_11.out)
        replace HO_299001 := Aside0.mk (Kd.V_drew HO_299001.out)
        replace BK297 := Aside0.mk (blk_drew BK297.out)
        replace BK298 := Aside0.mk (blk_drew BK298.out)
        replace HB := Aside0.mk (below_drew1 HB.out)
        refine start_ (n := 7) (S := fun w' => w'.cell? ⟨gb298, 0, none⟩ = some (.int .i64 a0) ∧ w'.cell? ⟨gb298, 1, none⟩ = some (.slice (some ad299) l1.length c1) ∧ w'.cell? ⟨gb298, 2, none⟩ = some (.int .i64 x299002_1) ∧ w'.cell? ⟨gb298, 3, none⟩ = some (.int .i64 (wrap64 ((wrap64 ((wrap64 ((wrap64 (a0 + (wrap64 (64 * x13_1)))) + 64)) - 1)) - t303))) ∧ w'.cell? ⟨gb298, 4, none⟩ = some (.int .i64 x299004_1)) (ds := [6]) #[false, false, false, false, false, false, false] (by kernel_rfl) rfl rfl (ca5_ BK298.out) (fun hHeld => ?_)
        generalize w30.drew = w31 at HO_11 HO_299001 BK297 BK298 HB hHeld ⊢
        refine pu_ (i := 0) (N := some 41) (by kernel_rfl) ?_
        refine pu_ (i := 2) (N := some 43) (by kernel_rfl) ?_
        refine tak_ (i := 1) (N := some 42) (by kernel_rfl) hHeld ?_
        refine one_ (i := 3) (N := some 44) #[true, true, true, true, false, false, false] rfl rfl (by kernel_rfl) (by decide) (fun K hK => ?_)
        refine goes_ Tryz.func85 (by kernel_rfl) rfl #[.int .u64 (rd l1 x13_1)] (by rfl) rfl rfl ar_ ?_
        with_reducible refine (bits_OnesCount64.calls (rd l1 x13_1) t304 _ A25.out).mono ?_
        rintro e w' ⟨rfl, ⟨nd, rfl⟩⟩
        refine ⟨_, rfl, ?_⟩
        refine hK.out _ _ (ca5_ BK298.out) (fun hHeld => ?_)
        clear hK K
        refine nor_ (N := some 44) ?_
        refine pu_ (i := 4) (N := some 45) (by kernel_rfl) ?_
        refine pu_ (i := 5) (N := some 46) (by kernel_rfl) ?_
        refine last_ (i := 6) (N := none) #[true, true, true, true, true, true, true] rfl rfl (by kernel_rfl) (by decide) (fun K hK => ?_)
        have hs32 : w31.cell? ⟨gb298, 4, none⟩ = some (.int .i64 x299004_1) := (blk_cell BK298.out 4).trans rfl
        have hfs32 := blk_frozen BK298.out 4
        have hns32_0 := NB297_298.out
        have hms32_0 := NB298_297.out
        refine skip_ (w1 := ?_) (by rfl) rfl ?_ ?_
        rotate_left
        ·
         go_simp
         rfl
        refine hK.out _ _ ?_
        clear hK K
        refine done_ (by kernel_rfl) ?_
        try go_wp2
        go_roundg k1
        case measure => have := HK1.out; omega
        case rel => exact ⟨(wrap64 (x13_1 + 1)), (x299002_1), (wrap64 ((wrap64 ((wrap64 ((wrap64 (a0 + (wrap64 (64 * x13_1)))) + 64)) - 1)) - t303)), (wrap64 (x299004_1 + t304)), eq_, H', ⟨by have := HK1.out; omega⟩, ⟨by refine vV_ ?_; exact Kd.V_mono (fV_ (Kd.V_mono HO_11.out (fun k_ hk => (⟨hk, hk.2.2⟩ : _ ∧ k_ ≠ gb298)))) (fun _ hk => ⟨hk.1.1, ⟨hk.1.2.1, hk.1.2.2⟩⟩)⟩, ⟨by refine vV_ ?_; exact Kd.V_mono (fV_ (Kd.V_mono HO_299001.out (fun k_ hk => (⟨hk, hk.2.2⟩ : _ ∧ k_ ≠ gb298)))) (fun _ hk => ⟨hk.1.1, ⟨hk.1.2.1, hk.1.2.2⟩⟩)⟩, ⟨by refine bk_ ?_; refine blk_far ?_ NB297_298.out _; refine bk_ ?_; exact BK297.out⟩, ⟨by refine bk_ ?_; refine blk_put (cs := #[.int .i64 a0, .slice (some ad299) l1.length c1, .int .i64 x299002_1, .int .i64 (wrap64 ((wrap64 ((wrap64 ((wrap64 (a0 + (wrap64 (64 * x13_1)))) + 64)) - 1)) - t303)), .int .i64 x299004_1]) ?_ 4 _ rfl; refine bk_ ?_; exact BK298.out⟩, ⟨bel_⟩⟩
     ·
      rw [if_neg c9] at H
      exact absurd H (by simp)
    ·
     rw [if_neg c8] at H
     exact absurd H (by simp)
   ·
    rw [if_neg c7] at H
    have c7b0 : decide (x13_1 < (l1.length : Int)) = false := decide_eq_false c7
    clear c7
    simp only [Option.some.injEq, Prod.mk.injEq] at H
    obtain ⟨rfl, rfl, rfl, rfl, rfl⟩ := H
    have hnb33 := NB298_297.out
    have hnc33 := NB297_298.out
    obtain ⟨_, _, _, _, _, _, _, _, _, _⟩ := cel5_ BK298.out
    obtain ⟨_, _, _, _, _, _, _, _, _, _⟩ := cel5_ BK297.out
    go_wp2
    refine bodyPost_ret (results_cell_row rfl _ _ gb297 58 #[.int .i64 a0, .slice A1 l1.length c1, .int .i64 x299002_1, .int .i64 x299003_1, .int .i64 x299004_1] (0, 0) _ rfl (by refine bk_ ?_; refine blk_put (cs := #[.int .i64 a0, .slice A1 l1.length c1, .int .i64 x299002_1, .int .i64 x299003_1, .int .i64 0]) ?_ 4 _ rfl; refine bk_ ?_; refine blk_put (cs := #[.int .i64 a0, .slice A1 l1.length c1, .int .i64 x299002_1, .int .i64 0, .int .i64 0]) ?_ 3 _ rfl; refine bk_ ?_; refine blk_put (cs := #[.int .i64 a0, .slice A1 l1.length c1, .int .i64 0, .int .i64 0, .int .i64 0]) ?_ 2 _ rfl; refine bk_ ?_; refine blk_put (cs := #[.int .i64 a0, .slice none 0 0, .int .i64 0, .int .i64 0, .int .i64 0]) ?_ 1 _ rfl; refine bk_ ?_; refine blk_put (cs := #[.int .i64 0, .slice none 0 0, .int .i64 0, .int .i64 0, .int .i64 0]) ?_ 0 _ rfl; refine bk_ ?_; exact BK297.out) Tryz.underlying58 rfl (by kernel_rfl)) rfl ?_
    exact ⟨_, by first | rfl | (simp [errW_none, errW_some] <;> rfl) | (simp [*, errW_none, errW_some] <;> rfl), by refine vV_ ?_; exact Kd.V_mono (fV_ (fV_ (fV_ (fV_ (fV_ (Kd.V_mono HO_299001.out (fun k_ hk => (⟨hk, hk.2.1⟩ : _ ∧ k_ ≠ gb297)))))))) (fun _ hk => hk.1.1), bel_⟩

/-! ### slices_CloneU64: function 82 -/
def slices_CloneU64.f (l0 : List Int) : Option (List Int) := if l0.length < 17592186044416 then some l0 else none
theorem infoU64 : (Tryz.prog.info? 80).map (fun i => (i.zero, i.size, i.bytes)) = some (some (.int .u64 0), 1, 8) := by kernel_rfl
theorem slices_CloneU64.calls (A0 : Option Addr) (c0 : Nat) (l0 : List Int) (r : List Int) (w : World) (hr0 : Kd.C (Kd.int .u64) w A0 l0.length l0) (hc0 : l0.length ≤ c0) (h : slices_CloneU64.f l0 = some r) :
  Calls Tryz.prog 82 #[.slice A0 l0.length c0] w fun e w' => ∃ v_ : Value, e = .returned v_ ∧ Kd.R (Kd.int .u64) 80 w' w.heap.size (fun _ => True) v_ r ∧ Below w.heap.size w w' := by
 unfold slices_CloneU64.f at h
 by_cases hb : l0.length < 17592186044416
 ·
  rw [if_pos hb] at h
  obtain rfl := Option.some.inj h
  clear h
  rcases A0 with _ | ad
  ·
   have h0 : l0 = [] := by
    rcases Nat.eq_zero_or_pos l0.length with h0 | h0
    ·
     exact List.eq_nil_of_length_eq_zero h0
    ·
     obtain ⟨ad, e, _⟩ := hr0.2.2 h0; cases e
   subst h0
   have qT : ∀ (w : World) (a : Option Addr) (n c n' c' : Nat), (binOp .eql 56 (.slice a n c) (.slice none n' c')).run Tryz.prog w = .ok (.bool a.isNone) w := fun w a n c n' c' => Lib.run_eql_slice_nil w _ _ a n c n' c' Tryz.underlying56
   clear hr0 hb
   go_enter Tryz.func82, Tryz.ntmps82
   go_wp2
   go_ret
   exact ⟨_, rfl, Kd.R_nil _ _ _ _ _, Below.refl _ _⟩
  ·
   have hnil : ∀ (W : World), (binOp .eql 56 (.slice (some ad) l0.length c0) (.slice none 0 0)).run Tryz.prog W = .ok (.bool false) W := fun W => Lib.run_eql_slice_nil W 56 80 (some ad) l0.length c0 0 0 Tryz.underlying56
   have HR := Aside0.mk hr0
   have HL := Aside0.mk hb
   clear hr0 hb
   go_enter Tryz.func82, Tryz.ntmps82
   go_wp2_with (first | ((with_reducible refine gate_dst (N := 5) rfl ?_); refine Kd.R_lit (Kd.int .u64) _ 80 ?hg (N := 5) ?hd (xs := ([] : List Int)) (inner := []) (ok := fun _ => True) (okp := fun _ => True) ?hr ?hp (fun _ hk => hk) trivial (Below.refl _ _) (Nat.le_refl _) (by simp) ?_; (case hd => rfl); (case hg => rfl); (case hr => first | (go_simp; done) | (go_simp; rfl)); (case hp => exact Reps.none _ _); intro v1 w1 hR hB hG hat; have HO := Aside0.mk hR; have HB := Aside0.mk hB; clear hR hB hG hat) | ((with_reducible refine gate_builtin (b := .append) (xs := #[.tmp 5, .tmp 6]) rfl ?_); at_builtin; refine Kd.R_append_row (Value.int .u64) (0 : Int) (h1 := fun _ => rfl) (w0 := w) w.heap.size rfl (.tmp 5) (.tmp 6) 56 80 (.int .u64 0) 8 rfl Tryz.underlying56 infoU64 rfl (by decide) v1 [] l0 (some ad) l0.length c0 (fun _ => True) rfl rfl (fun _ _ => trivial) HO.out (Kd.C_below HR.out HB.out) HB.out HB.out.size (by have := HL.out; simp only [List.length_nil]; omega) ?_; intro v2 w2 hR hB hG hat; have HO2 := Aside0.mk hR; have HB2 := Aside0.mk hB; clear hR hB hG hat))
   go_ret
   exact ⟨_, rfl, HO2.out, HB2.out⟩
 ·
  rw [if_neg hb] at h; cases h

-- NOT PRINTED: function 58 (dom_Dom_less)

/-! ### dom_Dom_Only_1: function 59 -/
def dom_Dom_Only_1.f (a0 : Int) (a1 : Int) (a2_0 : Int) : Option (Int) := (dom_place.f a2_0).bind fun t305 => (if a0 = t305 then (if 0 ≤ (wrap64 (a2_0 - a0)) then (some (shl .u64 1 (wrap64 (a2_0 - a0)))) else (none)) else (some 0))
set_option maxHeartbeats 8000000 in
set_option maxRecDepth 100000 in
theorem dom_Dom_Only_1.calls (a0 : Int) (a1 : Int) (B2 : Nat) (a2_0 : Int) (r : Int) (w : World) (hbx2 : w.heap[B2]? = some (.cells #[.int .i64 a2_0] 3 (0, 0))) (h : dom_Dom_Only_1.f a0 a1 a2_0 = some r) :
  Calls Tryz.prog 59 #[.int .i64 a0, .int .u64 a1, .pointer (some ⟨B2, 0, none⟩)] w fun e w' => e = .returned (.int .u64 r) ∧ Drawn0 w w' := by
 have BKc2 := Aside0.mk hbx2
 clear hbx2
 unfold dom_Dom_Only_1.f at h
 have H := h
 clear h
 replace H := Option.bind_eq_some_iff.mp H
 obtain ⟨t305, A40, H⟩ := H
 try dsimp only at H
 have A4 := Aside0.mk A40
 clear A40
 by_cases c5 : a0 = t305
 ·
  rw [if_pos c5] at H
  have c5b0 : (a0 == t305) = true := beq_iff_eq.mpr c5
  have c5b1 : (a0 != t305) = false := bne_eq_false_iff_eq.mpr c5
  clear c5
  obtain ⟨ji6, hji6⟩ : ∃ j_ : Int, (wrap64 (a2_0 - a0)) = j_ := ⟨_, rfl⟩
  replace H : (if 0 ≤ (ji6) then (some (shl .u64 1 (ji6))) else (none)) = some r := by first | (rw [hji6] at H; exact H) | (simp only [hji6] at H ⊢; exact H)
  (try rw [hji6] at A4)
  have hji6w : (IntKind.i64.wrap (a2_0 - a0)) = ji6 := (i64_w _).trans hji6
  by_cases c7 : 0 ≤ (ji6)
  ·
   rw [if_pos c7] at H
   have c7b0 := eq_true c7
   have c7b1 : decide (0 ≤ (ji6)) = true := decide_eq_true c7
   clear c7
   obtain ⟨ji8, hji8⟩ : ∃ j_ : Int, (shl .u64 1 (ji6)) = j_ := ⟨_, rfl⟩
   replace H : (some ji8) = some r := by first | (rw [hji8] at H; exact H) | (simp only [hji8] at H ⊢; exact H)
   (try rw [hji8] at A4)
   have hji8_ : (IntKind.u64.wrap (1 * 2 ^ min (ji6).toNat 64)) = ji8 := hji8
   have hji8z : (ji6) ≤ 64 → (IntKind.u64.wrap (1 * 2 ^ (ji6).toNat)) = ji8 := shl_small hji8
   have hji8u : (IntKind.u64.wrap (2 ^ min (ji6).toNat 64)) = ji8 := by have h_ := hji8_; rw [Int.one_mul] at h_; exact h_
   have hji8v : (ji6) ≤ 64 → (IntKind.u64.wrap (2 ^ (ji6).toNat)) = ji8 := fun hle_ => by have h_ := hji8z hle_; rw [Int.one_mul] at h_; exact h_
   obtain rfl := Option.some.inj H
   obtain ⟨_, _⟩ := cel1_ BKc2.out
   go_enter Tryz.func59, Tryz.ntmps59
   go_wp2_with (first | ((with_reducible refine gate_callee (f := 52) rfl ?_); refine goesL_ (some 8) rfl rfl Tryz.func52 (by kernel_rfl) rfl #[.int .i64 a2_0] rfl ar_ ?_; (with_reducible refine (dom_place.calls a2_0 t305 _ A4.out).mono ?_); rintro e w' ⟨rfl, ⟨nd, rfl⟩⟩; refine ⟨_, rfl, ?_⟩))
   go_ret
   exact ⟨by first | rfl | (simp; done) | (simp only [← hji6, ← hji8] <;> (first | rfl | simp)) | (simp [*]; done), by repeat (first | exact Drawn0.refl _ | apply Drawn0.step)⟩
  ·
   rw [if_neg c7] at H
   exact absurd H (by simp)
 ·
  rw [if_neg c5] at H
  have c5b0 : (a0 == t305) = false := beq_eq_false_iff_ne.mpr c5
  have c5b1 : (a0 != t305) = true := bne_iff_ne.mpr c5
  obtain rfl := Option.some.inj H
  obtain ⟨_, _⟩ := cel1_ BKc2.out
  go_enter Tryz.func59, Tryz.ntmps59
  go_wp2_with (first | ((with_reducible refine gate_callee (f := 52) rfl ?_); refine goesL_ (some 8) rfl rfl Tryz.func52 (by kernel_rfl) rfl #[.int .i64 a2_0] rfl ar_ ?_; (with_reducible refine (dom_place.calls a2_0 t305 _ A4.out).mono ?_); rintro e w' ⟨rfl, ⟨nd, rfl⟩⟩; refine ⟨_, rfl, ?_⟩))
  go_ret
  exact ⟨by first | rfl | (simp; done) | (simp [*]; done), by repeat (first | exact Drawn0.refl _ | apply Drawn0.step)⟩


/-! ### dom_Dom_less_at_dom_Dom_Only_1: function 58 -/
def dom_Dom_less_at_dom_Dom_Only_1.l0 : Nat → List Int → Int → Int → Int → List Int → Int → Int → Int → Int → Option (Int × List Int × Int × Int × Int × Int)
 | 0, _, _, _, _, _, _, _, _, _ => none
 | k + 1, x6, x14, x15, x307000, x307001, x307002, x307003, x307004, x7003000 => if x15 < x14 then (if 0 ≤ x15 then (if x15 < (x6.length : Int) then ((dom_Dom_Only_1.f (wrap64 (x307000 + (wrap64 (64 * x15)))) (rd x6 x15) x7003000).bind fun t312 => (dom_Dom_less_at_dom_Dom_Only_1.l0 k (x6.set (x15 : Int).toNat (Go.bits .and .u64 (rd x6 x15) t312)) x14 (wrap64 (x15 + 1)) x307000 x307001 x307002 x307003 x307004 x7003000)) else (none)) else (none)) else ((dom_made.f k x307000 x6).bind fun bt314 => (if bt314.2.2.2.2 = x307004 then (some (x307000, x307001, x307002, x307003, x307004, 0)) else (if bt314.2.2.2.2 = 0 then (none) else (if bt314.2.2.2.2 = 1 then (some (bt314.1, bt314.2.1, bt314.2.2.1, bt314.2.2.2.1, bt314.2.2.2.2, 3)) else (none)))))
def dom_Dom_less_at_dom_Dom_Only_1.f (k : Nat) (a0_0 : Int) (l0_1 : List Int) (a0_2 : Int) (a0_3 : Int) (a0_4 : Int)  (a2_0 : Int) : Option (Int × List Int × Int × Int × Int × Int) := (slices_CloneU64.f l0_1).bind fun t308 => (dom_Dom_less_at_dom_Dom_Only_1.l0 k t308 (t308.length : Int) 0 a0_0 l0_1 a0_2 a0_3 a0_4 a2_0)
theorem dom_Dom_less_at_dom_Dom_Only_1.mono_l : ∀ k, (∀ y0 y1 y2 y3 y4 y5 y6 y7 y8, LeO (dom_Dom_less_at_dom_Dom_Only_1.l0 k y0 y1 y2 y3 y4 y5 y6 y7 y8) (dom_Dom_less_at_dom_Dom_Only_1.l0 (k + 1) y0 y1 y2 y3 y4 y5 y6 y7 y8))
 | 0 => fun _ _ _ _ _ _ _ _ _ r h => by simp [dom_Dom_less_at_dom_Dom_Only_1.l0] at h
 | k + 1 => by
  have ih0 := dom_Dom_less_at_dom_Dom_Only_1.mono_l k
  ·
   intro y0 y1 y2 y3 y4 y5 y6 y7 y8
   unfold dom_Dom_less_at_dom_Dom_Only_1.l0
   have m0 := @dom_made.mono
   exact leo_
theorem dom_Dom_less_at_dom_Dom_Only_1.mono : ∀ a0 a1 a2 a3 a4 a5 k, LeO (dom_Dom_less_at_dom_Dom_Only_1.f k a0 a1 a2 a3 a4 a5) (dom_Dom_less_at_dom_Dom_Only_1.f (k + 1) a0 a1 a2 a3 a4 a5) := by
 intro a0 a1 a2 a3 a4 a5 k
 have ih0 := dom_Dom_less_at_dom_Dom_Only_1.mono_l k
 unfold dom_Dom_less_at_dom_Dom_Only_1.f
 have m0 := @dom_made.mono
 exact leo_
set_option maxHeartbeats 8000000 in
set_option maxRecDepth 100000 in
theorem dom_Dom_less_at_dom_Dom_Only_1.calls (k : Nat) (a0_0 : Int) (P0_1_ : Nat → Prop) (A0_1 : Option Addr) (c0_1 : Nat) (l0_1 : List Int) (a0_2 : Int) (a0_3 : Int) (a0_4 : Int)  (B2 : Nat) (a2_0 : Int) (r1 : Int) (r2 : List Int) (r3 : Int) (r4 : Int) (r5 : Int) (r6 : Int) (w : World) (hs0_1 : Kd.V (Kd.int .u64) 80 w w.heap.size (fun k_ => P0_1_ k_) (.slice A0_1 l0_1.length c0_1) l0_1) (hbx2 : w.heap[B2]? = some (.cells #[.int .i64 a2_0] 3 (0, 0))) (hrtab : Kd.C (Kd.int .u8) w (some ⟨0, 0, none⟩) tabL.length tabL) (h : dom_Dom_less_at_dom_Dom_Only_1.f k a0_0 l0_1 a0_2 a0_3 a0_4 a2_0 = some (r1, r2, r3, r4, r5, r6)) :
  Calls Tryz.prog 58 #[.agg #[.int .i64 a0_0, .slice A0_1 l0_1.length c0_1, .int .i64 a0_2, .int .i64 a0_3, .int .i64 a0_4], .func (.func 59) #[] #[.pointer (some ⟨B2, 0, none⟩)]] w fun e w' => ∃ v1_ : Value, e = .returned (.tuple #[.agg #[.int .i64 r1, v1_, .int .i64 r3, .int .i64 r4, .int .i64 r5], .int .i64 r6]) ∧ Kd.V (Kd.int .u64) 80 w' w.heap.size (fun k_ => (P0_1_ k_ ∨ w.heap.size ≤ k_)) v1_ r2 ∧ Below w.heap.size w w' := by
 have hu58 := Tryz.underlying58
 have HO0_1 := Aside0.mk (show Kd.V (Kd.int .u64) 80 w w.heap.size (fun k_ => (P0_1_ k_ ∨ w.heap.size ≤ k_)) (.slice A0_1 l0_1.length c0_1) l0_1 from Kd.V_mono hs0_1 (fun k_ hk => .inl hk))
 have BKc2 := Aside0.mk hbx2
 clear hbx2
 have HRtab := Aside0.mk hrtab
 clear hrtab
 have HB := Aside0.mk (Below.refl w.heap.size w)
 unfold dom_Dom_less_at_dom_Dom_Only_1.f at h
 have H := h
 clear h
 replace H := Option.bind_eq_some_iff.mp H
 obtain ⟨t308, A40, H⟩ := H
 try dsimp only at H
 have A4 := Aside0.mk A40
 clear A40
 have H' := Aside0.mk H
 clear H
 go_enter Tryz.func58, Tryz.ntmps58
 go_wp2_with (first | ((with_reducible refine gate_dst (N := 2) rfl ?_); refine bxe_ (N := 2) (cs := #[.int .i64 a0_0, .slice A0_1 l0_1.length c0_1, .int .i64 a0_2, .int .i64 a0_3, .int .i64 a0_4]) (t := 58) ?_; intro gb306 hg w5 hbox hb; replace HO0_1 := Aside0.mk (Kd.V_below (Kd.V_elderB (vV_ HO0_1.out) gb306 (Nat.le_of_eq hg.symm)) hb); have BK306 := Aside0.mk (hbox); have GW306 := Aside0.mk (by rw [hg]; exact (below_size bel_) : w.heap.size ≤ gb306); have GE306 := GW306; replace HB := Aside0.mk (below_step bel_ hb); have NB7002_306 := Aside0.mk ((by rw [hg]; exact Nat.ne_of_lt (blk_lt (bk_ BKc2.out)) : B2 ≠ gb306)); have NB306_7002 := Aside0.mk ((by rw [hg]; exact Nat.ne_of_gt (blk_lt (bk_ BKc2.out)) : gb306 ≠ B2)); replace BKc2 := Aside0.mk (blk_below (bk_ BKc2.out) hb); clear hb hbox hg) | ((with_reducible refine gate_dst (N := 4) rfl ?_); refine bxe_ (N := 4) (cs := #[.int .i64 0, .slice none 0 0, .int .i64 0, .int .i64 0, .int .i64 0]) (t := 58) ?_; intro gb307 hg w6 hbox hb; replace HO0_1 := Aside0.mk (Kd.V_below (Kd.V_elderB (vV_ HO0_1.out) gb307 (Nat.le_of_eq hg.symm)) hb); have BK307 := Aside0.mk (hbox); have GW307 := Aside0.mk (by rw [hg]; exact (below_size bel_) : w.heap.size ≤ gb307); have GE307 := GW307; replace HB := Aside0.mk (below_step bel_ hb); have NB7002_307 := Aside0.mk ((by rw [hg]; exact Nat.ne_of_lt (blk_lt (bk_ BKc2.out)) : B2 ≠ gb307)); have NB307_7002 := Aside0.mk ((by rw [hg]; exact Nat.ne_of_gt (blk_lt (bk_ BKc2.out)) : gb307 ≠ B2)); replace BKc2 := Aside0.mk (blk_below (bk_ BKc2.out) hb); have NB306_307 := Aside0.mk ((by rw [hg]; exact Nat.ne_of_lt (blk_lt (bk_ BK306.out)) : gb306 ≠ gb307)); have NB307_306 := Aside0.mk ((by rw [hg]; exact Nat.ne_of_gt (blk_lt (bk_ BK306.out)) : gb307 ≠ gb306)); replace BK306 := Aside0.mk (blk_below (bk_ BK306.out) hb); clear hb hbox hg; have hnb7 := NB306_7002.out; have hnc7 := NB7002_306.out; have hnb8 := NB306_307.out; have hnc8 := NB307_306.out; obtain ⟨_, _, _, _, _, _, _, _, _, _⟩ := cel5_ BK306.out) | ((with_reducible refine gate_callee (f := 82) rfl ?_); refine goesL_ (some 12) rfl rfl Tryz.func82 (by kernel_rfl) rfl #[.slice A0_1 l0_1.length c0_1] rfl ar_ ?_; (with_reducible refine (slices_CloneU64.calls _ _ l0_1 t308 _ ?_ ?_ A4.out).mono ?_); exact ca_ ((Kd.V_reads' HO0_1.out).2.2); exact (Kd.V_reads' HO0_1.out).2.1; rintro e w10 ⟨v309, rfl, ho0, hb⟩; refine ⟨_, rfl, ?_⟩; replace HO0_1 := Aside0.mk (Kd.V_elder' (vV_ HO0_1.out) (Kd.R_base ho0) hb); have HO310 := Aside0.mk (Kd.R_lower (Kd.R_newM (M := fun k_ => (w.heap.size ≤ k_)) ho0 (below_size bel_) (fun k_ h_ => h_)) (below_size bel_)); replace BKc2 := Aside0.mk (blk_below (bk_ BKc2.out) hb); replace BK306 := Aside0.mk (blk_below (bk_ BK306.out) hb); replace BK307 := Aside0.mk (blk_below (bk_ BK307.out) hb); replace HB := Aside0.mk (below_step bel_ hb); clear hb ho0; obtain ⟨Ao11, co11, eo11⟩ := Kd.R_slice HO310.out; subst eo11))
 go_loopg [15] k (fun kq v15 w' => ∃ (x6_1 : List Int) (x15_1 : Int), v15 = .int .i64 x15_1 ∧ Aside0 (dom_Dom_less_at_dom_Dom_Only_1.l0 kq x6_1 (t308.length : Int) x15_1 a0_0 l0_1 a0_2 a0_3 a0_4 a2_0 = some (r1, r2, r3, r4, r5, r6)) ∧ Aside0 (kq ≤ k) ∧ Aside0 (Kd.R (Kd.int .u64) 80 w' w.heap.size (fun k_ => (w.heap.size ≤ k_)) (.slice Ao11 t308.length co11) x6_1) ∧ Aside0 (Kd.V (Kd.int .u64) 80 w' w.heap.size (fun k_ => (P0_1_ k_ ∨ w.heap.size ≤ k_) ∧ some k_ ≠ ((.slice Ao11 t308.length co11) : Value).ownBlock ∧ k_ ≠ gb306 ∧ k_ ≠ gb307) (.slice A0_1 l0_1.length c0_1) l0_1) ∧ Aside0 (w'.heap[B2]? = some (.cells #[.int .i64 a2_0] 3 (0, 0))) ∧ Aside0 (w'.heap[gb306]? = some (.cells #[.int .i64 a0_0, (.slice A0_1 l0_1.length c0_1), .int .i64 a0_2, .int .i64 a0_3, .int .i64 a0_4] 58 (0, 0))) ∧ Aside0 (w'.heap[gb307]? = some (.cells #[.int .i64 0, (.slice none 0 0), .int .i64 0, .int .i64 0, .int .i64 0] 58 (0, 0))) ∧ Aside0 (Below w.heap.size w w'))
 case atStart => exact ⟨(t308), (0), eq_, H', ⟨Nat.le_refl _⟩, ⟨by refine vR_ ?_; exact Kd.R_mono HO310.out (fun _ hk => hk.1)⟩, ⟨by refine vV_ ?_; exact Kd.V_mono HO0_1.out (fun _ hk => ⟨hk.1.1.1, ⟨hk.2, ⟨hk.1.1.2, hk.1.2⟩⟩⟩)⟩, ⟨by refine bk_ ?_; exact BKc2.out⟩, ⟨by refine bk_ ?_; exact BK306.out⟩, ⟨by refine bk_ ?_; exact BK307.out⟩, ⟨bel_⟩⟩
 case round =>
  clear H'
  try clear c2
  try clear p2
  try clear c7
  try clear c8
  try clear c9
  obtain ⟨x6_1, x15_1, rfl, HA, HK1, HO_6, HO_307001, BKc2, BK306, BK307, HB⟩ := hrel
  have hl6_1 := (Kd.R_reads' HO_6.out).1
  rw [hl6_1] at HO_6
  (try simp only [hl6_1])
  (try simp only [hl6_1] at BKc2)
  (try simp only [hl6_1] at BK306)
  (try simp only [hl6_1] at BK307)
  (try simp only [hl6_1] at HO_307001)
  cases gk with
  | zero => exact absurd HA.out (by simp [dom_Dom_less_at_dom_Dom_Only_1.l0])
  | succ k1 =>
   have H := HA.out
   clear HA
   simp only [dom_Dom_less_at_dom_Dom_Only_1.l0] at H
   by_cases c12 : x15_1 < (t308.length : Int)
   ·
    rw [if_pos c12] at H
    have c12b0 : decide (x15_1 < (t308.length : Int)) = true := decide_eq_true c12
    clear c12
    by_cases c13 : 0 ≤ x15_1
    ·
     rw [if_pos c13] at H
     have c13b0 : decide (0 ≤ x15_1) = true := decide_eq_true c13
     clear c13
     by_cases c14 : x15_1 < (x6_1.length : Int)
     ·
      rw [if_pos c14] at H
      have c14b0 : decide (x15_1 < (x6_1.length : Int)) = true := decide_eq_true c14
      clear c14
      replace H := Option.bind_eq_some_iff.mp H
      obtain ⟨t312, A150, H⟩ := H
      try dsimp only at H
      have A15 := Aside0.mk A150
      clear A150
      obtain ⟨y313, hy313⟩ : ∃ y_ : List Int, y_ = (x6_1.set (x15_1 : Int).toNat (Go.bits .and .u64 (rd x6_1 x15_1) t312)) := ⟨_, rfl⟩
      replace H : (dom_Dom_less_at_dom_Dom_Only_1.l0 k1 y313 (t308.length : Int) (wrap64 (x15_1 + 1)) a0_0 l0_1 a0_2 a0_3 a0_4 a2_0) = some (r1, r2, r3, r4, r5, r6) := by first | (rw [hy313]; with_reducible exact H) | (have H2_ := (Option.bind_some _ _).symm.trans H; rw [hy313]; with_reducible exact H2_) | (have H2_ := (Option.bind_some _ _).symm.trans H; with_reducible exact H2_) | with_reducible exact H | (rw [hy313]; exact H) | exact H
      have Ny313 := Aside0.mk hy313
      clear hy313
      have H' := Aside0.mk H
      clear H
      have p311 : 0 ≤ (x15_1 : Int) := dq_
      have q311 : x15_1 < (x6_1.length : Int) := dq_
      obtain ⟨ad311, e311, hx311_0⟩ := Kd.at_int (Kd.R_reads' HO_6.out).2.2 x15_1 p311 q311
      cases e311
      replace p311 := eq_true p311
      replace q311 := eq_true q311
      have hnb17 := NB306_7002.out
      have hnc17 := NB7002_306.out
      have hnb18 := NB306_307.out
      have hnc18 := NB307_306.out
      obtain ⟨_, _, _, _, _, _, _, _, _, _⟩ := cel5_ BK306.out
      go_wp2_with (first | (go_at_call 59; (with_reducible refine (dom_Dom_Only_1.calls (wrap64 (a0_0 + (wrap64 (64 * x15_1)))) (rd x6_1 x15_1) B2 a2_0 t312 _ ?side1 A15.out).mono ?_); (case side1 => exact by refine bk_ ?_; exact BKc2.out); rintro e w' ⟨rfl, ⟨nd, rfl⟩⟩; (try (rw [drewN_self wr]; generalize hq_ : World.drewN wr _ = wr; replace HO_307001 : Aside0 (Kd.V (Kd.int .u64) 80 wr w.heap.size (fun k_ => (P0_1_ k_ ∨ w.heap.size ≤ k_) ∧ some k_ ≠ (.slice (some ad311) x6_1.length co11 : Value).ownBlock ∧ k_ ≠ gb306 ∧ k_ ≠ gb307) (.slice A0_1 l0_1.length c0_1) l0_1) := ⟨by rw [← hq_]; exact (vV_ HO_307001.out)⟩; replace HO_6 : Aside0 (Kd.R (Kd.int .u64) 80 wr w.heap.size (fun k_ => (w.heap.size ≤ k_)) (.slice (some ad311) x6_1.length co11) x6_1) := ⟨by rw [← hq_]; exact (vR_ HO_6.out)⟩; replace BK306 : Aside0 (wr.heap[gb306]? = some (.cells #[.int .i64 a0_0, .slice A0_1 l0_1.length c0_1, .int .i64 a0_2, .int .i64 a0_3, .int .i64 a0_4] 58 (0, 0))) := ⟨by rw [← hq_]; exact (bk_ BK306.out)⟩; replace BK307 : Aside0 (wr.heap[gb307]? = some (.cells #[.int .i64 0, .slice none 0 0, .int .i64 0, .int .i64 0, .int .i64 0] 58 (0, 0))) := ⟨by rw [← hq_]; exact (bk_ BK307.out)⟩; replace BKc2 : Aside0 (wr.heap[B2]? = some (.cells #[.int .i64 a2_0] 3 (0, 0))) := ⟨by rw [← hq_]; exact (bk_ BKc2.out)⟩; replace HB : Aside0 (Below w.heap.size w wr) := ⟨by rw [← hq_]; exact bel_⟩; clear hq_)); (try (obtain ⟨_, _⟩ := cel1_ BKc2.out)); (try (obtain ⟨_, _, _, _, _, _, _, _, _, _⟩ := cel5_ BK306.out)); (try (obtain ⟨_, _, _, _, _, _, _, _, _, _⟩ := cel5_ BK307.out)); have p16 : 0 ≤ (x15_1 : Int) := dq_; have q16 : (x15_1 : Int) < ((x6_1.length : Int) : Int) := dq_; obtain ⟨go16, co16, eo16, gb16, gl16, cl16, HG16⟩ := Kd.R_form HO_6.out (by omega); (first | cases eo16 | (injection eo16 with ea_ en_ ec_; (first | subst ea_ | (injection ea_ with ea_; subst ea_)); subst ec_; clear en_)); have GB16 := Aside0.mk gb16; have GG16 := Aside0.mk HG16; clear gb16 gl16 HG16; (first | simp only [add_plain] at hx311_0 | skip); obtain ⟨hx16_0, hf16_0⟩ := Kd.R_celln 0 HO_6.out (x15_1 : Int) p16 q16; replace p16 := eq_true p16; replace q16 := eq_true q16; obtain ⟨hy23_, hz23_⟩ := Kd.R_celln 0 HO_6.out (x15_1 : Int) (dq_) (dq_); have HP23 := Kd.R_putg HO_6.out (x15_1 : Int) (Go.bits .and .u64 (rd x6_1 x15_1) t312)) | ((with_reducible refine gate_store (t := 80) (p := 32) rfl ?_); refine store_event (t := 80) (p := 32) (v := ?vo_w24) (w1 := (wr.setCell ⟨go16, (x15_1 : Int).toNat, none⟩ (.int .u64 (Go.bits .and .u64 (rd x6_1 x15_1) t312)))) ?hg ?ho ?hn ?hr ?_; (case ho => rfl); (case hg => rfl); (case hn => rfl); (case hr => first | (go_simp; done) | (go_simp; rfl)); intro w24 hw; have hg : wr.grownBy w24 (some go16) := (by rw [hw]; exact HP23.2); have hp_ : Kd.R (Kd.int .u64) 80 w24 w.heap.size (fun k_ => (w.heap.size ≤ k_)) (.slice (some ⟨go16, 0, none⟩) x6_1.length co11) y313 := (by rw [hw, Ny313.out]; exact HP23.1); clear HP23; replace HO_307001 := Aside0.mk (Kd.V_afterv (v := (.slice (some ⟨go16, 0, none⟩) x6_1.length co11)) (v1 := (.slice (some ⟨go16, 0, none⟩) x6_1.length co11)) (ok := (fun k_ => (P0_1_ k_ ∨ w.heap.size ≤ k_) ∧ k_ ≠ gb306 ∧ k_ ≠ gb307)) (by refine vV_ ?_; exact Kd.V_mono HO_307001.out (fun _ hk => ⟨⟨hk.1, ⟨hk.2.2.1, hk.2.2.2⟩⟩, hk.2.1⟩)) hg (.inl rfl)); replace BKc2 := Aside0.mk (blk_grown (bk_ BKc2.out) hg (Kd.R_ne HO_6.out BKc2.out (by decide))); replace BK306 := Aside0.mk (blk_grown (bk_ BK306.out) hg (Kd.R_ne HO_6.out BK306.out (by decide))); replace BK307 := Aside0.mk (blk_grown (bk_ BK307.out) hg (Kd.R_ne HO_6.out BK307.out (by decide))); replace HO_6 := Aside0.mk (hp_); replace HB := Aside0.mk ((by rw [hw]; exact below_set (HB.out) GB16.out : Below w.heap.size w w24)); clear hg hw hp_))
      (try simp only [← hl6_1])
      go_roundg k1
      case measure => have := HK1.out; omega
      case rel => exact ⟨(y313), (wrap64 (x15_1 + 1)), eq_, H', ⟨by have := HK1.out; omega⟩, ⟨by (try simp only [hl6_1]); refine vR_ ?_; exact HO_6.out⟩, ⟨by (try simp only [hl6_1]); refine vV_ ?_; exact Kd.V_mono HO_307001.out (fun _ hk => ⟨hk.1.1, ⟨hk.2, ⟨hk.1.2.1, hk.1.2.2⟩⟩⟩)⟩, ⟨by (try simp only [hl6_1]); refine bk_ ?_; exact BKc2.out⟩, ⟨by (try simp only [hl6_1]); refine bk_ ?_; exact BK306.out⟩, ⟨by (try simp only [hl6_1]); refine bk_ ?_; exact BK307.out⟩, ⟨bel_⟩⟩
     ·
      rw [if_neg c14] at H
      exact absurd H (by simp)
    ·
     rw [if_neg c13] at H
     exact absurd H (by simp)
   ·
    rw [if_neg c12] at H
    have c12b0 : decide (x15_1 < (t308.length : Int)) = false := decide_eq_false c12
    (try (have c12b0q := c12b0; simp only [hl6_1] at c12b0q))
    clear c12
    replace H := Option.bind_eq_some_iff.mp H
    obtain ⟨⟨t314, t315, t318, t319, t320⟩, A250, H⟩ := H
    try dsimp only at H
    have A25 := Aside0.mk A250
    clear A250
    by_cases c26 : t320 = a0_4
    ·
     rw [if_pos c26] at H
     have c26b0 : (t320 == a0_4) = true := beq_iff_eq.mpr c26
     have c26b1 : (t320 != a0_4) = false := bne_eq_false_iff_eq.mpr c26
     clear c26
     simp only [Option.some.injEq, Prod.mk.injEq] at H
     obtain ⟨rfl, rfl, rfl, rfl, rfl, rfl⟩ := H
     have hnb27 := NB306_7002.out
     have hnc27 := NB7002_306.out
     have hnb28 := NB306_307.out
     have hnc28 := NB307_306.out
     obtain ⟨_, _, _, _, _, _, _, _, _, _⟩ := cel5_ BK306.out
     go_wp2_with (first | ((with_reducible refine gate_callee (f := 65) rfl ?_); refine goesL_ (some 37) rfl rfl Tryz.func65 (by kernel_rfl) rfl #[.int .i64 a0_0, .slice Ao11 x6_1.length co11] rfl ar_ ?_; (with_reducible refine (dom_made.calls k1 a0_0 (fun k_ => some k_ = (.slice Ao11 x6_1.length co11 : Value).ownBlock) _ _ x6_1 t314 t315 t318 t319 t320 _ ?_ ?_ A25.out).mono ?_); exact Kd.R_V (Kd.R_tight rfl (Kd.R_types (Kd.R_types (Kd.R_types (HO_6.out) BKc2.out (by decide)) BK306.out (by decide)) BK307.out (by decide))); exact ca_ ((Kd.C_below HRtab.out HB.out)); rintro e w30 ⟨v316, rfl, ho0, hb⟩; refine ⟨_, rfl, ?_⟩; replace HO_307001 := Aside0.mk (Kd.V_below (vV_ HO_307001.out) hb); have HO317 := Aside0.mk (Kd.V_lower (Kd.V_mono (ok' := fun k_ => (P0_1_ k_ ∨ w.heap.size ≤ k_) ∧ k_ ≠ gb306 ∧ k_ ≠ gb307) ho0 (fun k_ hk_ => ⟨Or.elim hk_ (fun hs_ => (.inr (((Kd.R_types (Kd.R_types (Kd.R_types (HO_6.out) BKc2.out (by decide)) BK306.out (by decide)) BK307.out (by decide)).1 k_ hs_.symm).1.1.1))) (fun hn_ => (.inr (Nat.le_trans (below_size bel_) hn_))), Or.elim hk_ (fun hs_ => ((Kd.R_types (Kd.R_types (Kd.R_types (HO_6.out) BKc2.out (by decide)) BK306.out (by decide)) BK307.out (by decide)).1 k_ hs_.symm).1.2) (fun hn_ => (Kd.freshB (bk_ BK306.out) k_ hn_)), Or.elim hk_ (fun hs_ => ((Kd.R_types (Kd.R_types (Kd.R_types (HO_6.out) BKc2.out (by decide)) BK306.out (by decide)) BK307.out (by decide)).1 k_ hs_.symm).2) (fun hn_ => (Kd.freshB (bk_ BK307.out) k_ hn_))⟩)) (below_size bel_)); replace HO_6 := Aside0.mk (Kd.R_below (vR_ HO_6.out) hb); replace BKc2 := Aside0.mk (blk_below (bk_ BKc2.out) hb); replace BK306 := Aside0.mk (blk_below (bk_ BK306.out) hb); replace BK307 := Aside0.mk (blk_below (bk_ BK307.out) hb); replace HB := Aside0.mk (below_step bel_ hb); clear hb ho0) | ((with_reducible refine gate_dst (N := 9) rfl ?_); refine bxe_ (N := 9) (cs := #[.int .i64 0, .slice none 0 0, .int .i64 0, .int .i64 0, .int .i64 0]) (t := 58) ?_; intro gb321 hg w31 hbox hb; replace HO_6 := Aside0.mk (Kd.R_below (vR_ HO_6.out) hb); replace HO_307001 := Aside0.mk (Kd.V_below (Kd.V_elderB (vV_ HO_307001.out) gb321 (Nat.le_of_eq hg.symm)) hb); replace HO317 := Aside0.mk (Kd.V_below (Kd.V_elderB (vV_ HO317.out) gb321 (Nat.le_of_eq hg.symm)) hb); have BK321 := Aside0.mk (hbox); have GW321 := Aside0.mk (by rw [hg]; exact (below_size bel_) : w.heap.size ≤ gb321); have GE321 := GW321; replace HB := Aside0.mk (below_step bel_ hb); have NB7002_321 := Aside0.mk ((by rw [hg]; exact Nat.ne_of_lt (blk_lt (bk_ BKc2.out)) : B2 ≠ gb321)); have NB321_7002 := Aside0.mk ((by rw [hg]; exact Nat.ne_of_gt (blk_lt (bk_ BKc2.out)) : gb321 ≠ B2)); replace BKc2 := Aside0.mk (blk_below (bk_ BKc2.out) hb); have NB306_321 := Aside0.mk ((by rw [hg]; exact Nat.ne_of_lt (blk_lt (bk_ BK306.out)) : gb306 ≠ gb321)); have NB321_306 := Aside0.mk ((by rw [hg]; exact Nat.ne_of_gt (blk_lt (bk_ BK306.out)) : gb321 ≠ gb306)); replace BK306 := Aside0.mk (blk_below (bk_ BK306.out) hb); have NB307_321 := Aside0.mk ((by rw [hg]; exact Nat.ne_of_lt (blk_lt (bk_ BK307.out)) : gb307 ≠ gb321)); have NB321_307 := Aside0.mk ((by rw [hg]; exact Nat.ne_of_gt (blk_lt (bk_ BK307.out)) : gb321 ≠ gb307)); replace BK307 := Aside0.mk (blk_below (bk_ BK307.out) hb); clear hb hbox hg; have hnb32 := NB321_7002.out; have hnc32 := NB7002_321.out; have hnb33 := NB321_306.out; have hnc33 := NB306_321.out; have hnb34 := NB321_307.out; have hnc34 := NB307_321.out; obtain ⟨_, _, _, _, _, _, _, _, _, _⟩ := cel5_ BK321.out; obtain ⟨Ao36, co36, eo36⟩ := Kd.V_slice HO317.out; subst eo36; obtain ⟨_, _, _, _, _, _, _, _, _, _⟩ := cel5_ BK306.out; have hnb38 := NB307_7002.out; have hnc38 := NB7002_307.out; obtain ⟨_, _, _, _, _, _, _, _, _, _⟩ := cel5_ BK307.out))
     refine bodyPost_ret (results_ct rfl _ _ gb307 58 #[.int .i64 a0_0, .slice A0_1 l0_1.length c0_1, .int .i64 a0_2, .int .i64 a0_3, .int .i64 a0_4] (0, 0) _ rfl (by refine bk_ ?_; refine blk_put (cs := #[.int .i64 a0_0, .slice A0_1 l0_1.length c0_1, .int .i64 a0_2, .int .i64 a0_3, .int .i64 0]) ?_ 4 _ rfl; refine bk_ ?_; refine blk_put (cs := #[.int .i64 a0_0, .slice A0_1 l0_1.length c0_1, .int .i64 a0_2, .int .i64 0, .int .i64 0]) ?_ 3 _ rfl; refine bk_ ?_; refine blk_put (cs := #[.int .i64 a0_0, .slice A0_1 l0_1.length c0_1, .int .i64 0, .int .i64 0, .int .i64 0]) ?_ 2 _ rfl; refine bk_ ?_; refine blk_put (cs := #[.int .i64 a0_0, .slice none 0 0, .int .i64 0, .int .i64 0, .int .i64 0]) ?_ 1 _ rfl; refine bk_ ?_; refine blk_put (cs := #[.int .i64 0, .slice none 0 0, .int .i64 0, .int .i64 0, .int .i64 0]) ?_ 0 _ rfl; refine bk_ ?_; refine blk_far ?_ NB307_321.out _; refine bk_ ?_; refine blk_far ?_ NB307_321.out _; refine bk_ ?_; refine blk_far ?_ NB307_321.out _; refine bk_ ?_; refine blk_far ?_ NB307_321.out _; refine bk_ ?_; refine blk_far ?_ NB307_321.out _; refine bk_ ?_; exact BK307.out) Tryz.underlying58 rfl (by kernel_rfl)) rfl ?_
     exact ⟨_, by first | rfl | (simp [errW_none, errW_some] <;> rfl) | (simp [*, errW_none, errW_some] <;> rfl), by refine vV_ ?_; exact Kd.V_mono (fV_ (fV_ (fV_ (fV_ (fV_ (Kd.V_far (Kd.V_far (Kd.V_far (Kd.V_far (Kd.V_far (Kd.V_mono (Kd.V_mono HO_307001.out (fun k_ hk => (⟨hk, hk.2⟩ : _ ∧ k_ ≠ gb321))) (fun k_ hk => (⟨hk, hk.1.1.2.2.2⟩ : _ ∧ k_ ≠ gb307))) (fun _ hk => hk.1.2) (.int .i64 t314)) (fun _ hk => hk.1.2) (.slice Ao36 t315.length co36)) (fun _ hk => hk.1.2) (.int .i64 t318)) (fun _ hk => hk.1.2) (.int .i64 t319)) (fun _ hk => hk.1.2) (.int .i64 t320))))))) (fun _ hk => hk.1.1.1.1), bel_⟩
    ·
     rw [if_neg c26] at H
     have c26b0 : (t320 == a0_4) = false := beq_eq_false_iff_ne.mpr c26
     have c26b1 : (t320 != a0_4) = true := bne_iff_ne.mpr c26
     by_cases c40 : t320 = 0
     ·
      rw [if_pos c40] at H
      exact absurd H (by simp)
     ·
      rw [if_neg c40] at H
      have c40b0 : (t320 == 0) = false := beq_eq_false_iff_ne.mpr c40
      have c40b1 : (t320 != 0) = true := bne_iff_ne.mpr c40
      by_cases c41 : t320 = 1
      ·
       rw [if_pos c41] at H
       have c41b0 : (t320 == 1) = true := beq_iff_eq.mpr c41
       have c41b1 : (t320 != 1) = false := bne_eq_false_iff_eq.mpr c41
       clear c41
       simp only [Option.some.injEq, Prod.mk.injEq] at H
       obtain ⟨rfl, rfl, rfl, rfl, rfl, rfl⟩ := H
       have hnb42 := NB306_7002.out
       have hnc42 := NB7002_306.out
       have hnb43 := NB306_307.out
       have hnc43 := NB307_306.out
       obtain ⟨_, _, _, _, _, _, _, _, _, _⟩ := cel5_ BK306.out
       go_wp2_with (first | ((with_reducible refine gate_callee (f := 65) rfl ?_); refine goesL_ (some 37) rfl rfl Tryz.func65 (by kernel_rfl) rfl #[.int .i64 a0_0, .slice Ao11 x6_1.length co11] rfl ar_ ?_; (with_reducible refine (dom_made.calls k1 a0_0 (fun k_ => some k_ = (.slice Ao11 x6_1.length co11 : Value).ownBlock) _ _ x6_1 t314 t315 t318 t319 t320 _ ?_ ?_ A25.out).mono ?_); exact Kd.R_V (Kd.R_tight rfl (Kd.R_types (Kd.R_types (Kd.R_types (HO_6.out) BKc2.out (by decide)) BK306.out (by decide)) BK307.out (by decide))); exact ca_ ((Kd.C_below HRtab.out HB.out)); rintro e w45 ⟨v316, rfl, ho0, hb⟩; refine ⟨_, rfl, ?_⟩; have HO317 := Aside0.mk (Kd.V_lower (Kd.V_mono (ok' := fun k_ => (P0_1_ k_ ∨ w.heap.size ≤ k_) ∧ k_ ≠ gb306 ∧ k_ ≠ gb307) ho0 (fun k_ hk_ => ⟨Or.elim hk_ (fun hs_ => (.inr (((Kd.R_types (Kd.R_types (Kd.R_types (HO_6.out) BKc2.out (by decide)) BK306.out (by decide)) BK307.out (by decide)).1 k_ hs_.symm).1.1.1))) (fun hn_ => (.inr (Nat.le_trans (below_size bel_) hn_))), Or.elim hk_ (fun hs_ => ((Kd.R_types (Kd.R_types (Kd.R_types (HO_6.out) BKc2.out (by decide)) BK306.out (by decide)) BK307.out (by decide)).1 k_ hs_.symm).1.2) (fun hn_ => (Kd.freshB (bk_ BK306.out) k_ hn_)), Or.elim hk_ (fun hs_ => ((Kd.R_types (Kd.R_types (Kd.R_types (HO_6.out) BKc2.out (by decide)) BK306.out (by decide)) BK307.out (by decide)).1 k_ hs_.symm).2) (fun hn_ => (Kd.freshB (bk_ BK307.out) k_ hn_))⟩)) (below_size bel_)); replace BKc2 := Aside0.mk (blk_below (bk_ BKc2.out) hb); replace BK306 := Aside0.mk (blk_below (bk_ BK306.out) hb); replace BK307 := Aside0.mk (blk_below (bk_ BK307.out) hb); replace HB := Aside0.mk (below_step bel_ hb); clear hb ho0) | ((with_reducible refine gate_dst (N := 9) rfl ?_); refine bxe_ (N := 9) (cs := #[.int .i64 0, .slice none 0 0, .int .i64 0, .int .i64 0, .int .i64 0]) (t := 58) ?_; intro gb321 hg w46 hbox hb; replace HO317 := Aside0.mk (Kd.V_below (Kd.V_elderB (vV_ HO317.out) gb321 (Nat.le_of_eq hg.symm)) hb); have BK321 := Aside0.mk (hbox); have GW321 := Aside0.mk (by rw [hg]; exact (below_size bel_) : w.heap.size ≤ gb321); have GE321 := GW321; replace HB := Aside0.mk (below_step bel_ hb); have NB7002_321 := Aside0.mk ((by rw [hg]; exact Nat.ne_of_lt (blk_lt (bk_ BKc2.out)) : B2 ≠ gb321)); have NB321_7002 := Aside0.mk ((by rw [hg]; exact Nat.ne_of_gt (blk_lt (bk_ BKc2.out)) : gb321 ≠ B2)); have NB306_321 := Aside0.mk ((by rw [hg]; exact Nat.ne_of_lt (blk_lt (bk_ BK306.out)) : gb306 ≠ gb321)); have NB321_306 := Aside0.mk ((by rw [hg]; exact Nat.ne_of_gt (blk_lt (bk_ BK306.out)) : gb321 ≠ gb306)); replace BK306 := Aside0.mk (blk_below (bk_ BK306.out) hb); have NB307_321 := Aside0.mk ((by rw [hg]; exact Nat.ne_of_lt (blk_lt (bk_ BK307.out)) : gb307 ≠ gb321)); have NB321_307 := Aside0.mk ((by rw [hg]; exact Nat.ne_of_gt (blk_lt (bk_ BK307.out)) : gb321 ≠ gb307)); replace BK307 := Aside0.mk (blk_below (bk_ BK307.out) hb); clear hb hbox hg; have hnb47 := NB321_7002.out; have hnc47 := NB7002_321.out; have hnb48 := NB321_306.out; have hnc48 := NB306_321.out; have hnb49 := NB321_307.out; have hnc49 := NB307_321.out; obtain ⟨_, _, _, _, _, _, _, _, _, _⟩ := cel5_ BK321.out; obtain ⟨Ao51, co51, eo51⟩ := Kd.V_slice HO317.out; subst eo51; obtain ⟨_, _, _, _, _, _, _, _, _, _⟩ := cel5_ BK306.out; have hnb53 := NB307_7002.out; have hnc53 := NB7002_307.out; obtain ⟨_, _, _, _, _, _, _, _, _, _⟩ := cel5_ BK307.out))
       refine bodyPost_ret (results_ct rfl _ _ gb307 58 #[.int .i64 t314, .slice Ao51 t315.length co51, .int .i64 t318, .int .i64 t319, .int .i64 t320] (0, 0) _ rfl (by refine bk_ ?_; refine blk_put (cs := #[.int .i64 t314, .slice Ao51 t315.length co51, .int .i64 t318, .int .i64 t319, .int .i64 0]) ?_ 4 _ rfl; refine bk_ ?_; refine blk_put (cs := #[.int .i64 t314, .slice Ao51 t315.length co51, .int .i64 t318, .int .i64 0, .int .i64 0]) ?_ 3 _ rfl; refine bk_ ?_; refine blk_put (cs := #[.int .i64 t314, .slice Ao51 t315.length co51, .int .i64 0, .int .i64 0, .int .i64 0]) ?_ 2 _ rfl; refine bk_ ?_; refine blk_put (cs := #[.int .i64 t314, .slice none 0 0, .int .i64 0, .int .i64 0, .int .i64 0]) ?_ 1 _ rfl; refine bk_ ?_; refine blk_put (cs := #[.int .i64 0, .slice none 0 0, .int .i64 0, .int .i64 0, .int .i64 0]) ?_ 0 _ rfl; refine bk_ ?_; refine blk_far ?_ NB307_321.out _; refine bk_ ?_; refine blk_far ?_ NB307_321.out _; refine bk_ ?_; refine blk_far ?_ NB307_321.out _; refine bk_ ?_; refine blk_far ?_ NB307_321.out _; refine bk_ ?_; refine blk_far ?_ NB307_321.out _; refine bk_ ?_; exact BK307.out) Tryz.underlying58 rfl (by kernel_rfl)) rfl ?_
       exact ⟨_, by first | rfl | (simp [errW_none, errW_some] <;> rfl) | (simp [*, errW_none, errW_some] <;> rfl), by refine vV_ ?_; exact Kd.V_mono (fV_ (fV_ (fV_ (fV_ (fV_ (Kd.V_far (Kd.V_far (Kd.V_far (Kd.V_far (Kd.V_far (Kd.V_mono (Kd.V_mono HO317.out (fun k_ hk => (⟨hk, hk.2⟩ : _ ∧ k_ ≠ gb321))) (fun k_ hk => (⟨hk, hk.1.1.2.2⟩ : _ ∧ k_ ≠ gb307))) (fun _ hk => hk.1.2) (.int .i64 t314)) (fun _ hk => hk.1.2) (.slice Ao51 t315.length co51)) (fun _ hk => hk.1.2) (.int .i64 t318)) (fun _ hk => hk.1.2) (.int .i64 t319)) (fun _ hk => hk.1.2) (.int .i64 t320))))))) (fun _ hk => hk.1.1.1.1), bel_⟩
      ·
       rw [if_neg c41] at H
       exact absurd H (by simp)


/-! ### dom_Dom_Only: function 29 -/
def dom_Dom_Only.f (k : Nat) (a0_0 : Int) (l0_1 : List Int) (a0_2 : Int) (a0_3 : Int) (a0_4 : Int) (a1 : Int) : Option (Int × List Int × Int × Int × Int × Int) := (dom_Dom_less_at_dom_Dom_Only_1.f k a0_0 l0_1 a0_2 a0_3 a0_4 a1).bind fun bt309 => (some (bt309.1, bt309.2.1, bt309.2.2.1, bt309.2.2.2.1, bt309.2.2.2.2.1, bt309.2.2.2.2.2))
theorem dom_Dom_Only.mono : ∀ a0 a1 a2 a3 a4 a5 k, LeO (dom_Dom_Only.f k a0 a1 a2 a3 a4 a5) (dom_Dom_Only.f (k + 1) a0 a1 a2 a3 a4 a5) := by
 intro a0 a1 a2 a3 a4 a5 k
 unfold dom_Dom_Only.f
 have m0 := @dom_Dom_less_at_dom_Dom_Only_1.mono
 exact leo_
set_option maxHeartbeats 8000000 in
set_option maxRecDepth 100000 in
theorem dom_Dom_Only.calls (k : Nat) (a0_0 : Int) (P0_1_ : Nat → Prop) (A0_1 : Option Addr) (c0_1 : Nat) (l0_1 : List Int) (a0_2 : Int) (a0_3 : Int) (a0_4 : Int) (a1 : Int) (r1 : Int) (r2 : List Int) (r3 : Int) (r4 : Int) (r5 : Int) (r6 : Int) (w : World) (hs0_1 : Kd.V (Kd.int .u64) 80 w w.heap.size (fun k_ => P0_1_ k_) (.slice A0_1 l0_1.length c0_1) l0_1) (hrtab : Kd.C (Kd.int .u8) w (some ⟨0, 0, none⟩) tabL.length tabL) (h : dom_Dom_Only.f k a0_0 l0_1 a0_2 a0_3 a0_4 a1 = some (r1, r2, r3, r4, r5, r6)) :
  Calls Tryz.prog 29 #[.agg #[.int .i64 a0_0, .slice A0_1 l0_1.length c0_1, .int .i64 a0_2, .int .i64 a0_3, .int .i64 a0_4], .int .i64 a1] w fun e w' => ∃ v1_ : Value, e = .returned (.tuple #[.agg #[.int .i64 r1, v1_, .int .i64 r3, .int .i64 r4, .int .i64 r5], .int .i64 r6]) ∧ Kd.V (Kd.int .u64) 80 w' w.heap.size (fun k_ => (P0_1_ k_ ∨ w.heap.size ≤ k_)) v1_ r2 ∧ Below w.heap.size w w' := by
 have hu58 := Tryz.underlying58
 have HO0_1 := Aside0.mk (show Kd.V (Kd.int .u64) 80 w w.heap.size (fun k_ => (P0_1_ k_ ∨ w.heap.size ≤ k_)) (.slice A0_1 l0_1.length c0_1) l0_1 from Kd.V_mono hs0_1 (fun k_ hk => .inl hk))
 have HRtab := Aside0.mk hrtab
 clear hrtab
 have HB := Aside0.mk (Below.refl w.heap.size w)
 unfold dom_Dom_Only.f at h
 have H := h
 clear h
 replace H := Option.bind_eq_some_iff.mp H
 obtain ⟨⟨t309, t310, t313, t314, t315, t316⟩, A30, H⟩ := H
 try dsimp only at H
 have A3 := Aside0.mk A30
 clear A30
 simp only [Option.some.injEq, Prod.mk.injEq] at H
 obtain ⟨rfl, rfl, rfl, rfl, rfl, rfl⟩ := H
 go_enter Tryz.func29, Tryz.ntmps29
 go_wp2_with (first | ((with_reducible refine gate_dst (N := 2) rfl ?_); refine bxe_ (N := 2) (cs := #[.int .i64 a0_0, .slice A0_1 l0_1.length c0_1, .int .i64 a0_2, .int .i64 a0_3, .int .i64 a0_4]) (t := 58) ?_; intro gb306 hg w4 hbox hb; replace HO0_1 := Aside0.mk (Kd.V_below (Kd.V_elderB (vV_ HO0_1.out) gb306 (Nat.le_of_eq hg.symm)) hb); have BK306 := Aside0.mk (hbox); have GW306 := Aside0.mk (by rw [hg]; exact (below_size bel_) : w.heap.size ≤ gb306); have GE306 := GW306; replace HB := Aside0.mk (below_step bel_ hb); clear hb hbox hg) | ((with_reducible refine gate_dst (N := 3) rfl ?_); refine bxe_ (N := 3) (cs := #[.int .i64 a1]) (t := 3) ?_; intro gb307 hg w5 hbox hb; replace HO0_1 := Aside0.mk (Kd.V_below (Kd.V_elderB (vV_ HO0_1.out) gb307 (Nat.le_of_eq hg.symm)) hb); have BK307 := Aside0.mk (hbox); have GW307 := Aside0.mk (by rw [hg]; exact (below_size bel_) : w.heap.size ≤ gb307); have GE307 := GW307; replace HB := Aside0.mk (below_step bel_ hb); have NB306_307 := Aside0.mk ((by rw [hg]; exact Nat.ne_of_lt (blk_lt (bk_ BK306.out)) : gb306 ≠ gb307)); have NB307_306 := Aside0.mk ((by rw [hg]; exact Nat.ne_of_gt (blk_lt (bk_ BK306.out)) : gb307 ≠ gb306)); replace BK306 := Aside0.mk (blk_below (bk_ BK306.out) hb); clear hb hbox hg) | ((with_reducible refine gate_dst (N := 4) rfl ?_); refine bxe_ (N := 4) (cs := #[.int .i64 0, .slice none 0 0, .int .i64 0, .int .i64 0, .int .i64 0]) (t := 58) ?_; intro gb308 hg w6 hbox hb; replace HO0_1 := Aside0.mk (Kd.V_below (Kd.V_elderB (vV_ HO0_1.out) gb308 (Nat.le_of_eq hg.symm)) hb); have BK308 := Aside0.mk (hbox); have GW308 := Aside0.mk (by rw [hg]; exact (below_size bel_) : w.heap.size ≤ gb308); have GE308 := GW308; replace HB := Aside0.mk (below_step bel_ hb); have NB306_308 := Aside0.mk ((by rw [hg]; exact Nat.ne_of_lt (blk_lt (bk_ BK306.out)) : gb306 ≠ gb308)); have NB308_306 := Aside0.mk ((by rw [hg]; exact Nat.ne_of_gt (blk_lt (bk_ BK306.out)) : gb308 ≠ gb306)); replace BK306 := Aside0.mk (blk_below (bk_ BK306.out) hb); have NB307_308 := Aside0.mk ((by rw [hg]; exact Nat.ne_of_lt (blk_lt (bk_ BK307.out)) : gb307 ≠ gb308)); have NB308_307 := Aside0.mk ((by rw [hg]; exact Nat.ne_of_gt (blk_lt (bk_ BK307.out)) : gb308 ≠ gb307)); replace BK307 := Aside0.mk (blk_below (bk_ BK307.out) hb); clear hb hbox hg; have hnb7 := NB306_307.out; have hnc7 := NB307_306.out; have hnb8 := NB306_308.out; have hnc8 := NB308_306.out; obtain ⟨_, _, _, _, _, _, _, _, _, _⟩ := cel5_ BK306.out) | ((with_reducible refine gate_callee (f := 58) rfl ?_); refine goesL_ (some 8) rfl rfl Tryz.func58 (by kernel_rfl) rfl #[.agg #[.int .i64 a0_0, .slice A0_1 l0_1.length c0_1, .int .i64 a0_2, .int .i64 a0_3, .int .i64 a0_4], .func (.func 59) #[] #[.pointer (some ⟨gb307, 0, none⟩)]] rfl ar_ ?_; (with_reducible refine (dom_Dom_less_at_dom_Dom_Only_1.calls k a0_0 (fun k_ => ((((P0_1_ k_ ∨ w.heap.size ≤ k_) ∧ k_ ≠ gb306) ∧ k_ ≠ gb307) ∧ k_ ≠ gb308)) _ _ l0_1 a0_2 a0_3 a0_4 gb307 a1 t309 t310 t313 t314 t315 t316 _ ?side1 ?side2 ?side3 A3.out).mono ?_); (case side1 => exact HO0_1.out); (case side2 => exact by refine bk_ ?_; exact BK307.out); (case side3 => exact ca_ ((Kd.C_below HRtab.out HB.out))); rintro e w10 ⟨v311, rfl, ho0, hb⟩; refine ⟨_, rfl, ?_⟩; have HO312 := Aside0.mk (Kd.V_lower (Kd.V_mono (ok' := fun k_ => (P0_1_ k_ ∨ w.heap.size ≤ k_) ∧ k_ ≠ gb306 ∧ k_ ≠ gb307 ∧ k_ ≠ gb308) ho0 (fun k_ hk_ => ⟨Or.elim hk_ (fun hs_ => hs_.1.1.1) (fun hn_ => (.inr (Nat.le_trans (below_size bel_) hn_))), Or.elim hk_ (fun hs_ => hs_.1.1.2) (fun hn_ => (Kd.freshB (bk_ BK306.out) k_ hn_)), Or.elim hk_ (fun hs_ => hs_.1.2) (fun hn_ => (Kd.freshB (bk_ BK307.out) k_ hn_)), Or.elim hk_ (fun hs_ => hs_.2) (fun hn_ => (Kd.freshB (bk_ BK308.out) k_ hn_))⟩)) (below_size bel_)); replace BK308 := Aside0.mk (blk_below (bk_ BK308.out) hb); replace HB := Aside0.mk (below_step bel_ hb); clear hb ho0; have hnb11 := NB308_307.out; have hnc11 := NB307_308.out; obtain ⟨_, _, _, _, _, _, _, _, _, _⟩ := cel5_ BK308.out; obtain ⟨Ao13, co13, eo13⟩ := Kd.V_slice HO312.out; subst eo13))
 refine bodyPost_ret (results_ct rfl _ _ gb308 58 #[.int .i64 t309, .slice Ao13 t310.length co13, .int .i64 t313, .int .i64 t314, .int .i64 t315] (0, 0) _ rfl (by refine bk_ ?_; refine blk_put (cs := #[.int .i64 t309, .slice Ao13 t310.length co13, .int .i64 t313, .int .i64 t314, .int .i64 0]) ?_ 4 _ rfl; refine bk_ ?_; refine blk_put (cs := #[.int .i64 t309, .slice Ao13 t310.length co13, .int .i64 t313, .int .i64 0, .int .i64 0]) ?_ 3 _ rfl; refine bk_ ?_; refine blk_put (cs := #[.int .i64 t309, .slice Ao13 t310.length co13, .int .i64 0, .int .i64 0, .int .i64 0]) ?_ 2 _ rfl; refine bk_ ?_; refine blk_put (cs := #[.int .i64 t309, .slice none 0 0, .int .i64 0, .int .i64 0, .int .i64 0]) ?_ 1 _ rfl; refine bk_ ?_; refine blk_put (cs := #[.int .i64 0, .slice none 0 0, .int .i64 0, .int .i64 0, .int .i64 0]) ?_ 0 _ rfl; refine bk_ ?_; exact BK308.out) Tryz.underlying58 rfl (by kernel_rfl)) rfl ?_
 exact ⟨_, by first | rfl | (simp [errW_none, errW_some] <;> rfl) | (simp [*, errW_none, errW_some] <;> rfl), by refine vV_ ?_; exact Kd.V_mono (fV_ (fV_ (fV_ (fV_ (fV_ (Kd.V_mono HO312.out (fun k_ hk => (⟨hk, hk.2.2.2⟩ : _ ∧ k_ ≠ gb308)))))))) (fun _ hk => hk.1.1), bel_⟩


/-! ### clause_Filter: function 9 -/
mutual
def clause_Filter.l0 : Nat → List (S58) → List (S58) → Int → List (S58) → Int → Int → Int → List Int → List Int → List Int → List Int → List Int → Int → List (List Int) → Option ((List (S58)) × Bool)
 | 0, _, _, _, _, _, _, _, _, _, _, _, _, _, _ => none
 | k + 1, x1, x6, x7, x16, x17, x18, x318000, x318001, x318002, x318003, x318004, x318005, x318006, x318007 => if x18 < x17 then (if 0 ≤ x18 then (if x18 < (x16.length : Int) then ((clause_want.f x318000 x318001 x318002 x318003 x318004 x318005 x318006 x318007 x18).bind fun t324 => ((dom_Dom_Has.f ((rd_T58 x16 x18).f0) ((rd_T58 x16 x18).f1) ((rd_T58 x16 x18).f2) ((rd_T58 x16 x18).f3) ((rd_T58 x16 x18).f4) t324).bind fun t325 => (clause_Filter.j1 k x1 x6 x7 x18 x16 x17 x18 (!t325) x318000 x318001 x318002 x318003 x318004 x318005 x318006 x318007))) else (none)) else (none)) else (if x7 < 0 then (some (([] : List (S58)), false)) else (if 0 ≤ x7 then (if x7 < (x1.length : Int) then ((clause_want.f x318000 x318001 x318002 x318003 x318004 x318005 x318006 x318007 x7).bind fun t327 => ((dom_Dom_Only.f k ((rd_T58 x1 x7).f0) ((rd_T58 x1 x7).f1) ((rd_T58 x1 x7).f2) ((rd_T58 x1 x7).f3) ((rd_T58 x1 x7).f4) t327).bind fun bt328 => (if x7 < (x6.length : Int) then (some ((x6.set (x7 : Int).toNat (⟨bt328.1, bt328.2.1, bt328.2.2.1, bt328.2.2.2.1, bt328.2.2.2.2.1⟩ : S58)), true)) else (none)))) else (none)) else (none)))
def clause_Filter.j1 : Nat → List (S58) → List (S58) → Int → Int → List (S58) → Int → Int → Bool → Int → List Int → List Int → List Int → List Int → List Int → Int → List (List Int) → Option ((List (S58)) × Bool)
 | 0, _, _, _, _, _, _, _, _, _, _, _, _, _, _, _, _ => none
 | k + 1, x1, x6, x7, x8, x16, x17, x18, x28, x318000, x318001, x318002, x318003, x318004, x318005, x318006, x318007 => if x28 = true then (clause_Filter.l0 k x1 x6 x7 x16 x17 (wrap64 (x18 + 1)) x318000 x318001 x318002 x318003 x318004 x318005 x318006 x318007) else (if x7 ≥ 0 then (some (x6, true)) else (clause_Filter.l0 k x1 x6 x8 x16 x17 (wrap64 (x18 + 1)) x318000 x318001 x318002 x318003 x318004 x318005 x318006 x318007))
end
def clause_Filter.f (k : Nat) (a0_0 : Int) (l0_1 : List Int) (l0_2 : List Int) (l0_3 : List Int) (l0_4 : List Int) (l0_5 : List Int) (a0_6 : Int) (l0_7 : List (List Int)) (l1 : List (S58)) : Option ((List (S58)) × Bool) := (prop_Fits.f k a0_0 l0_1 l0_2 l0_3 l0_4 l0_5 a0_6 l0_7 l1 12 12).bind fun t318 => (if t318 = true then ((slices_CloneDom.f l1).bind fun t319 => (clause_Filter.l0 k l1 t319 (-1) l1 (l1.length : Int) 0 a0_0 l0_1 l0_2 l0_3 l0_4 l0_5 a0_6 l0_7)) else (none))
theorem clause_Filter.mono_l : ∀ k, (∀ y0 y1 y2 y3 y4 y5 y6 y7 y8 y9 y10 y11 y12 y13, LeO (clause_Filter.l0 k y0 y1 y2 y3 y4 y5 y6 y7 y8 y9 y10 y11 y12 y13) (clause_Filter.l0 (k + 1) y0 y1 y2 y3 y4 y5 y6 y7 y8 y9 y10 y11 y12 y13)) ∧ (∀ y0 y1 y2 y3 y4 y5 y6 y7 y8 y9 y10 y11 y12 y13 y14 y15, LeO (clause_Filter.j1 k y0 y1 y2 y3 y4 y5 y6 y7 y8 y9 y10 y11 y12 y13 y14 y15) (clause_Filter.j1 (k + 1) y0 y1 y2 y3 y4 y5 y6 y7 y8 y9 y10 y11 y12 y13 y14 y15))
 | 0 => ⟨fun _ _ _ _ _ _ _ _ _ _ _ _ _ _ r h => by simp [clause_Filter.l0] at h, fun _ _ _ _ _ _ _ _ _ _ _ _ _ _ _ _ r h => by simp [clause_Filter.j1] at h⟩
 | k + 1 => by
  obtain ⟨ih0, ih1⟩ := clause_Filter.mono_l k
  refine ⟨?_, ?_⟩
  ·
   intro y0 y1 y2 y3 y4 y5 y6 y7 y8 y9 y10 y11 y12 y13
   unfold clause_Filter.l0
   have m0 := @dom_Dom_Only.mono
   have m1 := @prop_Fits.mono
   exact leo_
  ·
   intro y0 y1 y2 y3 y4 y5 y6 y7 y8 y9 y10 y11 y12 y13 y14 y15
   unfold clause_Filter.j1
   have m0 := @dom_Dom_Only.mono
   have m1 := @prop_Fits.mono
   exact leo_
theorem clause_Filter.mono : ∀ a0 a1 a2 a3 a4 a5 a6 a7 a8 k, LeO (clause_Filter.f k a0 a1 a2 a3 a4 a5 a6 a7 a8) (clause_Filter.f (k + 1) a0 a1 a2 a3 a4 a5 a6 a7 a8) := by
 intro a0 a1 a2 a3 a4 a5 a6 a7 a8 k
 obtain ⟨ih0, ih1⟩ := clause_Filter.mono_l k
 unfold clause_Filter.f
 have m0 := @dom_Dom_Only.mono
 have m1 := @prop_Fits.mono
 exact leo_
def clause_Filter.T15 : Bool × List (List Nat × List Nat) := (true, [([], []), ([], []), ([], []), ([], []), ([2, 3], [2, 3]), ([4], [4]), ([], []), ([], []), ([6, 7], [6, 7]), ([5, 8, 8], [5, 8]), ([9], [9]), ([10], [10]), ([10], [10]), ([0, 1, 0, 1, 2, 3, 4, 5, 6, 7, 8, 9, 10, 11], [0, 1]), ([13, 11, 9, 0, 1, 2, 3, 4, 5, 6, 7, 8, 9, 10, 11], [11, 13])])
def clause_Filter.B15 : List Nat := [0, 0, 0, 0, 12, 28, 0, 0, 192, 508, 1020, 2044, 2044, 4095, 12287]
theorem clause_Filter.tab15 : rtab .any (opsOf Tryz.f9 15) = clause_Filter.T15 := by kernel_rfl
theorem clause_Filter.bits15 : waitsOk clause_Filter.T15.2 clause_Filter.B15 = true := by kernel_rfl
set_option maxHeartbeats 8000000 in
set_option maxRecDepth 100000 in
theorem clause_Filter.calls (k : Nat) (a0_0 : Int) (A0_1 : Option Addr) (c0_1 : Nat) (l0_1 : List Int) (A0_2 : Option Addr) (c0_2 : Nat) (l0_2 : List Int) (A0_3 : Option Addr) (c0_3 : Nat) (l0_3 : List Int) (A0_4 : Option Addr) (c0_4 : Nat) (l0_4 : List Int) (A0_5 : Option Addr) (c0_5 : Nat) (l0_5 : List Int) (a0_6 : Int) (A0_7 : Option Addr) (c0_7 : Nat) (l0_7 : List (List Int)) (P1_ : Nat → Prop) (A1 : Option Addr) (c1 : Nat) (l1 : List (S58)) (r1 : List (S58)) (r2 : Bool) (w : World) (hr0_1 : Kd.C (Kd.int .i64) w A0_1 l0_1.length l0_1) (hc0_1 : l0_1.length ≤ c0_1) (hr0_2 : Kd.C (Kd.int .i64) w A0_2 l0_2.length l0_2) (hc0_2 : l0_2.length ≤ c0_2) (hr0_3 : Kd.C (Kd.int .i64) w A0_3 l0_3.length l0_3) (hc0_3 : l0_3.length ≤ c0_3) (hr0_4 : Kd.C (Kd.int .i64) w A0_4 l0_4.length l0_4) (hc0_4 : l0_4.length ≤ c0_4) (hr0_5 : Kd.C (Kd.int .i64) w A0_5 l0_5.length l0_5) (hc0_5 : l0_5.length ≤ c0_5) (hr0_7 : Kd.C (Kd.slice 3 (Kd.int .i64)) w A0_7 l0_7.length l0_7) (hc0_7 : l0_7.length ≤ c0_7) (hs1 : Kd.V k58 58 w w.heap.size (fun k_ => P1_ k_) (.slice A1 l1.length c1) l1) (hrtab : Kd.C (Kd.int .u8) w (some ⟨0, 0, none⟩) tabL.length tabL) (h : clause_Filter.f k a0_0 l0_1 l0_2 l0_3 l0_4 l0_5 a0_6 l0_7 l1 = some (r1, r2)) :
  Calls Tryz.prog 9 #[.agg #[.int .i64 a0_0, .slice A0_1 l0_1.length c0_1, .slice A0_2 l0_2.length c0_2, .slice A0_3 l0_3.length c0_3, .slice A0_4 l0_4.length c0_4, .slice A0_5 l0_5.length c0_5, .int .i64 a0_6, .slice A0_7 l0_7.length c0_7], .slice A1 l1.length c1] w fun e w' => ∃ v0_ : Value, e = .returned (.tuple #[v0_, .bool r2]) ∧ Kd.N k58 58 w' w.heap.size (fun k_ => (P1_ k_ ∨ w.heap.size ≤ k_)) v0_ r1 ∧ Below w.heap.size w w' := by
 have hu32 := Tryz.underlying32
 have hu58 := Tryz.underlying58
 have HR0_1 := Aside0.mk hr0_1
 have HC0_1 := Aside0.mk hc0_1
 clear hr0_1 hc0_1
 have HR0_2 := Aside0.mk hr0_2
 have HC0_2 := Aside0.mk hc0_2
 clear hr0_2 hc0_2
 have HR0_3 := Aside0.mk hr0_3
 have HC0_3 := Aside0.mk hc0_3
 clear hr0_3 hc0_3
 have HR0_4 := Aside0.mk hr0_4
 have HC0_4 := Aside0.mk hc0_4
 clear hr0_4 hc0_4
 have HR0_5 := Aside0.mk hr0_5
 have HC0_5 := Aside0.mk hc0_5
 clear hr0_5 hc0_5
 have HR0_7 := Aside0.mk hr0_7
 have HC0_7 := Aside0.mk hc0_7
 clear hr0_7 hc0_7
 have HO1 := Aside0.mk (show Kd.V k58 58 w w.heap.size (fun k_ => (P1_ k_ ∨ w.heap.size ≤ k_)) (.slice A1 l1.length c1) l1 from Kd.V_mono hs1 (fun k_ hk => .inl hk))
 have HRtab := Aside0.mk hrtab
 clear hrtab
 have HB := Aside0.mk (Below.refl w.heap.size w)
 unfold clause_Filter.f at h
 have H := h
 clear h
 replace H := Option.bind_eq_some_iff.mp H
 obtain ⟨t318, A30, H⟩ := H
 try dsimp only at H
 have A3 := Aside0.mk A30
 clear A30
 by_cases c4 : t318 = true
 ·
  subst c4
  rw [if_pos rfl] at H
  replace H := Option.bind_eq_some_iff.mp H
  obtain ⟨t319, A50, H⟩ := H
  try dsimp only at H
  have A5 := Aside0.mk A50
  clear A50
  have H' := Aside0.mk H
  clear H
  go_enter Tryz.func9, Tryz.ntmps9
  go_wp2_with (first | ((with_reducible refine gate_dst (N := 2) rfl ?_); refine bxe_ (N := 2) (cs := #[.int .i64 a0_0, .slice A0_1 l0_1.length c0_1, .slice A0_2 l0_2.length c0_2, .slice A0_3 l0_3.length c0_3, .slice A0_4 l0_4.length c0_4, .slice A0_5 l0_5.length c0_5, .int .i64 a0_6, .slice A0_7 l0_7.length c0_7]) (t := 32) ?_; intro gb317 hg w6 hbox hb; replace HO1 := Aside0.mk (Kd.V_below (Kd.V_elderB (vV_ HO1.out) gb317 (Nat.le_of_eq hg.symm)) hb); have BK317 := Aside0.mk (hbox); have GW317 := Aside0.mk (by rw [hg]; exact (below_size bel_) : w.heap.size ≤ gb317); have GE317 := GW317; replace HB := Aside0.mk (below_step bel_ hb); clear hb hbox hg; obtain ⟨_, _, _, _, _, _, _, _, _, _, _, _, _, _, _, _⟩ := cel8_ BK317.out) | ((with_reducible refine gate_callee (f := 26) rfl ?_); refine goesL_ (some 12) rfl rfl Tryz.func26 (by kernel_rfl) rfl #[.agg #[.int .i64 a0_0, .slice A0_1 l0_1.length c0_1, .slice A0_2 l0_2.length c0_2, .slice A0_3 l0_3.length c0_3, .slice A0_4 l0_4.length c0_4, .slice A0_5 l0_5.length c0_5, .int .i64 a0_6, .slice A0_7 l0_7.length c0_7], .slice A1 l1.length c1, .int .i64 12, .int .i64 12] rfl ar_ ?_; (with_reducible refine (prop_Fits.calls k a0_0 _ _ l0_1 _ _ l0_2 _ _ l0_3 _ _ l0_4 _ _ l0_5 a0_6 _ _ l0_7 _ _ l1 12 12 true _ ?_ ?_ ?_ ?_ ?_ ?_ ?_ ?_ ?_ ?_ ?_ ?_ ?_ ?_ A3.out).mono ?_); exact ca_ ((Kd.C_below HR0_1.out HB.out)); exact HC0_1.out; exact ca_ ((Kd.C_below HR0_2.out HB.out)); exact HC0_2.out; exact ca_ ((Kd.C_below HR0_3.out HB.out)); exact HC0_3.out; exact ca_ ((Kd.C_below HR0_4.out HB.out)); exact HC0_4.out; exact ca_ ((Kd.C_below HR0_5.out HB.out)); exact HC0_5.out; exact ca_ ((Kd.C_below HR0_7.out HB.out)); exact HC0_7.out; exact ca_ ((Kd.V_reads' HO1.out).2.2); exact (Kd.V_reads' HO1.out).2.1; rintro e w8 ⟨rfl, hb⟩; refine ⟨_, rfl, ?_⟩; replace HO1 := Aside0.mk (Kd.V_below (vV_ HO1.out) hb); replace BK317 := Aside0.mk (blk_below (bk_ BK317.out) hb); replace HB := Aside0.mk (below_step bel_ hb); clear hb) | ((with_reducible refine gate_callee (f := 27) rfl ?_); refine goesL_ (some 15) rfl rfl Tryz.func27 (by kernel_rfl) rfl #[.slice A1 l1.length c1] rfl ar_ ?_; (with_reducible refine (slices_CloneDom.calls (fun k_ => ((P1_ k_ ∨ w.heap.size ≤ k_) ∧ k_ ≠ gb317)) _ _ l1 t319 _ ?_ A5.out).mono ?_); exact HO1.out; rintro e w9 ⟨v320, rfl, ho0, hb⟩; refine ⟨_, rfl, ?_⟩; replace HO1 := Aside0.mk (Kd.V_elder' (vV_ HO1.out) (Kd.N_base ho0) hb); have HO321 := Aside0.mk (Kd.N_lower (Kd.N_mono (ok' := fun k_ => (P1_ k_ ∨ w.heap.size ≤ k_) ∧ k_ ≠ gb317) ho0 (fun k_ hk_ => ⟨Or.elim hk_ (fun hs_ => hs_.1) (fun hn_ => (.inr (Nat.le_trans (below_size bel_) hn_))), Or.elim hk_ (fun hs_ => hs_.2) (fun hn_ => (Kd.freshB (bk_ BK317.out) k_ hn_))⟩)) (below_size bel_)); replace BK317 := Aside0.mk (blk_below (bk_ BK317.out) hb); replace HB := Aside0.mk (below_step bel_ hb); clear hb ho0))
  go_loopg [7, 18] k (fun kq v7 v18 w' => ∃ (x7_1 : Int) (x18_1 : Int), v7 = .int .i64 x7_1 ∧ v18 = .int .i64 x18_1 ∧ Aside0 (clause_Filter.l0 kq l1 t319 x7_1 l1 (l1.length : Int) x18_1 a0_0 l0_1 l0_2 l0_3 l0_4 l0_5 a0_6 l0_7 = some (r1, r2)) ∧ Aside0 (kq ≤ k) ∧ Aside0 (Kd.V k58 58 w' w.heap.size (fun k_ => (P1_ k_ ∨ w.heap.size ≤ k_) ∧ some k_ ≠ (v320 : Value).ownBlock ∧ k_ ≠ gb317) (.slice A1 l1.length c1) l1) ∧ Aside0 (Kd.N k58 58 w' w.heap.size (fun k_ => (P1_ k_ ∨ w.heap.size ≤ k_) ∧ k_ ≠ gb317) v320 t319) ∧ Aside0 (Kd.V k58 58 w' w.heap.size (fun k_ => (P1_ k_ ∨ w.heap.size ≤ k_) ∧ some k_ ≠ (v320 : Value).ownBlock ∧ k_ ≠ gb317) (.slice A1 l1.length c1) l1) ∧ Aside0 (w'.heap[gb317]? = some (.cells #[.int .i64 a0_0, (.slice A0_1 l0_1.length c0_1), (.slice A0_2 l0_2.length c0_2), (.slice A0_3 l0_3.length c0_3), (.slice A0_4 l0_4.length c0_4), (.slice A0_5 l0_5.length c0_5), .int .i64 a0_6, (.slice A0_7 l0_7.length c0_7)] 32 (0, 0))) ∧ Aside0 (Below w.heap.size w w'))
  case atStart => exact ⟨((-1)), (0), eq_, eq_, H', ⟨Nat.le_refl _⟩, ⟨by refine vV_ ?_; exact Kd.V_mono HO1.out (fun _ hk => ⟨hk.1.1, ⟨hk.2, hk.1.2⟩⟩)⟩, ⟨by refine vN_ ?_; exact HO321.out⟩, ⟨by refine vV_ ?_; exact Kd.V_mono HO1.out (fun _ hk => ⟨hk.1.1, ⟨hk.2, hk.1.2⟩⟩)⟩, ⟨by refine bk_ ?_; exact BK317.out⟩, ⟨bel_⟩⟩
  case round =>
   clear H'
   try clear c1
   try clear c2
   try clear p2
   try clear c4
   try clear c9
   obtain ⟨x7_1, x18_1, rfl, rfl, HA, HK1, HO_1, HO_6, HO_16, BK317, HB⟩ := hrel
   cases gk with
   | zero => exact absurd HA.out (by simp [clause_Filter.l0])
   | succ k1 =>
    have H := HA.out
    clear HA
    simp only [clause_Filter.l0] at H
    by_cases c10 : x18_1 < (l1.length : Int)
    ·
     rw [if_pos c10] at H
     have c10b0 : decide (x18_1 < (l1.length : Int)) = true := decide_eq_true c10
     clear c10
     by_cases c11 : 0 ≤ x18_1
     ·
      rw [if_pos c11] at H
      have c11b0 : decide (0 ≤ x18_1) = true := decide_eq_true c11
      clear c11
      by_cases c12 : x18_1 < (l1.length : Int)
      ·
       rw [if_pos c12] at H
       have c12b0 : decide (x18_1 < (l1.length : Int)) = true := decide_eq_true c12
       clear c12
       have HC13 := Aside0.mk H
       clear H
       have p322 : 0 ≤ (x18_1 : Int) := dq_
       have q322 : x18_1 < (l1.length : Int) := dq_
       obtain ⟨ad322, A322_1, c322_1, e322, hx322_0, hx322_1, hx322_2, hx322_3, hx322_4, hl322_1, hi322_1⟩ := at_T58 (Kd.V_reads' HO_16.out).2.2 x18_1 p322 q322
       cases e322
       obtain ⟨ce322, hce322, hMe322, hcc322⟩ := Kd.V_get HO_16.out z58 x18_1 p322 (by first | exact q322 | exact dq_ | (have e_ := (Kd.V_reads' HO_16.out).1; omega))
       obtain ⟨ua322_1, uc322_1, rfl, ul322_1, ge322_1⟩ := k58_openF hMe322
       have hv322_1 := hcc322 1 _ rfl
       rw [add_field _ _ 1 (by omega)] at hv322_1
       replace hv322_1 := Option.some.inj (hv322_1.symm.trans hx322_1)
       injection hv322_1 with hva_ hvn_ hvc_
       rw [hva_] at ge322_1
       rw [hvc_] at ul322_1
       have HL322_1 := Aside0.mk (show Kd.V (Kd.int .u64) 80 _ w.heap.size _ _ ((rd_T58 l1 x18_1).f1) from Kd.V_mk ul322_1 ge322_1)
       clear hva_ hvn_ hvc_ ge322_1 ul322_1
       clear hcc322 hce322
       have HC322_1 := Aside0.mk hl322_1
       clear hi322_1 hl322_1
       replace p322 := eq_true p322
       replace q322 := eq_true q322
       go_upto_region 8 with (first | ((with_reducible refine gate_dst (N := 9) rfl ?_); refine bxe_ (N := 9) (cs := #[.int .i64 0, .slice none 0 0, .int .i64 0, .int .i64 0, .int .i64 0]) (t := 58) ?_; intro gb323 hg w14 hbox hb; replace HO_1 := Aside0.mk (Kd.V_below (Kd.V_elderB (vV_ HO_1.out) gb323 (Nat.le_of_eq hg.symm)) hb); replace HO_6 := Aside0.mk (Kd.N_below (Kd.N_elderB (vN_ HO_6.out) gb323 (Nat.le_of_eq hg.symm)) hb); replace HO_16 := Aside0.mk (Kd.V_below (Kd.V_elderB (vV_ HO_16.out) gb323 (Nat.le_of_eq hg.symm)) hb); replace HL322_1 := Aside0.mk (Kd.V_below (Kd.V_elderB (vV_ HL322_1.out) gb323 (Nat.le_of_eq hg.symm)) hb); have BK323 := Aside0.mk (hbox); have GW323 := Aside0.mk (by rw [hg]; exact (below_size bel_) : w.heap.size ≤ gb323); have GE323 := GW323; replace HB := Aside0.mk (below_step bel_ hb); have NB317_323 := Aside0.mk ((by rw [hg]; exact Nat.ne_of_lt (blk_lt (bk_ BK317.out)) : gb317 ≠ gb323)); have NB323_317 := Aside0.mk ((by rw [hg]; exact Nat.ne_of_gt (blk_lt (bk_ BK317.out)) : gb323 ≠ gb317)); replace BK317 := Aside0.mk (blk_below (bk_ BK317.out) hb); clear hb hbox hg; have hnb15 := NB323_317.out; have hnc15 := NB317_323.out; obtain ⟨_, _, _, _, _, _, _, _, _, _⟩ := cel5_ BK323.out))
       (try simp only [Act.put, List.setIfInBounds_toArray, List.set_cons_zero, List.set_cons_succ])
       go_cut [28] (fun v28 wc => ∃ (kq : Nat) (x28_12 : Bool), v28 = .bool x28_12 ∧ Aside0 (clause_Filter.j1 kq l1 t319 x7_1 x18_1 l1 (l1.length : Int) x18_1 x28_12 a0_0 l0_1 l0_2 l0_3 l0_4 l0_5 a0_6 l0_7 = some (r1, r2)) ∧ Aside0 (kq ≤ k1) ∧ Aside0 (Kd.V k58 58 wc w.heap.size (fun k_ => (P1_ k_ ∨ w.heap.size ≤ k_) ∧ some k_ ≠ (v320 : Value).ownBlock ∧ k_ ≠ gb317) (.slice (some ad322) l1.length c1) l1) ∧ Aside0 (Kd.N k58 58 wc w.heap.size (fun k_ => (P1_ k_ ∨ w.heap.size ≤ k_) ∧ k_ ≠ gb317) v320 t319) ∧ Aside0 (Kd.V k58 58 wc w.heap.size (fun k_ => (P1_ k_ ∨ w.heap.size ≤ k_) ∧ some k_ ≠ (v320 : Value).ownBlock ∧ k_ ≠ gb317) (.slice (some ad322) l1.length c1) l1) ∧ Aside0 (wc.heap[gb317]? = some (.cells #[.int .i64 a0_0, (.slice A0_1 l0_1.length c0_1), (.slice A0_2 l0_2.length c0_2), (.slice A0_3 l0_3.length c0_3), (.slice A0_4 l0_4.length c0_4), (.slice A0_5 l0_5.length c0_5), .int .i64 a0_6, (.slice A0_7 l0_7.length c0_7)] 32 (0, 0))) ∧ Aside0 (Below w.heap.size w wc))
       case first =>
        have H := HC13.out
        clear HC13
        replace H := Option.bind_eq_some_iff.mp H
        obtain ⟨t324, A170, H⟩ := H
        try dsimp only at H
        have A17 := Aside0.mk A170
        clear A170
        replace H := Option.bind_eq_some_iff.mp H
        obtain ⟨t325, A180, H⟩ := H
        try dsimp only at H
        have A18 := Aside0.mk A180
        clear A180
        have H' := Aside0.mk H
        clear H
        try go_wp2
        obtain ⟨w19, hq_⟩ : ∃ x, x = (((((w14.setCell ⟨gb323, 0, none⟩ (.int .i64 ((rd_T58 l1 x18_1).f0))).setCell ⟨gb323, 1, none⟩ (.slice A322_1 ((rd_T58 l1 x18_1).f1).length c322_1)).setCell ⟨gb323, 2, none⟩ (.int .i64 ((rd_T58 l1 x18_1).f2))).setCell ⟨gb323, 3, none⟩ (.int .i64 ((rd_T58 l1 x18_1).f3))).setCell ⟨gb323, 4, none⟩ (.int .i64 ((rd_T58 l1 x18_1).f4))) := ⟨_, rfl⟩
        replace HO_1 : Aside0 (Kd.V k58 58 w19 w.heap.size (fun k_ => (P1_ k_ ∨ w.heap.size ≤ k_) ∧ some k_ ≠ (v320 : Value).ownBlock ∧ k_ ≠ gb317 ∧ k_ ≠ gb323) (.slice (some ad322) l1.length c1) l1) := ⟨by subst hq_; refine vV_ ?_; exact Kd.V_mono (fV_ (fV_ (fV_ (fV_ (fV_ (Kd.V_mono HO_1.out (fun k_ hk => (⟨hk, hk.2⟩ : _ ∧ k_ ≠ gb323)))))))) (fun _ hk => ⟨hk.1.1.1, ⟨hk.1.1.2.1, ⟨hk.1.1.2.2, hk.1.2⟩⟩⟩)⟩
        replace HO_6 : Aside0 (Kd.N k58 58 w19 w.heap.size (fun k_ => (P1_ k_ ∨ w.heap.size ≤ k_) ∧ k_ ≠ gb317 ∧ k_ ≠ gb323) v320 t319) := ⟨by subst hq_; refine vN_ ?_; exact Kd.N_mono (fN_ (fN_ (fN_ (fN_ (fN_ (Kd.N_mono HO_6.out (fun k_ hk => (⟨hk, hk.2⟩ : _ ∧ k_ ≠ gb323)))))))) (fun _ hk => ⟨hk.1.1.1, ⟨hk.1.1.2, hk.1.2⟩⟩)⟩
        replace HO_16 : Aside0 (Kd.V k58 58 w19 w.heap.size (fun k_ => (P1_ k_ ∨ w.heap.size ≤ k_) ∧ some k_ ≠ (v320 : Value).ownBlock ∧ k_ ≠ gb317 ∧ k_ ≠ gb323) (.slice (some ad322) l1.length c1) l1) := ⟨by subst hq_; refine vV_ ?_; exact Kd.V_mono (fV_ (fV_ (fV_ (fV_ (fV_ (Kd.V_mono HO_16.out (fun k_ hk => (⟨hk, hk.2⟩ : _ ∧ k_ ≠ gb323)))))))) (fun _ hk => ⟨hk.1.1.1, ⟨hk.1.1.2.1, ⟨hk.1.1.2.2, hk.1.2⟩⟩⟩)⟩
        replace HL322_1 : Aside0 (Kd.V (Kd.int .u64) 80 w19 w.heap.size (fun k_ => (P1_ k_ ∨ w.heap.size ≤ k_) ∧ some k_ ≠ (v320 : Value).ownBlock ∧ k_ ≠ gb317 ∧ k_ ≠ gb323) (.slice A322_1 ((rd_T58 l1 x18_1).f1).length c322_1) ((rd_T58 l1 x18_1).f1)) := ⟨by subst hq_; refine vV_ ?_; exact Kd.V_mono (fV_ (fV_ (fV_ (fV_ (fV_ (Kd.V_mono HL322_1.out (fun k_ hk => (⟨hk, hk.2⟩ : _ ∧ k_ ≠ gb323)))))))) (fun _ hk => ⟨hk.1.1.1, ⟨hk.1.1.2.1, ⟨hk.1.1.2.2, hk.1.2⟩⟩⟩)⟩
        replace BK317 : Aside0 (w19.heap[gb317]? = some (.cells #[.int .i64 a0_0, .slice A0_1 l0_1.length c0_1, .slice A0_2 l0_2.length c0_2, .slice A0_3 l0_3.length c0_3, .slice A0_4 l0_4.length c0_4, .slice A0_5 l0_5.length c0_5, .int .i64 a0_6, .slice A0_7 l0_7.length c0_7] 32 (0, 0))) := ⟨by subst hq_; refine bk_ ?_; refine blk_far ?_ NB317_323.out _; refine bk_ ?_; refine blk_far ?_ NB317_323.out _; refine bk_ ?_; refine blk_far ?_ NB317_323.out _; refine bk_ ?_; refine blk_far ?_ NB317_323.out _; refine bk_ ?_; refine blk_far ?_ NB317_323.out _; refine bk_ ?_; exact BK317.out⟩
        replace BK323 : Aside0 (w19.heap[gb323]? = some (.cells #[.int .i64 ((rd_T58 l1 x18_1).f0), .slice A322_1 ((rd_T58 l1 x18_1).f1).length c322_1, .int .i64 ((rd_T58 l1 x18_1).f2), .int .i64 ((rd_T58 l1 x18_1).f3), .int .i64 ((rd_T58 l1 x18_1).f4)] 58 (0, 0))) := ⟨by subst hq_; refine bk_ ?_; refine blk_put (cs := #[.int .i64 ((rd_T58 l1 x18_1).f0), .slice A322_1 ((rd_T58 l1 x18_1).f1).length c322_1, .int .i64 ((rd_T58 l1 x18_1).f2), .int .i64 ((rd_T58 l1 x18_1).f3), .int .i64 0]) ?_ 4 _ rfl; refine bk_ ?_; refine blk_put (cs := #[.int .i64 ((rd_T58 l1 x18_1).f0), .slice A322_1 ((rd_T58 l1 x18_1).f1).length c322_1, .int .i64 ((rd_T58 l1 x18_1).f2), .int .i64 0, .int .i64 0]) ?_ 3 _ rfl; refine bk_ ?_; refine blk_put (cs := #[.int .i64 ((rd_T58 l1 x18_1).f0), .slice A322_1 ((rd_T58 l1 x18_1).f1).length c322_1, .int .i64 0, .int .i64 0, .int .i64 0]) ?_ 2 _ rfl; refine bk_ ?_; refine blk_put (cs := #[.int .i64 ((rd_T58 l1 x18_1).f0), .slice none 0 0, .int .i64 0, .int .i64 0, .int .i64 0]) ?_ 1 _ rfl; refine bk_ ?_; refine blk_put (cs := #[.int .i64 0, .slice none 0 0, .int .i64 0, .int .i64 0, .int .i64 0]) ?_ 0 _ rfl; refine bk_ ?_; exact BK323.out⟩
        replace HB : Aside0 (Below w.heap.size w w19) := ⟨by subst hq_; exact bel_⟩
        rw [← hq_]
        clear hq_
        replace HO_1 := Aside0.mk (Kd.V_drew HO_1.out)
        replace HO_6 := Aside0.mk (Kd.N_drew HO_6.out)
        replace HO_16 := Aside0.mk (Kd.V_drew HO_16.out)
        replace HL322_1 := Aside0.mk (Kd.V_drew HL322_1.out)
        replace BK317 := Aside0.mk (blk_drew BK317.out)
        replace BK323 := Aside0.mk (blk_drew BK323.out)
        replace HB := Aside0.mk (below_drew1 HB.out)
        refine start_ (n := 6) (S := fun w' => w'.cell? ⟨gb323, 0, none⟩ = some (.int .i64 ((rd_T58 l1 x18_1).f0)) ∧ w'.cell? ⟨gb323, 1, none⟩ = some (.slice A322_1 ((rd_T58 l1 x18_1).f1).length c322_1) ∧ w'.cell? ⟨gb323, 2, none⟩ = some (.int .i64 ((rd_T58 l1 x18_1).f2)) ∧ w'.cell? ⟨gb323, 3, none⟩ = some (.int .i64 ((rd_T58 l1 x18_1).f3)) ∧ w'.cell? ⟨gb323, 4, none⟩ = some (.int .i64 ((rd_T58 l1 x18_1).f4)) ∧ w'.cell? ⟨gb317, 0, none⟩ = some (.int .i64 a0_0) ∧ w'.cell? ⟨gb317, 1, none⟩ = some (.slice A0_1 l0_1.length c0_1) ∧ w'.cell? ⟨gb317, 2, none⟩ = some (.slice A0_2 l0_2.length c0_2) ∧ w'.cell? ⟨gb317, 3, none⟩ = some (.slice A0_3 l0_3.length c0_3) ∧ w'.cell? ⟨gb317, 4, none⟩ = some (.slice A0_4 l0_4.length c0_4) ∧ w'.cell? ⟨gb317, 5, none⟩ = some (.slice A0_5 l0_5.length c0_5) ∧ w'.cell? ⟨gb317, 6, none⟩ = some (.int .i64 a0_6) ∧ w'.cell? ⟨gb317, 7, none⟩ = some (.slice A0_7 l0_7.length c0_7)) (ds := []) #[false, false, false, false, false, false] (by kernel_rfl) rfl rfl (cb5_ BK323.out (ca8_ BK317.out)) (fun hHeld => ?_)
        generalize w19.drew = w20 at HO_1 HO_6 HO_16 HL322_1 BK317 BK323 HB hHeld ⊢
        refine pu_ (i := 2) (N := some 25) (by kernel_rfl) ?_
        refine tak_ (i := 0) (N := some 23) (by kernel_rfl) hHeld ?_
        refine tak_ (i := 1) (N := some 24) (by kernel_rfl) hHeld ?_
        refine one_ (i := 3) (N := some 26) #[true, true, true, true, false, false] rfl rfl (by kernel_rfl) (by decide) (fun K hK => ?_)
        refine goes_ Tryz.func28 (by kernel_rfl) rfl #[.agg #[.int .i64 a0_0, .slice A0_1 l0_1.length c0_1, .slice A0_2 l0_2.length c0_2, .slice A0_3 l0_3.length c0_3, .slice A0_4 l0_4.length c0_4, .slice A0_5 l0_5.length c0_5, .int .i64 a0_6, .slice A0_7 l0_7.length c0_7], .int .i64 x18_1] (by rfl) rfl rfl ar_ ?_
        with_reducible refine (clause_want.calls a0_0 _ _ l0_1 _ _ l0_2 _ _ l0_3 _ _ l0_4 _ _ l0_5 a0_6 _ _ l0_7 x18_1 t324 _ ?_ ?_ ?_ ?_ ?_ ?_ ?_ ?_ ?_ ?_ ?_ ?_ A17.out).mono ?_
        exact ca_ ((Kd.C_below HR0_1.out HB.out))
        exact HC0_1.out
        exact ca_ ((Kd.C_below HR0_2.out HB.out))
        exact HC0_2.out
        exact ca_ ((Kd.C_below HR0_3.out HB.out))
        exact HC0_3.out
        exact ca_ ((Kd.C_below HR0_4.out HB.out))
        exact HC0_4.out
        exact ca_ ((Kd.C_below HR0_5.out HB.out))
        exact HC0_5.out
        exact ca_ ((Kd.C_below HR0_7.out HB.out))
        exact HC0_7.out
        rintro e w21 ⟨rfl, hb⟩
        refine ⟨_, rfl, ?_⟩
        replace HO_1 := Aside0.mk (Kd.V_below (vV_ HO_1.out) hb)
        replace HO_6 := Aside0.mk (Kd.N_below (vN_ HO_6.out) hb)
        replace HO_16 := Aside0.mk (Kd.V_below (vV_ HO_16.out) hb)
        replace HL322_1 := Aside0.mk (Kd.V_below (vV_ HL322_1.out) hb)
        replace BK317 := Aside0.mk (blk_below (bk_ BK317.out) hb)
        replace BK323 := Aside0.mk (blk_below (bk_ BK323.out) hb)
        replace HB := Aside0.mk (below_step bel_ hb)
        clear hb
        refine hK.out _ _ (cb5_ BK323.out (ca8_ BK317.out)) (fun hHeld => ?_)
        clear hK K
        refine nor_ (N := some 26) ?_
        refine one_ (i := 4) (N := some 27) #[true, true, true, true, true, false] rfl rfl (by kernel_rfl) (by decide) (fun K hK => ?_)
        refine goes_ Tryz.func24 (by kernel_rfl) rfl #[.agg #[.int .i64 ((rd_T58 l1 x18_1).f0), .slice A322_1 ((rd_T58 l1 x18_1).f1).length c322_1, .int .i64 ((rd_T58 l1 x18_1).f2), .int .i64 ((rd_T58 l1 x18_1).f3), .int .i64 ((rd_T58 l1 x18_1).f4)], .int .i64 t324] (by rfl) rfl rfl ar_ ?_
        with_reducible refine (dom_Dom_Has.calls ((rd_T58 l1 x18_1).f0) _ _ ((rd_T58 l1 x18_1).f1) ((rd_T58 l1 x18_1).f2) ((rd_T58 l1 x18_1).f3) ((rd_T58 l1 x18_1).f4) t324 t325 _ ?_ ?_ A18.out).mono ?_
        focus repeat (first | exact ((Kd.V_reads' (vV_ HL322_1.out)).2.2) | (with_reducible refine Kd.C_alloc ?_ _) | (with_reducible refine Kd.C_drewN ?_ _) | (with_reducible refine Kd.C_drew ?_))
        exact HC322_1.out
        rintro e w22 ⟨rfl, hb⟩
        refine ⟨_, rfl, ?_⟩
        replace HO_1 := Aside0.mk (Kd.V_below (vV_ HO_1.out) hb)
        replace HO_6 := Aside0.mk (Kd.N_below (vN_ HO_6.out) hb)
        replace HO_16 := Aside0.mk (Kd.V_below (vV_ HO_16.out) hb)
        replace BK317 := Aside0.mk (blk_below (bk_ BK317.out) hb)
        replace BK323 := Aside0.mk (blk_below (bk_ BK323.out) hb)
        replace HB := Aside0.mk (below_step bel_ hb)
        clear hb
        refine hK.out _ _ (cb5_ BK323.out (ca8_ BK317.out)) (fun hHeld => ?_)
        clear hK K
        refine nor_ (N := some 27) ?_
        refine pu_ (i := 5) (N := some 28) (by kernel_rfl) ?_
        refine done_ (by kernel_rfl) ?_
        try go_wp2
        go_meet
        case rel => exact ⟨_, (!t325), eq_, H', ⟨by have := HK1.out; first | omega | exact Nat.le_refl _⟩, ⟨by refine vV_ ?_; exact Kd.V_mono HO_1.out (fun _ hk => ⟨hk.1, ⟨hk.2.1, hk.2.2.1⟩⟩)⟩, ⟨by refine vN_ ?_; exact Kd.N_mono HO_6.out (fun _ hk => ⟨hk.1, hk.2.1⟩)⟩, ⟨by refine vV_ ?_; exact Kd.V_mono HO_16.out (fun _ hk => ⟨hk.1, ⟨hk.2.1, hk.2.2.1⟩⟩)⟩, ⟨by refine bk_ ?_; exact BK317.out⟩, ⟨bel_⟩⟩
       case rest =>
        clear HC13
        try clear c1
        try clear c2
        try clear p2
        try clear c3
        try clear p3
        try clear q3
        try clear hx3
        try clear c4
        try clear c9
        try clear c10
        try clear c10b0
        try clear c11
        try clear c11b0
        try clear c12
        try clear c12b0
        try clear c15
        try clear hx322_0
        try clear hx322_1
        try clear hx322_2
        try clear hx322_3
        try clear hx322_4
        try clear p2
        try clear p322
        try clear q322
        obtain ⟨kq, x28_12, rfl, HA, HJ12, HO_1, HO_6, HO_16, BK317, HB⟩ := hcut
        cases kq with
        | zero => exact absurd HA.out (by simp [clause_Filter.j1])
        | succ kj12 =>
         have H := HA.out
         clear HA
         simp only [clause_Filter.j1] at H
         by_cases c23 : x28_12 = true
         ·
          subst c23
          rw [if_pos rfl] at H
          have H' := Aside0.mk H
          clear H
          go_wp2
          go_roundg kj12
          case measure => have := HK1.out; have := HJ12.out; omega
          case rel => exact ⟨(x7_1), (wrap64 (x18_1 + 1)), eq_, eq_, H', ⟨by have := HK1.out; have := HJ12.out; omega⟩, ⟨by refine vV_ ?_; exact HO_1.out⟩, ⟨by refine vN_ ?_; exact HO_6.out⟩, ⟨by refine vV_ ?_; exact HO_16.out⟩, ⟨by refine bk_ ?_; exact BK317.out⟩, ⟨bel_⟩⟩
         ·
          replace c23 := Bool.eq_false_iff.mpr c23
          subst c23
          have H1 : (if x7_1 ≥ 0 then (some (t319, true)) else (clause_Filter.l0 kj12 l1 t319 x18_1 l1 (l1.length : Int) (wrap64 (x18_1 + 1)) a0_0 l0_1 l0_2 l0_3 l0_4 l0_5 a0_6 l0_7)) = some (r1, r2) := by rw [if_neg (show ¬ (false = true) by decide)] at H; exact H
          clear H
          have H := H1
          clear H1
          by_cases c24 : x7_1 ≥ 0
          ·
           rw [if_pos c24] at H
           have c24b0 : decide (0 ≤ x7_1) = true := decide_eq_true c24
           clear c24
           simp only [Option.some.injEq, Prod.mk.injEq] at H
           obtain ⟨rfl, rfl⟩ := H
           go_wp2
           go_ret2
           exact ⟨_, by first | rfl | (simp [errW_none, errW_some] <;> rfl) | (simp [*, errW_none, errW_some] <;> rfl), by refine vN_ ?_; exact Kd.N_mono HO_6.out (fun _ hk => hk.1), bel_⟩
          ·
           rw [if_neg c24] at H
           have c24b0 : decide (0 ≤ x7_1) = false := decide_eq_false c24
           clear c24
           have H' := Aside0.mk H
           clear H
           go_wp2
           go_roundg kj12
           case measure => have := HK1.out; have := HJ12.out; omega
           case rel => exact ⟨(x18_1), (wrap64 (x18_1 + 1)), eq_, eq_, H', ⟨by have := HK1.out; have := HJ12.out; omega⟩, ⟨by refine vV_ ?_; exact HO_1.out⟩, ⟨by refine vN_ ?_; exact HO_6.out⟩, ⟨by refine vV_ ?_; exact HO_16.out⟩, ⟨by refine bk_ ?_; exact BK317.out⟩, ⟨bel_⟩⟩
      ·
       rw [if_neg c12] at H
       exact absurd H (by simp)
     ·
      rw [if_neg c11] at H
      exact absurd H (by simp)
    ·
     rw [if_neg c10] at H
     have c10b0 : decide (x18_1 < (l1.length : Int)) = false := decide_eq_false c10
     clear c10
     by_cases c25 : x7_1 < 0
     ·
      rw [if_pos c25] at H
      have c25b0 : decide (x7_1 < 0) = true := decide_eq_true c25
      clear c25
      simp only [Option.some.injEq, Prod.mk.injEq] at H
      obtain ⟨rfl, rfl⟩ := H
      go_wp2
      go_ret2
      exact ⟨_, by first | rfl | (simp [errW_none, errW_some] <;> rfl) | (simp [*, errW_none, errW_some] <;> rfl), by first | exact Kd.S_nil _ _ _ _ _ | exact Kd.N_nil _ _ _ _ _ | exact Kd.V_nil _ _ _ _ _ | exact Kd.Q_nil _ _ _ _ _ | exact Kd.R_nil _ _ _ _ _, bel_⟩
     ·
      rw [if_neg c25] at H
      have c25b0 : decide (x7_1 < 0) = false := decide_eq_false c25
      clear c25
      by_cases c26 : 0 ≤ x7_1
      ·
       rw [if_pos c26] at H
       have c26b0 : decide (0 ≤ x7_1) = true := decide_eq_true c26
       clear c26
       by_cases c27 : x7_1 < (l1.length : Int)
       ·
        rw [if_pos c27] at H
        have c27b0 : decide (x7_1 < (l1.length : Int)) = true := decide_eq_true c27
        clear c27
        replace H := Option.bind_eq_some_iff.mp H
        obtain ⟨t327, A280, H⟩ := H
        try dsimp only at H
        have A28 := Aside0.mk A280
        clear A280
        replace H := Option.bind_eq_some_iff.mp H
        obtain ⟨⟨t328, t329, t332, t333, t334, t335⟩, A290, H⟩ := H
        try dsimp only at H
        have A29 := Aside0.mk A290
        clear A290
        by_cases c30 : x7_1 < (t319.length : Int)
        ·
         rw [if_pos c30] at H
         have c30b0 : decide (x7_1 < (t319.length : Int)) = true := decide_eq_true c30
         clear c30
         obtain ⟨y336, hy336⟩ : ∃ y_ : List (S58), y_ = (t319.set (x7_1 : Int).toNat (⟨t328, t329, t332, t333, t334⟩ : S58)) := ⟨_, rfl⟩
         replace H : (some (y336, true)) = some (r1, r2) := by first | (rw [hy336]; with_reducible exact H) | (have H2_ := (Option.bind_some _ _).symm.trans H; rw [hy336]; with_reducible exact H2_) | (have H2_ := (Option.bind_some _ _).symm.trans H; with_reducible exact H2_) | with_reducible exact H | (rw [hy336]; exact H) | exact H
         have Ny336 := Aside0.mk hy336
         clear hy336
         simp only [Option.some.injEq, Prod.mk.injEq] at H
         obtain ⟨rfl, rfl⟩ := H
         try go_wp2
         replace HO_1 := Aside0.mk (Kd.V_drew HO_1.out)
         replace HO_6 := Aside0.mk (Kd.N_drew HO_6.out)
         replace BK317 := Aside0.mk (blk_drew BK317.out)
         replace HB := Aside0.mk (below_drew1 HB.out)
         have p326 : 0 ≤ (x7_1 : Int) := dq_
         have q326 : x7_1 < (l1.length : Int) := dq_
         obtain ⟨ad326, A326_1, c326_1, e326, hx326_0, hx326_1, hx326_2, hx326_3, hx326_4, hl326_1, hi326_1⟩ := at_T58 (Kd.V_reads' HO_1.out).2.2 x7_1 p326 q326
         cases e326
         obtain ⟨ce326, hce326, hMe326, hcc326⟩ := Kd.V_get HO_1.out z58 x7_1 p326 (by first | exact q326 | exact dq_ | (have e_ := (Kd.V_reads' HO_1.out).1; omega))
         obtain ⟨ua326_1, uc326_1, rfl, ul326_1, ge326_1⟩ := k58_openF hMe326
         have hv326_1 := hcc326 1 _ rfl
         rw [add_field _ _ 1 (by omega)] at hv326_1
         replace hv326_1 := Option.some.inj (hv326_1.symm.trans hx326_1)
         injection hv326_1 with hva_ hvn_ hvc_
         rw [hva_] at ge326_1
         rw [hvc_] at ul326_1
         have HL326_1 := Aside0.mk (show Kd.V (Kd.int .u64) 80 _ w.heap.size _ _ ((rd_T58 l1 x7_1).f1) from Kd.V_mk ul326_1 ge326_1)
         clear hva_ hvn_ hvc_ ge326_1 ul326_1
         clear hcc326 hce326
         have HC326_1 := Aside0.mk hl326_1
         clear hi326_1 hl326_1
         replace p326 := eq_true p326
         replace q326 := eq_true q326
         refine start_ (n := 15) (S := fun w' => w'.cell? ⟨gb317, 0, none⟩ = some (.int .i64 a0_0) ∧ w'.cell? ⟨gb317, 1, none⟩ = some (.slice A0_1 l0_1.length c0_1) ∧ w'.cell? ⟨gb317, 2, none⟩ = some (.slice A0_2 l0_2.length c0_2) ∧ w'.cell? ⟨gb317, 3, none⟩ = some (.slice A0_3 l0_3.length c0_3) ∧ w'.cell? ⟨gb317, 4, none⟩ = some (.slice A0_4 l0_4.length c0_4) ∧ w'.cell? ⟨gb317, 5, none⟩ = some (.slice A0_5 l0_5.length c0_5) ∧ w'.cell? ⟨gb317, 6, none⟩ = some (.int .i64 a0_6) ∧ w'.cell? ⟨gb317, 7, none⟩ = some (.slice A0_7 l0_7.length c0_7) ∧ w'.cell? (ad326.add ((x7_1).toNat * 5)) = some (.int .i64 ((rd_T58 l1 x7_1).f0)) ∧ w'.cell? ⟨(ad326.add ((x7_1).toNat * 5)).block, (ad326.add ((x7_1).toNat * 5)).off + 1, none⟩ = some (.slice A326_1 ((rd_T58 l1 x7_1).f1).length c326_1) ∧ w'.cell? ⟨(ad326.add ((x7_1).toNat * 5)).block, (ad326.add ((x7_1).toNat * 5)).off + 2, none⟩ = some (.int .i64 ((rd_T58 l1 x7_1).f2)) ∧ w'.cell? ⟨(ad326.add ((x7_1).toNat * 5)).block, (ad326.add ((x7_1).toNat * 5)).off + 3, none⟩ = some (.int .i64 ((rd_T58 l1 x7_1).f3)) ∧ w'.cell? ⟨(ad326.add ((x7_1).toNat * 5)).block, (ad326.add ((x7_1).toNat * 5)).off + 4, none⟩ = some (.int .i64 ((rd_T58 l1 x7_1).f4))) (ds := [14]) #[false, false, false, false, false, false, false, false, false, false, false, false, false, false, false] (by kernel_rfl) rfl rfl (cb8_ BK317.out ⟨hx326_0, hx326_1, hx326_2, hx326_3, hx326_4⟩) (fun hHeld => ?_); refine with_tabW clause_Filter.tab15 clause_Filter.bits15 (fun HT_ HW_ => ?_)
         generalize wr.drew = w32 at HO_1 HO_6 HO_16 BK317 HB HL326_1 hx326_0 hx326_1 hx326_2 hx326_3 hx326_4 hHeld ⊢
         refine pu_ (i := 0) (N := some 37) (any_of HT_.out (by kernel_rfl)) ?_
         refine pu_ (i := 1) (N := some 38) (any_of HT_.out (by kernel_rfl)) ?_
         refine pu_ (i := 2) (N := some 39) (any_of HT_.out (by kernel_rfl)) ?_
         refine pu_ (i := 3) (N := some 40) (any_of HT_.out (by kernel_rfl)) ?_
         refine pu_ (i := 4) (N := some 41) (any_of HT_.out (by kernel_rfl)) ?_
         refine pu_ (i := 7) (N := some 44) (any_of HT_.out (by kernel_rfl)) ?_
         refine tak_ (i := 5) (N := some 42) (take_ofW HT_.out HW_.out (by kernel_rfl)) hHeld ?_
         refine tak_ (i := 6) (N := some 43) (take_ofW HT_.out HW_.out (by kernel_rfl)) hHeld ?_
         refine one_ (i := 8) (N := some 45) #[true, true, true, true, true, true, true, true, true, false, false, false, false, false, false] rfl rfl (one_of HT_.out (by kernel_rfl)) (by decide) (fun K hK => ?_)
         refine goes_ Tryz.func28 (by kernel_rfl) rfl #[.agg #[.int .i64 a0_0, .slice A0_1 l0_1.length c0_1, .slice A0_2 l0_2.length c0_2, .slice A0_3 l0_3.length c0_3, .slice A0_4 l0_4.length c0_4, .slice A0_5 l0_5.length c0_5, .int .i64 a0_6, .slice A0_7 l0_7.length c0_7], .int .i64 x7_1] (by rfl) rfl rfl ar_ ?_
         with_reducible refine (clause_want.calls a0_0 _ _ l0_1 _ _ l0_2 _ _ l0_3 _ _ l0_4 _ _ l0_5 a0_6 _ _ l0_7 x7_1 t327 _ ?_ ?_ ?_ ?_ ?_ ?_ ?_ ?_ ?_ ?_ ?_ ?_ A28.out).mono ?_
         exact ca_ ((Kd.C_below HR0_1.out HB.out))
         exact HC0_1.out
         exact ca_ ((Kd.C_below HR0_2.out HB.out))
         exact HC0_2.out
         exact ca_ ((Kd.C_below HR0_3.out HB.out))
         exact HC0_3.out
         exact ca_ ((Kd.C_below HR0_4.out HB.out))
         exact HC0_4.out
         exact ca_ ((Kd.C_below HR0_5.out HB.out))
         exact HC0_5.out
         exact ca_ ((Kd.C_below HR0_7.out HB.out))
         exact HC0_7.out
         rintro e w33 ⟨rfl, hb⟩
         have HS8_ := (hb.cell (World.block_lt_of_cell? _ _ (hHeld.2.2.2.2.2.2.2.2.1))).trans (hHeld.2.2.2.2.2.2.2.2.1)
         have HS9_ := (hb.cell (World.block_lt_of_cell? _ _ (hHeld.2.2.2.2.2.2.2.2.2.1))).trans (hHeld.2.2.2.2.2.2.2.2.2.1)
         have HS10_ := (hb.cell (World.block_lt_of_cell? _ _ (hHeld.2.2.2.2.2.2.2.2.2.2.1))).trans (hHeld.2.2.2.2.2.2.2.2.2.2.1)
         have HS11_ := (hb.cell (World.block_lt_of_cell? _ _ (hHeld.2.2.2.2.2.2.2.2.2.2.2.1))).trans (hHeld.2.2.2.2.2.2.2.2.2.2.2.1)
         have HS12_ := (hb.cell (World.block_lt_of_cell? _ _ (hHeld.2.2.2.2.2.2.2.2.2.2.2.2))).trans (hHeld.2.2.2.2.2.2.2.2.2.2.2.2)
         refine ⟨_, rfl, ?_⟩
         replace HO_6 := Aside0.mk (Kd.N_below (vN_ HO_6.out) hb)
         replace HL326_1 := Aside0.mk (Kd.V_below (vV_ HL326_1.out) hb)
         replace BK317 := Aside0.mk (blk_below (bk_ BK317.out) hb)
         replace HB := Aside0.mk (below_step bel_ hb)
         clear hb
         refine hK.out _ _ (cb8_ BK317.out ⟨HS8_, HS9_, HS10_, HS11_, HS12_⟩) (fun hHeld => ?_)
         clear hK K
         refine nor_ (N := some 45) ?_
         refine one_ (i := 9) (N := some 46) #[true, true, true, true, true, true, true, true, true, true, false, false, false, false, false] rfl rfl (one_of HT_.out (by kernel_rfl)) (by decide) (fun K hK => ?_)
         refine goes_ Tryz.func29 (by kernel_rfl) rfl #[.agg #[.int .i64 ((rd_T58 l1 x7_1).f0), .slice A326_1 ((rd_T58 l1 x7_1).f1).length c326_1, .int .i64 ((rd_T58 l1 x7_1).f2), .int .i64 ((rd_T58 l1 x7_1).f3), .int .i64 ((rd_T58 l1 x7_1).f4)], .int .i64 t327] (by rfl) rfl rfl ar_ ?_
         with_reducible refine (dom_Dom_Only.calls k1 ((rd_T58 l1 x7_1).f0) (fun k_ => ((P1_ k_ ∨ w.heap.size ≤ k_) ∧ (some k_ ≠ (v320 : Value).ownBlock ∧ k_ ≠ gb317))) _ _ ((rd_T58 l1 x7_1).f1) ((rd_T58 l1 x7_1).f2) ((rd_T58 l1 x7_1).f3) ((rd_T58 l1 x7_1).f4) t327 t328 t329 t332 t333 t334 t335 _ ?_ ?_ A29.out).mono ?_
         exact HL326_1.out
         exact ca_ ((Kd.C_below HRtab.out HB.out))
         rintro e w34 ⟨v330, rfl, ho0, hb⟩
         have HS8_ := (hb.cell (World.block_lt_of_cell? _ _ (hHeld.2.2.2.2.2.2.2.2.1))).trans (hHeld.2.2.2.2.2.2.2.2.1)
         have HS9_ := (hb.cell (World.block_lt_of_cell? _ _ (hHeld.2.2.2.2.2.2.2.2.2.1))).trans (hHeld.2.2.2.2.2.2.2.2.2.1)
         have HS10_ := (hb.cell (World.block_lt_of_cell? _ _ (hHeld.2.2.2.2.2.2.2.2.2.2.1))).trans (hHeld.2.2.2.2.2.2.2.2.2.2.1)
         have HS11_ := (hb.cell (World.block_lt_of_cell? _ _ (hHeld.2.2.2.2.2.2.2.2.2.2.2.1))).trans (hHeld.2.2.2.2.2.2.2.2.2.2.2.1)
         have HS12_ := (hb.cell (World.block_lt_of_cell? _ _ (hHeld.2.2.2.2.2.2.2.2.2.2.2.2))).trans (hHeld.2.2.2.2.2.2.2.2.2.2.2.2)
         refine ⟨_, rfl, ?_⟩
         have HO331 := Aside0.mk (Kd.V_lower (Kd.V_mono (ok' := fun k_ => (P1_ k_ ∨ w.heap.size ≤ k_) ∧ some k_ ≠ (v320 : Value).ownBlock ∧ k_ ≠ gb317) ho0 (fun k_ hk_ => ⟨Or.elim hk_ (fun hs_ => hs_.1) (fun hn_ => (.inr (Nat.le_trans (below_size bel_) hn_))), Or.elim hk_ (fun hs_ => hs_.2.1) (fun hn_ => (Kd.fresh' (Kd.N_lt (vN_ HO_6.out)) k_ hn_)), Or.elim hk_ (fun hs_ => hs_.2.2) (fun hn_ => (Kd.freshB (bk_ BK317.out) k_ hn_))⟩)) (below_size bel_))
         replace HO_6 := Aside0.mk (Kd.N_below (vN_ HO_6.out) hb)
         replace BK317 := Aside0.mk (blk_below (bk_ BK317.out) hb)
         replace HB := Aside0.mk (below_step bel_ hb)
         obtain ⟨Ao_v330, co_v330, eo_v330⟩ := Kd.V_slice HO331.out
         subst eo_v330
         clear hb ho0
         have p31 : 0 ≤ (x7_1 : Int) := dq_
         have q31 : (x7_1 : Int) < ((t319.length : Int) : Int) := dq_
         obtain ⟨go31, co31, eo31, gb31, gl31, cl31, HG31⟩ := Kd.N_form HO_6.out (by omega)
         (first | cases eo31 | (injection eo31 with ea_ en_ ec_; (first | subst ea_ | (injection ea_ with ea_; subst ea_)); subst ec_; clear en_))
         have GB31 := Aside0.mk gb31
         have GG31 := Aside0.mk HG31
         clear gb31 gl31 HG31
         obtain ⟨ce31, hcl31, hM31, hcc31, hfr31⟩ := Kd.N_elem HO_6.out z58 (x7_1 : Int) p31 q31
         obtain ⟨ua31_1, uc31_1, rfl, ul31_1, ge31_1⟩ := k58_openF hM31
         have hx31_0 : World.cell? _ ⟨go31, (x7_1 : Int).toNat * 5, none⟩ = some (.int .i64 ((rd_T58 t319 x7_1).f0)) := hcc31 0 _ rfl
         have hx31_1 : World.cell? _ ⟨go31, (x7_1 : Int).toNat * 5 + 1, none⟩ = some (.slice ua31_1 ((rd_T58 t319 x7_1).f1).length uc31_1) := hcc31 1 _ rfl
         have hx31_2 : World.cell? _ ⟨go31, (x7_1 : Int).toNat * 5 + 2, none⟩ = some (.int .i64 ((rd_T58 t319 x7_1).f2)) := hcc31 2 _ rfl
         have hx31_3 : World.cell? _ ⟨go31, (x7_1 : Int).toNat * 5 + 3, none⟩ = some (.int .i64 ((rd_T58 t319 x7_1).f3)) := hcc31 3 _ rfl
         have hx31_4 : World.cell? _ ⟨go31, (x7_1 : Int).toNat * 5 + 4, none⟩ = some (.int .i64 ((rd_T58 t319 x7_1).f4)) := hcc31 4 _ rfl
         have hf31_0 : World.frozen? _ ⟨go31, (x7_1 : Int).toNat * 5, none⟩ = false := hfr31 0
         have hf31_1 : World.frozen? _ ⟨go31, (x7_1 : Int).toNat * 5 + 1, none⟩ = false := hfr31 1
         have hf31_2 : World.frozen? _ ⟨go31, (x7_1 : Int).toNat * 5 + 2, none⟩ = false := hfr31 2
         have hf31_3 : World.frozen? _ ⟨go31, (x7_1 : Int).toNat * 5 + 3, none⟩ = false := hfr31 3
         have hf31_4 : World.frozen? _ ⟨go31, (x7_1 : Int).toNat * 5 + 4, none⟩ = false := hfr31 4
         clear hcl31 hcc31 hfr31 hM31
         replace p31 := eq_true p31
         replace q31 := eq_true q31
         have HX35 := Aside0.mk (show Kd.N k58 58 _ w.heap.size (fun k_ => (P1_ k_ ∨ w.heap.size ≤ k_) ∧ k_ ≠ gb317) (.slice (some ⟨go31, 0, none⟩) t319.length co31) t319 from (Kd.N_mono (HO_6.out) (fun k_ hk => ⟨hk.1, hk.2⟩)))
         obtain ⟨ce35, hcl35, hM35, hcc35, hfr35⟩ := Kd.N_elem HX35.out z58 (x7_1 : Int) (dq_) (by have h_ : (x7_1 : Int) < ((t319.length : Int) : Int) := dq_; first | exact h_ | (have e_ := (Kd.N_reads' HO_6.out).1; omega) | simpa using h_)
         obtain ⟨ua35_1, uc35_1, rfl, ul35_1, ge35_1⟩ := k58_openF hM35
         have HP35 := (Kd.N_seg HX35.out (x7_1 : Int) (dq_) (by have h_ : (x7_1 : Int) < ((t319.length : Int) : Int) := dq_; first | exact h_ | (have e_ := (Kd.N_reads' HO_6.out).1; omega) | simpa using h_) (seg := [.int .i64 t328, (.slice Ao_v330 t329.length co_v330), .int .i64 t332, .int .i64 t333, .int .i64 t334]) (j := 0) hcl35 hcc35 (show 5 ≤ 5 from by decide) (x' := (⟨t328, t329, t332, t333, t334⟩ : S58)) (k58_mkF _ _ (⟨t328, t329, t332, t333, t334⟩ : S58) (Kd.V_reads' (Kd.V_mono (ok' := (fun k_ => ((fun k_ => (P1_ k_ ∨ w.heap.size ≤ k_) ∧ k_ ≠ gb317)) k_ ∧ k_ ≠ go31)) (HO331.out) (fun k_ hk => ⟨⟨hk.1, hk.2.2⟩, fun e_ => (hk.2.1) (by rw [e_]; rfl)⟩))).2.1 (Kd.V_F (Kd.V_mono (ok' := (fun k_ => ((fun k_ => (P1_ k_ ∨ w.heap.size ≤ k_) ∧ k_ ≠ gb317)) k_ ∧ k_ ≠ go31)) (HO331.out) (fun k_ hk => ⟨⟨hk.1, hk.2.2⟩, fun e_ => (hk.2.1) (by rw [e_]; rfl)⟩)))) (fun _ hk => hk)).1
         rw [← Ny336.out] at HP35
         have HQ35 := Aside0.mk HP35
         clear hcl35 hcc35 hfr35 hM35 HP35
         refine hK.out _ _ (cb8_ BK317.out ⟨HS8_, HS9_, HS10_, HS11_, HS12_⟩) (fun hHeld => ?_)
         clear hK K
         refine nor_ (N := some 46) ?_
         refine pu_ (i := 10) (N := some 36) (any_of HT_.out (by kernel_rfl)) ?_
         refine pu_ (i := 11) (N := some 47) (any_of HT_.out (by kernel_rfl)) ?_
         refine pu_ (i := 12) (N := some 48) (any_of HT_.out (by kernel_rfl)) ?_
         refine pu_ (i := 13) (N := some 49) (any_of HT_.out (by kernel_rfl)) ?_
         refine last_ (i := 14) (N := none) #[true, true, true, true, true, true, true, true, true, true, true, true, true, true, true] rfl rfl (one_of HT_.out (by kernel_rfl)) (by decide) (fun K hK => ?_)
         refine skip_ (w1 := ?_) (by rfl) rfl ?_ ?_
         rotate_left
         ·
          go_simp
          rfl
         refine hK.out _ _ ?_
         clear hK K
         refine done_ (done_of HT_.out (by kernel_rfl)) ?_
         try go_wp2
         go_ret2
         exact ⟨_, by first | rfl | (simp [errW_none, errW_some] <;> rfl) | (simp [*, errW_none, errW_some] <;> rfl), by refine vN_ ?_; exact Kd.N_mono HQ35.out (fun _ hk => hk.1), by repeat (first | (with_reducible first | exact HB.out | apply below_alloc | apply pw_below_drewN | apply below_drew1 | refine below_set ?_ GB31.out | refine below_set ?_ GB31.out | refine below_set ?_ GB31.out | refine below_set ?_ GB31.out | refine below_set ?_ GB31.out | refine below_set ?_ GE317.out) | exact HB.out)⟩
        ·
         rw [if_neg c30] at H
         exact absurd H (by simp)
       ·
        rw [if_neg c27] at H
        exact absurd H (by simp)
      ·
       rw [if_neg c26] at H
       exact absurd H (by simp)
 ·
  replace c4 := Bool.eq_false_iff.mpr c4
  subst c4
  have H1 : (none) = some (r1, r2) := by rw [if_neg (show ¬ (false = true) by decide)] at H; exact H
  clear H
  have H := H1
  clear H1
  exact absurd H (by simp)


/-! ### dom_Of_1: function 61 -/
def dom_Of_1.f (a0 : Int) : Option (Bool) := (dom_in.f a0).bind fun t337 => (some (!t337))
set_option maxHeartbeats 8000000 in
set_option maxRecDepth 100000 in
theorem dom_Of_1.calls (a0 : Int) (r : Bool) (w : World) (h : dom_Of_1.f a0 = some r) :
  Calls Tryz.prog 61 #[.int .i64 a0] w fun e w' => e = .returned (.bool r) ∧ Drawn0 w w' := by
 unfold dom_Of_1.f at h
 have H := h
 clear h
 replace H := Option.bind_eq_some_iff.mp H
 obtain ⟨t337, A20, H⟩ := H
 try dsimp only at H
 have A2 := Aside0.mk A20
 clear A20
 obtain rfl := Option.some.inj H
 go_enter Tryz.func61, Tryz.ntmps61
 go_wp2_with (first | ((with_reducible refine gate_callee (f := 50) rfl ?_); refine goesL_ (some 4) rfl rfl Tryz.func50 (by kernel_rfl) rfl #[.int .i64 a0] rfl ar_ ?_; (with_reducible refine (dom_in.calls a0 t337 _ A2.out).mono ?_); rintro e w' ⟨rfl, ⟨nd, rfl⟩⟩; refine ⟨_, rfl, ?_⟩))
 go_ret
 exact ⟨by first | rfl | (simp; done) | (simp [*]; done), by repeat (first | exact Drawn0.refl _ | apply Drawn0.step)⟩

/-! ### slices_Max_int: function 62 -/
def slices_Max_int.f (l0 : List Int) : Option Int := if l0 = [] then none else some (l0.foldl mx (rd l0 0))
theorem slices_Max_int.calls (A0 : Option Addr) (c0 : Nat) (l0 : List Int) (r : Int) (w : World) (hr0 : Kd.C (Kd.int .i64) w A0 l0.length l0) (hc0 : l0.length ≤ c0) (h : slices_Max_int.f l0 = some r) :
  Calls Tryz.prog 62 #[.slice A0 l0.length c0] w fun e w' => e = .returned (.int .i64 r) ∧ Drawn0 w w' := by
 unfold slices_Max_int.f at h
 by_cases hn : l0 = []
 ·
  rw [if_pos hn] at h; cases h
 rw [if_neg hn] at h
 have hn0 : 0 < l0.length := by cases l0 with | nil => exact absurd rfl hn | cons => simp
 have hbig : l0.length ≤ 9223372036854775807 := hr0.2.1
 have HE := Aside0.mk (Option.some.inj h)
 have HR := Aside0.mk hr0
 have hl1 : decide (l0.length < 1) = false := decide_eq_false (by omega)
 have hl2 : decide ((l0.length : Int) < 1) = false := decide_eq_false (by omega)
 obtain ⟨ad, rfl, hcell0⟩ := Kd.at_int HR.out 0 (by omega) (by omega)
 clear h hr0 hn
 have hc1 : w.cell? (ad.add 0) = some (.int .i64 (rd l0 0)) := hcell0
 have hc2 : w.cell? ad = some (.int .i64 (rd l0 0)) := (show ad.add 0 = ad by cases ad; simp [Addr.add]) ▸ hc1
 clear hcell0
 go_enter Tryz.func62, Tryz.ntmps62
 go_wp2
 go_loopg [3, 4] l0.length (fun gg s4 s5 wr => ∃ kk : Nat, kk ≤ l0.length ∧ 1 ≤ kk ∧ l0.length - kk ≤ gg ∧ s5 = .int .i64 kk ∧ s4 = .int .i64 ((l0.take kk).foldl mx (rd l0 0)) ∧ Aside0 (Drawn0 w wr))
 case atStart => exact ⟨1, by omega, by omega, by omega, rfl, by rw [show (1 : Nat) = 0 + 1 from rfl, fold_step hn0]; show Value.int .i64 (rd l0 0) = .int .i64 (mx (rd l0 0) (rd l0 0)); rw [mx_self], ⟨Drawn0.refl _⟩⟩
 case round =>
  obtain ⟨kk, hkk, h1, hg, rfl, rfl, BW⟩ := hrel
  obtain ⟨⟨m, rfl⟩⟩ := BW
  by_cases hlt : kk < l0.length
  ·
   have hltz : (kk : Int) < (l0.length : Int) := by omega
   obtain ⟨ad', had, hcell⟩ := Kd.at_int HR.out (kk : Int) (by omega) hltz
   obtain rfl := Option.some.inj had
   rw [Int.toNat_natCast] at hcell
   have hcell' : (w.drewN m).cell? (ad.add kk) = some (.int .i64 (rd l0 kk)) := by rw [World.cell?_drewN]; exact hcell
   have HS := Aside0.mk (fold_step (op := mx) (z := rd l0 0) hlt)
   clear hcell had
   generalize (l0.take kk).foldl mx (rd l0 0) = y at *
   go_wp2
   all_goals
    go_roundg (l0.length - (kk + 1))
    case measure => omega
    case rel =>
     exact ⟨kk + 1, by omega, by omega, by omega, by go_num, by rw [HS.out]; unfold mx; first | rw [if_pos (by omega)] | rw [if_neg (by omega)], ⟨⟨_, rfl⟩⟩⟩
  ·
   have : kk = l0.length := by omega
   subst this
   have HS := Aside0.mk (show (l0.take l0.length).foldl mx (rd l0 0) = r by rw [List.take_length]; exact HE.out)
   generalize (l0.take l0.length).foldl mx (rd l0 0) = y at *
   go_wp2
   go_ret
   exact ⟨by rw [HS.out]; rfl, ⟨_, rfl⟩⟩

/-! ### slices_Min_int: function 63 -/
def slices_Min_int.f (l0 : List Int) : Option Int := if l0 = [] then none else some (l0.foldl mn (rd l0 0))
theorem slices_Min_int.calls (A0 : Option Addr) (c0 : Nat) (l0 : List Int) (r : Int) (w : World) (hr0 : Kd.C (Kd.int .i64) w A0 l0.length l0) (hc0 : l0.length ≤ c0) (h : slices_Min_int.f l0 = some r) :
  Calls Tryz.prog 63 #[.slice A0 l0.length c0] w fun e w' => e = .returned (.int .i64 r) ∧ Drawn0 w w' := by
 unfold slices_Min_int.f at h
 by_cases hn : l0 = []
 ·
  rw [if_pos hn] at h; cases h
 rw [if_neg hn] at h
 have hn0 : 0 < l0.length := by cases l0 with | nil => exact absurd rfl hn | cons => simp
 have hbig : l0.length ≤ 9223372036854775807 := hr0.2.1
 have HE := Aside0.mk (Option.some.inj h)
 have HR := Aside0.mk hr0
 have hl1 : decide (l0.length < 1) = false := decide_eq_false (by omega)
 have hl2 : decide ((l0.length : Int) < 1) = false := decide_eq_false (by omega)
 obtain ⟨ad, rfl, hcell0⟩ := Kd.at_int HR.out 0 (by omega) (by omega)
 clear h hr0 hn
 have hc1 : w.cell? (ad.add 0) = some (.int .i64 (rd l0 0)) := hcell0
 have hc2 : w.cell? ad = some (.int .i64 (rd l0 0)) := (show ad.add 0 = ad by cases ad; simp [Addr.add]) ▸ hc1
 clear hcell0
 go_enter Tryz.func63, Tryz.ntmps63
 go_wp2
 go_loopg [3, 4] l0.length (fun gg s4 s5 wr => ∃ kk : Nat, kk ≤ l0.length ∧ 1 ≤ kk ∧ l0.length - kk ≤ gg ∧ s5 = .int .i64 kk ∧ s4 = .int .i64 ((l0.take kk).foldl mn (rd l0 0)) ∧ Aside0 (Drawn0 w wr))
 case atStart => exact ⟨1, by omega, by omega, by omega, rfl, by rw [show (1 : Nat) = 0 + 1 from rfl, fold_step hn0]; show Value.int .i64 (rd l0 0) = .int .i64 (mn (rd l0 0) (rd l0 0)); rw [mn_self], ⟨Drawn0.refl _⟩⟩
 case round =>
  obtain ⟨kk, hkk, h1, hg, rfl, rfl, BW⟩ := hrel
  obtain ⟨⟨m, rfl⟩⟩ := BW
  by_cases hlt : kk < l0.length
  ·
   have hltz : (kk : Int) < (l0.length : Int) := by omega
   obtain ⟨ad', had, hcell⟩ := Kd.at_int HR.out (kk : Int) (by omega) hltz
   obtain rfl := Option.some.inj had
   rw [Int.toNat_natCast] at hcell
   have hcell' : (w.drewN m).cell? (ad.add kk) = some (.int .i64 (rd l0 kk)) := by rw [World.cell?_drewN]; exact hcell
   have HS := Aside0.mk (fold_step (op := mn) (z := rd l0 0) hlt)
   clear hcell had
   generalize (l0.take kk).foldl mn (rd l0 0) = y at *
   go_wp2
   all_goals
    go_roundg (l0.length - (kk + 1))
    case measure => omega
    case rel =>
     exact ⟨kk + 1, by omega, by omega, by omega, by go_num, by rw [HS.out]; unfold mn; first | rw [if_pos (by omega)] | rw [if_neg (by omega)], ⟨⟨_, rfl⟩⟩⟩
  ·
   have : kk = l0.length := by omega
   subst this
   have HS := Aside0.mk (show (l0.take l0.length).foldl mn (rd l0 0) = r by rw [List.take_length]; exact HE.out)
   generalize (l0.take l0.length).foldl mn (rd l0 0) = y at *
   go_wp2
   go_ret
   exact ⟨by rw [HS.out]; rfl, ⟨_, rfl⟩⟩

/-! ### dom_room: function 64 -/
def dom_room.f (a0 : Int) (a1 : Int) : Option (Int × List Int × Int × Int × Int) := (dom_place.f a0).bind fun t339 => ((dom_place.f a1).bind fun t340 => ((dom_place.f a0).bind fun t341 => (if 0 ≤ (wrap64 ((wrap64 (Int.tdiv (wrap64 (t340 - t341)) 64)) + 1)) then (if (wrap64 ((wrap64 (Int.tdiv (wrap64 (t340 - t341)) 64)) + 1) : Int).toNat ≤ 35184372088832 then (some (t339, (List.replicate (wrap64 ((wrap64 (Int.tdiv (wrap64 (t340 - t341)) 64)) + 1) : Int).toNat 0), 0, 0, 0)) else (none)) else (none))))
set_option maxHeartbeats 8000000 in
set_option maxRecDepth 100000 in
theorem dom_room.calls (a0 : Int) (a1 : Int) (r1 : Int) (r2 : List Int) (r3 : Int) (r4 : Int) (r5 : Int) (w : World) (h : dom_room.f a0 a1 = some (r1, r2, r3, r4, r5)) :
  Calls Tryz.prog 64 #[.int .i64 a0, .int .i64 a1] w fun e w' => ∃ v1_ : Value, e = .returned (.agg #[.int .i64 r1, v1_, .int .i64 r3, .int .i64 r4, .int .i64 r5]) ∧ Kd.R (Kd.int .u64) 80 w' w.heap.size (fun _ => True) v1_ r2 ∧ Below w.heap.size w w' := by
 have hu58 := Tryz.underlying58
 have HB := Aside0.mk (Below.refl w.heap.size w)
 unfold dom_room.f at h
 have H := h
 clear h
 replace H := Option.bind_eq_some_iff.mp H
 obtain ⟨t339, A30, H⟩ := H
 try dsimp only at H
 have A3 := Aside0.mk A30
 clear A30
 replace H := Option.bind_eq_some_iff.mp H
 obtain ⟨t340, A40, H⟩ := H
 try dsimp only at H
 have A4 := Aside0.mk A40
 clear A40
 replace H := Option.bind_eq_some_iff.mp H
 obtain ⟨t341, A50, H⟩ := H
 try dsimp only at H
 have A5 := Aside0.mk A50
 clear A50
 obtain ⟨ji6, hji6⟩ : ∃ j_ : Int, (wrap64 ((wrap64 (Int.tdiv (wrap64 (t340 - t341)) 64)) + 1)) = j_ := ⟨_, rfl⟩
 replace H : (if 0 ≤ (ji6) then (if (ji6 : Int).toNat ≤ 35184372088832 then (some (t339, (List.replicate (ji6 : Int).toNat 0), 0, 0, 0)) else (none)) else (none)) = some (r1, r2, r3, r4, r5) := by first | (rw [hji6] at H; exact H) | (simp only [hji6] at H ⊢; exact H)
 (try rw [hji6] at A3)
 (try rw [hji6] at A4)
 (try rw [hji6] at A5)
 have hji6w : (IntKind.i64.wrap ((wrap64 (Int.tdiv (wrap64 (t340 - t341)) 64)) + 1)) = ji6 := (i64_w _).trans hji6
 by_cases c7 : 0 ≤ (ji6)
 ·
  rw [if_pos c7] at H
  have c7b0 := eq_true c7
  have c7b1 : decide (0 ≤ (ji6)) = true := decide_eq_true c7
  clear c7
  by_cases c8 : (ji6 : Int).toNat ≤ 35184372088832
  ·
   rw [if_pos c8] at H
   have c8b0 := eq_true c8
   have c8b1 : decide ((ji6 : Int).toNat ≤ 35184372088832) = true := decide_eq_true c8
   clear c8
   obtain ⟨y342, hy342⟩ : ∃ y_ : List Int, y_ = (List.replicate (ji6 : Int).toNat 0) := ⟨_, rfl⟩
   replace H : (some (t339, y342, 0, 0, 0)) = some (r1, r2, r3, r4, r5) := by first | (rw [hy342]; with_reducible exact H) | (have H2_ := (Option.bind_some _ _).symm.trans H; rw [hy342]; with_reducible exact H2_) | (have H2_ := (Option.bind_some _ _).symm.trans H; with_reducible exact H2_) | with_reducible exact H | (rw [hy342]; exact H) | exact H
   have Ny342 := Aside0.mk hy342
   clear hy342
   simp only [Option.some.injEq, Prod.mk.injEq] at H
   obtain ⟨rfl, rfl, rfl, rfl, rfl⟩ := H
   go_enter Tryz.func64, Tryz.ntmps64
   go_wp2_with (first | ((with_reducible refine gate_dst (N := 4) rfl ?_); refine bxe_ (N := 4) (cs := #[.int .i64 0, .slice none 0 0, .int .i64 0, .int .i64 0, .int .i64 0]) (t := 58) ?_; intro gb338 hg w9 hbox hb; have BK338 := Aside0.mk (hbox); have GW338 := Aside0.mk (by rw [hg]; exact (below_size bel_) : w.heap.size ≤ gb338); have GE338 := GW338; replace HB := Aside0.mk (below_step bel_ hb); clear hb hbox hg) | ((with_reducible refine gate_callee (f := 52) rfl ?_); refine goesL_ (some 6) rfl rfl Tryz.func52 (by kernel_rfl) rfl #[.int .i64 a0] rfl ar_ ?_; (with_reducible refine (dom_place.calls a0 t339 _ A3.out).mono ?_); rintro e w' ⟨rfl, ⟨nd, rfl⟩⟩; refine ⟨_, rfl, ?_⟩; (try (rw [drewN_self w9]; generalize hq_ : World.drewN w9 _ = w9; replace BK338 : Aside0 (w9.heap[gb338]? = some (.cells #[.int .i64 0, .slice none 0 0, .int .i64 0, .int .i64 0, .int .i64 0] 58 (0, 0))) := ⟨by rw [← hq_]; exact (bk_ BK338.out)⟩; replace HB : Aside0 (Below w.heap.size w w9) := ⟨by rw [← hq_]; exact bel_⟩; clear hq_)); (try (obtain ⟨_, _, _, _, _, _, _, _, _, _⟩ := cel5_ BK338.out))) | ((with_reducible refine gate_callee (f := 52) rfl ?_); refine goesL_ (some 8) rfl rfl Tryz.func52 (by kernel_rfl) rfl #[.int .i64 a1] rfl ar_ ?_; (with_reducible refine (dom_place.calls a1 t340 _ A4.out).mono ?_); rintro e w' ⟨rfl, ⟨nd, rfl⟩⟩; refine ⟨_, rfl, ?_⟩; (try (rw [drewN_self w9]; generalize hq_ : World.drewN w9 _ = w9; replace BK338 : Aside0 (w9.heap[gb338]? = some (.cells #[.int .i64 0, .slice none 0 0, .int .i64 0, .int .i64 0, .int .i64 0] 58 (0, 0))) := ⟨by rw [← hq_]; exact (bk_ BK338.out)⟩; replace HB : Aside0 (Below w.heap.size w w9) := ⟨by rw [← hq_]; exact bel_⟩; clear hq_)); (try (obtain ⟨_, _, _, _, _, _, _, _, _, _⟩ := cel5_ BK338.out))) | ((with_reducible refine gate_callee (f := 52) rfl ?_); refine goesL_ (some 10) rfl rfl Tryz.func52 (by kernel_rfl) rfl #[.int .i64 a0] rfl ar_ ?_; (with_reducible refine (dom_place.calls a0 t341 _ A5.out).mono ?_); rintro e w' ⟨rfl, ⟨nd, rfl⟩⟩; refine ⟨_, rfl, ?_⟩; (try (rw [drewN_self w9]; generalize hq_ : World.drewN w9 _ = w9; replace BK338 : Aside0 (w9.heap[gb338]? = some (.cells #[.int .i64 0, .slice none 0 0, .int .i64 0, .int .i64 0, .int .i64 0] 58 (0, 0))) := ⟨by rw [← hq_]; exact (bk_ BK338.out)⟩; replace HB : Aside0 (Below w.heap.size w w9) := ⟨by rw [← hq_]; exact bel_⟩; clear hq_)); (try (obtain ⟨_, _, _, _, _, _, _, _, _, _⟩ := cel5_ BK338.out))) | ((with_reducible refine gate_dst (N := 14) rfl ?_); refine Kd.R_make (Kd.int .u64) _ 80 rfl (N := 14) rfl 56 _ _ rfl ji6 rfl rfl Tryz.underlying56 (.int .u64 0) 8 info80 rfl (by decide) (by omega) 0 (ok := fun _ => True) (okp := fun _ => True) rfl (fun _ hk => hk) trivial (dq_) (Nat.le_trans (Nat.mul_le_mul_right _ (dq_ : ji6.toNat ≤ 35184372088832)) (by omega)) (Below.refl _ _) (Nat.le_refl _) ?_; intro v343 w13 ho14 hb hg_ hnew_; clear hg_ hnew_; (first | rw [← Ny342.out] at ho14 | (simp only [Int.reduceToNat] at ho14; rw [← Ny342.out] at ho14)); have HO344 := Aside0.mk (Kd.R_lower ho14 (below_size bel_)); replace BK338 := Aside0.mk (blk_below (bk_ BK338.out) hb); replace HB := Aside0.mk (below_step bel_ hb); clear hb ho14; obtain ⟨Ao15, co15, eo15⟩ := Kd.R_slice HO344.out; subst eo15; obtain ⟨_, _, _, _, _, _, _, _, _, _⟩ := cel5_ BK338.out))
   refine bodyPost_ret (results_cell_row rfl _ _ gb338 58 #[.int .i64 t339, .slice Ao15 y342.length co15, .int .i64 0, .int .i64 0, .int .i64 0] (0, 0) _ rfl (by refine bk_ ?_; refine blk_put (cs := #[.int .i64 t339, .slice Ao15 y342.length co15, .int .i64 0, .int .i64 0, .int .i64 0]) ?_ 4 _ rfl; refine bk_ ?_; refine blk_put (cs := #[.int .i64 t339, .slice Ao15 y342.length co15, .int .i64 0, .int .i64 0, .int .i64 0]) ?_ 3 _ rfl; refine bk_ ?_; refine blk_put (cs := #[.int .i64 t339, .slice Ao15 y342.length co15, .int .i64 0, .int .i64 0, .int .i64 0]) ?_ 2 _ rfl; refine bk_ ?_; refine blk_put (cs := #[.int .i64 t339, .slice none 0 0, .int .i64 0, .int .i64 0, .int .i64 0]) ?_ 1 _ rfl; refine bk_ ?_; refine blk_put (cs := #[.int .i64 0, .slice none 0 0, .int .i64 0, .int .i64 0, .int .i64 0]) ?_ 0 _ rfl; refine bk_ ?_; exact BK338.out) Tryz.underlying58 rfl (by kernel_rfl)) rfl ?_
   exact ⟨_, by first | rfl | (simp [errW_none, errW_some] <;> rfl) | (simp only [← hji6]; first | rfl | (simp [errW_none, errW_some] <;> rfl)) | (simp [*, errW_none, errW_some] <;> rfl), by refine vR_ ?_; exact Kd.R_mono (fR_ (fR_ (fR_ (fR_ (fR_ (Kd.R_types HO344.out BK338.out (by decide))))))) (fun _ hk => trivial), bel_⟩
  ·
   rw [if_neg c8] at H
   exact absurd H (by simp)
 ·
  rw [if_neg c7] at H
  exact absurd H (by simp)

/-! ### slices_IndexFunc_int_int_83_at_dom_Of_1: function 83 -/
def slices_IndexFunc_int_int_83_at_dom_Of_1.l0 : Nat → List Int → Int → Int → Option (Int)
 | 0, _, _, _ => none
 | k + 1, x0, x7, x8 => if x8 < x7 then (if 0 ≤ x8 then (if x8 < (x0.length : Int) then ((dom_Of_1.f (rd x0 x8)).bind fun t346 => (if t346 = true then (some x8) else (slices_IndexFunc_int_int_83_at_dom_Of_1.l0 k x0 x7 (wrap64 (x8 + 1))))) else (none)) else (none)) else (some (-1))
def slices_IndexFunc_int_int_83_at_dom_Of_1.f (k : Nat) (l0 : List Int)  : Option (Int) := slices_IndexFunc_int_int_83_at_dom_Of_1.l0 k l0 (l0.length : Int) 0
theorem slices_IndexFunc_int_int_83_at_dom_Of_1.mono_l : ∀ k, (∀ y0 y1 y2, LeO (slices_IndexFunc_int_int_83_at_dom_Of_1.l0 k y0 y1 y2) (slices_IndexFunc_int_int_83_at_dom_Of_1.l0 (k + 1) y0 y1 y2))
 | 0 => fun _ _ _ r h => by simp [slices_IndexFunc_int_int_83_at_dom_Of_1.l0] at h
 | k + 1 => by
  have ih0 := slices_IndexFunc_int_int_83_at_dom_Of_1.mono_l k
  ·
   intro y0 y1 y2
   unfold slices_IndexFunc_int_int_83_at_dom_Of_1.l0
   exact leo_
theorem slices_IndexFunc_int_int_83_at_dom_Of_1.mono : ∀ a0 k, LeO (slices_IndexFunc_int_int_83_at_dom_Of_1.f k a0) (slices_IndexFunc_int_int_83_at_dom_Of_1.f (k + 1) a0) := by
 intro a0 k
 have ih0 := slices_IndexFunc_int_int_83_at_dom_Of_1.mono_l k
 unfold slices_IndexFunc_int_int_83_at_dom_Of_1.f
 exact leo_
set_option maxHeartbeats 8000000 in
set_option maxRecDepth 100000 in
theorem slices_IndexFunc_int_int_83_at_dom_Of_1.calls (k : Nat) (A0 : Option Addr) (c0 : Nat) (l0 : List Int)  (r : Int) (w : World) (hr0 : Kd.C (Kd.int .i64) w A0 l0.length l0) (hc0 : l0.length ≤ c0) (h : slices_IndexFunc_int_int_83_at_dom_Of_1.f k l0 = some r) :
  Calls Tryz.prog 83 #[.slice A0 l0.length c0, .func (.func 61) #[] #[]] w fun e w' => e = .returned (.int .i64 r) ∧ Drawn0 w w' := by
 have HR0 := Aside0.mk hr0
 have HC0 := Aside0.mk hc0
 clear hr0 hc0
 unfold slices_IndexFunc_int_int_83_at_dom_Of_1.f at h
 have H := h
 clear h
 have H' := Aside0.mk H
 clear H
 go_enter Tryz.func83, Tryz.ntmps83
 go_wp2
 go_loopg [8] k (fun kq v8 w' => ∃ (x8_1 : Int), v8 = .int .i64 x8_1 ∧ Aside0 (slices_IndexFunc_int_int_83_at_dom_Of_1.l0 kq l0 (l0.length : Int) x8_1 = some r) ∧ Aside0 (kq ≤ k) ∧ Drawn0 w w')
 case atStart => exact ⟨(0), eq_, H', ⟨Nat.le_refl _⟩, by repeat (first | exact Drawn0.refl _ | apply Drawn0.step)⟩
 case round =>
  clear H'
  try clear p2
  obtain ⟨x8_1, rfl, HA, HK1, ⟨m1, rfl⟩⟩ := hrel
  cases gk with
  | zero => exact absurd HA.out (by simp [slices_IndexFunc_int_int_83_at_dom_Of_1.l0])
  | succ k1 =>
   have H := HA.out
   clear HA
   simp only [slices_IndexFunc_int_int_83_at_dom_Of_1.l0] at H
   by_cases c3 : x8_1 < (l0.length : Int)
   ·
    rw [if_pos c3] at H
    have c3b0 : decide (x8_1 < (l0.length : Int)) = true := decide_eq_true c3
    clear c3
    by_cases c4 : 0 ≤ x8_1
    ·
     rw [if_pos c4] at H
     have c4b0 : decide (0 ≤ x8_1) = true := decide_eq_true c4
     clear c4
     by_cases c5 : x8_1 < (l0.length : Int)
     ·
      rw [if_pos c5] at H
      have c5b0 : decide (x8_1 < (l0.length : Int)) = true := decide_eq_true c5
      clear c5
      replace H := Option.bind_eq_some_iff.mp H
      obtain ⟨t346, A60, H⟩ := H
      try dsimp only at H
      have A6 := Aside0.mk A60
      clear A60
      by_cases c7 : t346 = true
      ·
       subst c7
       rw [if_pos rfl] at H
       obtain rfl := Option.some.inj H
       have p345 : 0 ≤ (x8_1 : Int) := dq_
       have q345 : x8_1 < (l0.length : Int) := dq_
       obtain ⟨ad345, e345, hx345_0⟩ := Kd.at_int HR0.out x8_1 p345 q345
       cases e345
       replace p345 := eq_true p345
       replace q345 := eq_true q345
       go_wp2_with (first | (go_at_call 61; (with_reducible refine (dom_Of_1.calls (rd l0 x8_1) true _ A6.out).mono ?_); rintro e w' ⟨rfl, ⟨nd, rfl⟩⟩))
       go_ret
       exact ⟨by first | rfl | (simp; done) | (simp [*]; done), by repeat (first | exact Drawn0.refl _ | apply Drawn0.step)⟩
      ·
       replace c7 := Bool.eq_false_iff.mpr c7
       subst c7
       have H1 : (slices_IndexFunc_int_int_83_at_dom_Of_1.l0 k1 l0 (l0.length : Int) (wrap64 (x8_1 + 1))) = some r := by rw [if_neg (show ¬ (false = true) by decide)] at H; exact H
       clear H
       have H := H1
       clear H1
       have H' := Aside0.mk H
       clear H
       have p345 : 0 ≤ (x8_1 : Int) := dq_
       have q345 : x8_1 < (l0.length : Int) := dq_
       obtain ⟨ad345, e345, hx345_0⟩ := Kd.at_int HR0.out x8_1 p345 q345
       cases e345
       replace p345 := eq_true p345
       replace q345 := eq_true q345
       go_wp2_with (first | (go_at_call 61; (with_reducible refine (dom_Of_1.calls (rd l0 x8_1) false _ A6.out).mono ?_); rintro e w' ⟨rfl, ⟨nd, rfl⟩⟩))
       go_roundg k1
       case measure => have := HK1.out; omega
       case rel => exact ⟨(wrap64 (x8_1 + 1)), eq_, H', ⟨by have := HK1.out; omega⟩, by repeat (first | exact Drawn0.refl _ | apply Drawn0.step)⟩
     ·
      rw [if_neg c5] at H
      exact absurd H (by simp)
    ·
     rw [if_neg c4] at H
     exact absurd H (by simp)
   ·
    rw [if_neg c3] at H
    have c3b0 : decide (x8_1 < (l0.length : Int)) = false := decide_eq_false c3
    clear c3
    obtain rfl := Option.some.inj H
    go_wp2
    go_ret
    exact ⟨by first | rfl | (simp; done) | (simp [*]; done), by repeat (first | exact Drawn0.refl _ | apply Drawn0.step)⟩

/-! ### slices_ContainsFunc_int_int_60_at_dom_Of_1: function 60 -/
def slices_ContainsFunc_int_int_60_at_dom_Of_1.f (k : Nat) (l0 : List Int)  : Option (Bool) := (slices_IndexFunc_int_int_83_at_dom_Of_1.f k l0).bind fun t347 => (some (decide (t347 ≥ 0)))
theorem slices_ContainsFunc_int_int_60_at_dom_Of_1.mono : ∀ a0 k, LeO (slices_ContainsFunc_int_int_60_at_dom_Of_1.f k a0) (slices_ContainsFunc_int_int_60_at_dom_Of_1.f (k + 1) a0) := by
 intro a0 k
 unfold slices_ContainsFunc_int_int_60_at_dom_Of_1.f
 have m0 := @slices_IndexFunc_int_int_83_at_dom_Of_1.mono
 exact leo_
set_option maxHeartbeats 8000000 in
set_option maxRecDepth 100000 in
theorem slices_ContainsFunc_int_int_60_at_dom_Of_1.calls (k : Nat) (A0 : Option Addr) (c0 : Nat) (l0 : List Int)  (r : Bool) (w : World) (hr0 : Kd.C (Kd.int .i64) w A0 l0.length l0) (hc0 : l0.length ≤ c0) (h : slices_ContainsFunc_int_int_60_at_dom_Of_1.f k l0 = some r) :
  Calls Tryz.prog 60 #[.slice A0 l0.length c0, .func (.func 61) #[] #[]] w fun e w' => e = .returned (.bool r) ∧ Drawn0 w w' := by
 have HR0 := Aside0.mk hr0
 have HC0 := Aside0.mk hc0
 clear hr0 hc0
 unfold slices_ContainsFunc_int_int_60_at_dom_Of_1.f at h
 have H := h
 clear h
 replace H := Option.bind_eq_some_iff.mp H
 obtain ⟨t347, A30, H⟩ := H
 try dsimp only at H
 have A3 := Aside0.mk A30
 clear A30
 obtain rfl := Option.some.inj H
 go_enter Tryz.func60, Tryz.ntmps60
 go_wp2_with (first | ((with_reducible refine gate_callee (f := 83) rfl ?_); refine goesL_ (some 7) rfl rfl Tryz.func83 (by kernel_rfl) rfl #[.slice A0 l0.length c0, .func (.func 61) #[] #[]] rfl ar_ ?_; (with_reducible refine (slices_IndexFunc_int_int_83_at_dom_Of_1.calls k _ _ l0 t347 _ ?_ ?_ A3.out).mono ?_); exact ca_ (HR0.out); exact HC0.out; rintro e w' ⟨rfl, ⟨nd, rfl⟩⟩; refine ⟨_, rfl, ?_⟩))
 go_ret
 exact ⟨by first | rfl | (simp; done) | (simp [*]; done), by repeat (first | exact Drawn0.refl _ | apply Drawn0.step)⟩


/-! ### dom_Of: function 30 -/
def dom_Of.l0 : Nat → List Int → Int → Int → Int → List Int → Int → Int → Int → Option (Int × List Int × Int × Int × Int × Int)
 | 0, _, _, _, _, _, _, _, _ => none
 | k + 1, x29, x30, x31, x362000, x362001, x362002, x362003, x362004 => if x31 < x30 then (if 0 ≤ x31 then (if x31 < (x29.length : Int) then (if 0 ≤ (wrap64 (Int.tdiv (wrap64 ((rd x29 x31) - x362000)) 64)) then (if (wrap64 (Int.tdiv (wrap64 ((rd x29 x31) - x362000)) 64)) < (x362001.length : Int) then (if 0 ≤ (Int.tmod (wrap64 ((rd x29 x31) - x362000)) 64) then (dom_Of.l0 k x29 x30 (wrap64 (x31 + 1)) x362000 (x362001.set ((wrap64 (Int.tdiv (wrap64 ((rd x29 x31) - x362000)) 64)) : Int).toNat (Go.bits .or .u64 (rd x362001 (wrap64 (Int.tdiv (wrap64 ((rd x29 x31) - x362000)) 64))) (shl .u64 1 (Int.tmod (wrap64 ((rd x29 x31) - x362000)) 64)))) x362002 x362003 x362004) else (none)) else (none)) else (none)) else (none)) else (none)) else ((dom_made.f k x362000 x362001).bind fun bt365 => (some (bt365.1, bt365.2.1, bt365.2.2.1, bt365.2.2.2.1, bt365.2.2.2.2, 0)))
def dom_Of.f (k : Nat) (l0 : List Int) : Option (Int × List Int × Int × Int × Int × Int) := if (l0.length : Int) = 0 then (none) else ((slices_ContainsFunc_int_int_60_at_dom_Of_1.f k l0).bind fun t349 => (if t349 = true then (none) else ((slices_Max_int.f l0).bind fun t350 => ((slices_Min_int.f l0).bind fun t351 => (if (wrap64 (t350 - t351)) ≥ 65536 then (none) else ((slices_Min_int.f l0).bind fun t352 => ((slices_Max_int.f l0).bind fun t353 => ((dom_room.f t352 t353).bind fun bt354 => (dom_Of.l0 k l0 (l0.length : Int) 0 bt354.1 bt354.2.1 bt354.2.2.1 bt354.2.2.2.1 bt354.2.2.2.2)))))))))
theorem dom_Of.mono_l : ∀ k, (∀ y0 y1 y2 y3 y4 y5 y6 y7, LeO (dom_Of.l0 k y0 y1 y2 y3 y4 y5 y6 y7) (dom_Of.l0 (k + 1) y0 y1 y2 y3 y4 y5 y6 y7))
 | 0 => fun _ _ _ _ _ _ _ _ r h => by simp [dom_Of.l0] at h
 | k + 1 => by
  have ih0 := dom_Of.mono_l k
  ·
   intro y0 y1 y2 y3 y4 y5 y6 y7
   unfold dom_Of.l0
   have m0 := @dom_made.mono
   have m1 := @slices_ContainsFunc_int_int_60_at_dom_Of_1.mono
   exact leo_
theorem dom_Of.mono : ∀ a0 k, LeO (dom_Of.f k a0) (dom_Of.f (k + 1) a0) := by
 intro a0 k
 have ih0 := dom_Of.mono_l k
 unfold dom_Of.f
 have m0 := @dom_made.mono
 have m1 := @slices_ContainsFunc_int_int_60_at_dom_Of_1.mono
 exact leo_
def dom_Of.T11 : Bool × List (List Nat × List Nat) := (true, [([], []), ([0], [0]), ([], []), ([], []), ([3], [3]), ([2, 4], [2, 4]), ([5], [5]), ([1, 6], [1, 6]), ([7], [7]), ([], []), ([], []), ([10], [10]), ([9, 11], [9, 11]), ([12], [12]), ([13], [13]), ([8, 14], [8, 14]), ([1, 6, 0, 1, 2, 3, 4, 5, 6, 7, 8, 9, 10, 11, 12, 13, 14, 15], [1, 6]), ([16, 15, 0, 1, 2, 3, 4, 5, 6, 7, 8, 9, 10, 11, 12, 13, 14, 15], [15, 16])])
def dom_Of.B11 : List Nat := [0, 1, 0, 0, 8, 28, 60, 127, 255, 0, 0, 1024, 3584, 7680, 15872, 32767, 65535, 131071]
theorem dom_Of.tab11 : rtab .any (opsOf Tryz.f30 11) = dom_Of.T11 := by kernel_rfl
theorem dom_Of.bits11 : waitsOk dom_Of.T11.2 dom_Of.B11 = true := by kernel_rfl
set_option maxHeartbeats 8000000 in
set_option maxRecDepth 100000 in
theorem dom_Of.calls (k : Nat) (A0 : Option Addr) (c0 : Nat) (l0 : List Int) (r1 : Int) (r2 : List Int) (r3 : Int) (r4 : Int) (r5 : Int) (r6 : Int) (w : World) (hr0 : Kd.C (Kd.int .i64) w A0 l0.length l0) (hc0 : l0.length ≤ c0) (hrtab : Kd.C (Kd.int .u8) w (some ⟨0, 0, none⟩) tabL.length tabL) (h : dom_Of.f k l0 = some (r1, r2, r3, r4, r5, r6)) :
  Calls Tryz.prog 30 #[.slice A0 l0.length c0] w fun e w' => ∃ v1_ : Value, e = .returned (.tuple #[.agg #[.int .i64 r1, v1_, .int .i64 r3, .int .i64 r4, .int .i64 r5], .int .i64 r6]) ∧ Kd.V (Kd.int .u64) 80 w' w.heap.size (fun k_ => (w.heap.size ≤ k_)) v1_ r2 ∧ Below w.heap.size w w' := by
 have hu58 := Tryz.underlying58
 have HR0 := Aside0.mk hr0
 have HC0 := Aside0.mk hc0
 clear hr0 hc0
 have HRtab := Aside0.mk hrtab
 clear hrtab
 have HB := Aside0.mk (Below.refl w.heap.size w)
 unfold dom_Of.f at h
 have H := h
 clear h
 by_cases c2 : (l0.length : Int) = 0
 ·
  rw [if_pos c2] at H
  exact absurd H (by simp)
 ·
  rw [if_neg c2] at H
  have c2b0 : ((l0.length : Int) == 0) = false := beq_eq_false_iff_ne.mpr c2
  have c2b1 : ((l0.length : Int) != 0) = true := bne_iff_ne.mpr c2
  have c2b2 : ¬ (l0 = []) := fun h_ => c2 (by rw [h_]; rfl)
  replace H := Option.bind_eq_some_iff.mp H
  obtain ⟨t349, A30, H⟩ := H
  try dsimp only at H
  have A3 := Aside0.mk A30
  clear A30
  by_cases c4 : t349 = true
  ·
   subst c4
   rw [if_pos rfl] at H
   exact absurd H (by simp)
  ·
   replace c4 := Bool.eq_false_iff.mpr c4
   subst c4
   have H1 : ((slices_Max_int.f l0).bind fun t350 => ((slices_Min_int.f l0).bind fun t351 => (if (wrap64 (t350 - t351)) ≥ 65536 then (none) else ((slices_Min_int.f l0).bind fun t352 => ((slices_Max_int.f l0).bind fun t353 => ((dom_room.f t352 t353).bind fun bt354 => (dom_Of.l0 k l0 (l0.length : Int) 0 bt354.1 bt354.2.1 bt354.2.2.1 bt354.2.2.2.1 bt354.2.2.2.2))))))) = some (r1, r2, r3, r4, r5, r6) := by rw [if_neg (show ¬ (false = true) by decide)] at H; exact H
   clear H
   have H := H1
   clear H1
   replace H := Option.bind_eq_some_iff.mp H
   obtain ⟨t350, A50, H⟩ := H
   try dsimp only at H
   have A5 := Aside0.mk A50
   clear A50
   replace H := Option.bind_eq_some_iff.mp H
   obtain ⟨t351, A60, H⟩ := H
   try dsimp only at H
   have A6 := Aside0.mk A60
   clear A60
   by_cases c7 : (wrap64 (t350 - t351)) ≥ 65536
   ·
    rw [if_pos c7] at H
    exact absurd H (by simp)
   ·
    rw [if_neg c7] at H
    have c7b0 : decide (65536 ≤ (wrap64 (t350 - t351))) = false := decide_eq_false c7
    clear c7
    replace H := Option.bind_eq_some_iff.mp H
    obtain ⟨t352, A80, H⟩ := H
    try dsimp only at H
    have A8 := Aside0.mk A80
    clear A80
    replace H := Option.bind_eq_some_iff.mp H
    obtain ⟨t353, A90, H⟩ := H
    try dsimp only at H
    have A9 := Aside0.mk A90
    clear A90
    replace H := Option.bind_eq_some_iff.mp H
    obtain ⟨⟨t354, t355, t358, t359, t360⟩, A100, H⟩ := H
    try dsimp only at H
    have A10 := Aside0.mk A100
    clear A100
    have H' := Aside0.mk H
    clear H
    go_enter Tryz.func30, Tryz.ntmps30
    go_wp2_with (first | ((with_reducible refine gate_dst (N := 2) rfl ?_); refine bxe_ (N := 2) (cs := #[.int .i64 0, .slice none 0 0, .int .i64 0, .int .i64 0, .int .i64 0]) (t := 58) ?_; intro gb348 hg w11 hbox hb; have BK348 := Aside0.mk (hbox); have GW348 := Aside0.mk (by rw [hg]; exact (below_size bel_) : w.heap.size ≤ gb348); have GE348 := GW348; replace HB := Aside0.mk (below_step bel_ hb); clear hb hbox hg) | ((with_reducible refine gate_callee (f := 60) rfl ?_); refine goesL_ (some 14) rfl rfl Tryz.func60 (by kernel_rfl) rfl #[.slice A0 l0.length c0, .func (.func 61) #[] #[]] rfl ar_ ?_; (with_reducible refine (slices_ContainsFunc_int_int_60_at_dom_Of_1.calls k _ _ l0 false _ ?_ ?_ A3.out).mono ?_); exact ca_ ((Kd.C_below HR0.out HB.out)); exact HC0.out; rintro e w' ⟨rfl, ⟨nd, rfl⟩⟩; refine ⟨_, rfl, ?_⟩; (try (rw [drewN_self w11]; generalize hq_ : World.drewN w11 _ = w11; replace BK348 : Aside0 (w11.heap[gb348]? = some (.cells #[.int .i64 0, .slice none 0 0, .int .i64 0, .int .i64 0, .int .i64 0] 58 (0, 0))) := ⟨by rw [← hq_]; exact (bk_ BK348.out)⟩; replace HB : Aside0 (Below w.heap.size w w11) := ⟨by rw [← hq_]; exact bel_⟩; clear hq_)); (try (obtain ⟨_, _, _, _, _, _, _, _, _, _⟩ := cel5_ BK348.out))) | ((with_reducible refine gate_callee (f := 62) rfl ?_); refine goesL_ (some 18) rfl rfl Tryz.func62 (by kernel_rfl) rfl #[.slice A0 l0.length c0] rfl ar_ ?_; (with_reducible refine (slices_Max_int.calls _ _ l0 t350 _ ?_ ?_ A5.out).mono ?_); exact ca_ ((Kd.C_below HR0.out HB.out)); exact HC0.out; rintro e w' ⟨rfl, ⟨nd, rfl⟩⟩; refine ⟨_, rfl, ?_⟩; (try (rw [drewN_self w11]; generalize hq_ : World.drewN w11 _ = w11; replace BK348 : Aside0 (w11.heap[gb348]? = some (.cells #[.int .i64 0, .slice none 0 0, .int .i64 0, .int .i64 0, .int .i64 0] 58 (0, 0))) := ⟨by rw [← hq_]; exact (bk_ BK348.out)⟩; replace HB : Aside0 (Below w.heap.size w w11) := ⟨by rw [← hq_]; exact bel_⟩; clear hq_)); (try (obtain ⟨_, _, _, _, _, _, _, _, _, _⟩ := cel5_ BK348.out))) | ((with_reducible refine gate_callee (f := 63) rfl ?_); refine goesL_ (some 20) rfl rfl Tryz.func63 (by kernel_rfl) rfl #[.slice A0 l0.length c0] rfl ar_ ?_; (with_reducible refine (slices_Min_int.calls _ _ l0 t351 _ ?_ ?_ A6.out).mono ?_); exact ca_ ((Kd.C_below HR0.out HB.out)); exact HC0.out; rintro e w' ⟨rfl, ⟨nd, rfl⟩⟩; refine ⟨_, rfl, ?_⟩; (try (rw [drewN_self w11]; generalize hq_ : World.drewN w11 _ = w11; replace BK348 : Aside0 (w11.heap[gb348]? = some (.cells #[.int .i64 0, .slice none 0 0, .int .i64 0, .int .i64 0, .int .i64 0] 58 (0, 0))) := ⟨by rw [← hq_]; exact (bk_ BK348.out)⟩; replace HB : Aside0 (Below w.heap.size w w11) := ⟨by rw [← hq_]; exact bel_⟩; clear hq_)); (try (obtain ⟨_, _, _, _, _, _, _, _, _, _⟩ := cel5_ BK348.out))) | ((with_reducible refine gate_callee (f := 63) rfl ?_); refine goesL_ (some 25) rfl rfl Tryz.func63 (by kernel_rfl) rfl #[.slice A0 l0.length c0] rfl ar_ ?_; (with_reducible refine (slices_Min_int.calls _ _ l0 t352 _ ?_ ?_ A8.out).mono ?_); exact ca_ ((Kd.C_below HR0.out HB.out)); exact HC0.out; rintro e w' ⟨rfl, ⟨nd, rfl⟩⟩; refine ⟨_, rfl, ?_⟩; (try (rw [drewN_self w11]; generalize hq_ : World.drewN w11 _ = w11; replace BK348 : Aside0 (w11.heap[gb348]? = some (.cells #[.int .i64 0, .slice none 0 0, .int .i64 0, .int .i64 0, .int .i64 0] 58 (0, 0))) := ⟨by rw [← hq_]; exact (bk_ BK348.out)⟩; replace HB : Aside0 (Below w.heap.size w w11) := ⟨by rw [← hq_]; exact bel_⟩; clear hq_)); (try (obtain ⟨_, _, _, _, _, _, _, _, _, _⟩ := cel5_ BK348.out))) | ((with_reducible refine gate_callee (f := 62) rfl ?_); refine goesL_ (some 27) rfl rfl Tryz.func62 (by kernel_rfl) rfl #[.slice A0 l0.length c0] rfl ar_ ?_; (with_reducible refine (slices_Max_int.calls _ _ l0 t353 _ ?_ ?_ A9.out).mono ?_); exact ca_ ((Kd.C_below HR0.out HB.out)); exact HC0.out; rintro e w' ⟨rfl, ⟨nd, rfl⟩⟩; refine ⟨_, rfl, ?_⟩; (try (rw [drewN_self w11]; generalize hq_ : World.drewN w11 _ = w11; replace BK348 : Aside0 (w11.heap[gb348]? = some (.cells #[.int .i64 0, .slice none 0 0, .int .i64 0, .int .i64 0, .int .i64 0] 58 (0, 0))) := ⟨by rw [← hq_]; exact (bk_ BK348.out)⟩; replace HB : Aside0 (Below w.heap.size w w11) := ⟨by rw [← hq_]; exact bel_⟩; clear hq_)); (try (obtain ⟨_, _, _, _, _, _, _, _, _, _⟩ := cel5_ BK348.out))) | ((with_reducible refine gate_callee (f := 64) rfl ?_); refine goesL_ (some 28) rfl rfl Tryz.func64 (by kernel_rfl) rfl #[.int .i64 t352, .int .i64 t353] rfl ar_ ?_; (with_reducible refine (dom_room.calls t352 t353 t354 t355 t358 t359 t360 _ A10.out).mono ?_); rintro e w17 ⟨v356, rfl, ho0, hb⟩; refine ⟨_, rfl, ?_⟩; have HO357 := Aside0.mk (Kd.R_lower (Kd.R_newM (M := fun k_ => (w.heap.size ≤ k_)) ho0 (below_size bel_) (fun k_ h_ => h_)) (below_size bel_)); replace BK348 := Aside0.mk (blk_below (bk_ BK348.out) hb); replace HB := Aside0.mk (below_step bel_ hb); clear hb ho0) | ((with_reducible refine gate_dst (N := 4) rfl ?_); refine bxe_ (N := 4) (cs := #[.int .i64 0, .slice none 0 0, .int .i64 0, .int .i64 0, .int .i64 0]) (t := 58) ?_; intro gb361 hg w18 hbox hb; replace HO357 := Aside0.mk (Kd.R_below (vR_ HO357.out) hb); have BK361 := Aside0.mk (hbox); have GW361 := Aside0.mk (by rw [hg]; exact (below_size bel_) : w.heap.size ≤ gb361); have GE361 := GW361; replace HB := Aside0.mk (below_step bel_ hb); have NB348_361 := Aside0.mk ((by rw [hg]; exact Nat.ne_of_lt (blk_lt (bk_ BK348.out)) : gb348 ≠ gb361)); have NB361_348 := Aside0.mk ((by rw [hg]; exact Nat.ne_of_gt (blk_lt (bk_ BK348.out)) : gb361 ≠ gb348)); replace BK348 := Aside0.mk (blk_below (bk_ BK348.out) hb); clear hb hbox hg; have hnb19 := NB361_348.out; have hnc19 := NB348_361.out; obtain ⟨_, _, _, _, _, _, _, _, _, _⟩ := cel5_ BK361.out; obtain ⟨Ao21, co21, eo21⟩ := Kd.R_slice HO357.out; subst eo21))
    go_loopg [31] k (fun kq v31 w' => ∃ (x31_1 : Int) (x362001_1 : List Int) (u362001 : Value), v31 = .int .i64 x31_1 ∧ Aside0 (dom_Of.l0 kq l0 (l0.length : Int) x31_1 t354 x362001_1 t358 t359 t360 = some (r1, r2, r3, r4, r5, r6)) ∧ Aside0 (kq ≤ k) ∧ Aside0 (Kd.R (Kd.int .u64) 80 w' w.heap.size (fun k_ => (w.heap.size ≤ k_)) u362001 x362001_1) ∧ Aside0 (w'.heap[gb348]? = some (.cells #[.int .i64 0, (.slice none 0 0), .int .i64 0, .int .i64 0, .int .i64 0] 58 (0, 0))) ∧ Aside0 (w'.heap[gb361]? = some (.cells #[.int .i64 t354, u362001, .int .i64 t358, .int .i64 t359, .int .i64 t360] 58 (0, 0))) ∧ Aside0 (Below w.heap.size w w'))
    case atStart => exact ⟨(0), (t355), (.slice Ao21 t355.length co21), eq_, H', ⟨Nat.le_refl _⟩, ⟨by refine vR_ ?_; exact Kd.R_mono (fR_ (fR_ (fR_ (fR_ (fR_ (Kd.R_types HO357.out BK361.out (by decide))))))) (fun _ hk => hk.1.1)⟩, ⟨by refine bk_ ?_; refine blk_far ?_ NB348_361.out _; refine bk_ ?_; refine blk_far ?_ NB348_361.out _; refine bk_ ?_; refine blk_far ?_ NB348_361.out _; refine bk_ ?_; refine blk_far ?_ NB348_361.out _; refine bk_ ?_; refine blk_far ?_ NB348_361.out _; refine bk_ ?_; exact BK348.out⟩, ⟨by refine bk_ ?_; refine blk_put (cs := #[.int .i64 t354, .slice Ao21 t355.length co21, .int .i64 t358, .int .i64 t359, .int .i64 0]) ?_ 4 _ rfl; refine bk_ ?_; refine blk_put (cs := #[.int .i64 t354, .slice Ao21 t355.length co21, .int .i64 t358, .int .i64 0, .int .i64 0]) ?_ 3 _ rfl; refine bk_ ?_; refine blk_put (cs := #[.int .i64 t354, .slice Ao21 t355.length co21, .int .i64 0, .int .i64 0, .int .i64 0]) ?_ 2 _ rfl; refine bk_ ?_; refine blk_put (cs := #[.int .i64 t354, .slice none 0 0, .int .i64 0, .int .i64 0, .int .i64 0]) ?_ 1 _ rfl; refine bk_ ?_; refine blk_put (cs := #[.int .i64 0, .slice none 0 0, .int .i64 0, .int .i64 0, .int .i64 0]) ?_ 0 _ rfl; refine bk_ ?_; exact BK361.out⟩, ⟨bel_⟩⟩
    case round =>
     clear H'
     try clear c1
     try clear c2
     try clear c2b0
     try clear c2b1
     try clear c2b2
     try clear p2
     try clear c3
     try clear c4
     try clear c6
     try clear p6
     try clear c7
     try clear c7b0
     try clear c19
     obtain ⟨x31_1, x362001_1, u362001, rfl, HA, HK1, HO_362001, BK348, BK361, HB⟩ := hrel
     cases gk with
     | zero => exact absurd HA.out (by simp [dom_Of.l0])
     | succ k1 =>
      have H := HA.out
      clear HA
      simp only [dom_Of.l0] at H
      by_cases c22 : x31_1 < (l0.length : Int)
      ·
       rw [if_pos c22] at H
       have c22b0 : decide (x31_1 < (l0.length : Int)) = true := decide_eq_true c22
       clear c22
       by_cases c23 : 0 ≤ x31_1
       ·
        rw [if_pos c23] at H
        have c23b0 : decide (0 ≤ x31_1) = true := decide_eq_true c23
        clear c23
        by_cases c24 : x31_1 < (l0.length : Int)
        ·
         rw [if_pos c24] at H
         have c24b0 : decide (x31_1 < (l0.length : Int)) = true := decide_eq_true c24
         clear c24
         obtain ⟨ji25, hji25⟩ : ∃ j_ : Int, (wrap64 (Int.tdiv (wrap64 ((rd l0 x31_1) - t354)) 64)) = j_ := ⟨_, rfl⟩
         replace H : (if 0 ≤ (ji25) then (if (ji25) < (x362001_1.length : Int) then (if 0 ≤ (Int.tmod (wrap64 ((rd l0 x31_1) - t354)) 64) then (dom_Of.l0 k1 l0 (l0.length : Int) (wrap64 (x31_1 + 1)) t354 (x362001_1.set ((ji25) : Int).toNat (Go.bits .or .u64 (rd x362001_1 (ji25)) (shl .u64 1 (Int.tmod (wrap64 ((rd l0 x31_1) - t354)) 64)))) t358 t359 t360) else (none)) else (none)) else (none)) = some (r1, r2, r3, r4, r5, r6) := by first | (rw [hji25] at H; exact H) | (simp only [hji25] at H ⊢; exact H)
         have hji25w : (IntKind.i64.wrap (Int.tdiv (wrap64 ((rd l0 x31_1) - t354)) 64)) = ji25 := (i64_w _).trans hji25
         by_cases c26 : 0 ≤ (ji25)
         ·
          rw [if_pos c26] at H
          have c26b0 : decide (0 ≤ (ji25)) = true := decide_eq_true c26
          clear c26
          by_cases c27 : (ji25) < (x362001_1.length : Int)
          ·
           rw [if_pos c27] at H
           have c27b0 : decide ((ji25) < (x362001_1.length : Int)) = true := decide_eq_true c27
           clear c27
           obtain ⟨ji28, hji28⟩ : ∃ j_ : Int, (Int.tmod (wrap64 ((rd l0 x31_1) - t354)) 64) = j_ := ⟨_, rfl⟩
           replace H : (if 0 ≤ (ji28) then (dom_Of.l0 k1 l0 (l0.length : Int) (wrap64 (x31_1 + 1)) t354 (x362001_1.set ((ji25) : Int).toNat (Go.bits .or .u64 (rd x362001_1 (ji25)) (shl .u64 1 (ji28)))) t358 t359 t360) else (none)) = some (r1, r2, r3, r4, r5, r6) := by first | (rw [hji28] at H; exact H) | (simp only [hji28] at H ⊢; exact H)
           by_cases c29 : 0 ≤ (ji28)
           ·
            rw [if_pos c29] at H
            have c29b0 := eq_true c29
            have c29b1 : decide (0 ≤ (ji28)) = true := decide_eq_true c29
            clear c29
            obtain ⟨ji30, hji30⟩ : ∃ j_ : Int, (shl .u64 1 (ji28)) = j_ := ⟨_, rfl⟩
            replace H : (dom_Of.l0 k1 l0 (l0.length : Int) (wrap64 (x31_1 + 1)) t354 (x362001_1.set ((ji25) : Int).toNat (Go.bits .or .u64 (rd x362001_1 (ji25)) (ji30))) t358 t359 t360) = some (r1, r2, r3, r4, r5, r6) := by first | (rw [hji30] at H; exact H) | (simp only [hji30] at H ⊢; exact H)
            have hji30_ : (IntKind.u64.wrap (1 * 2 ^ min (ji28).toNat 64)) = ji30 := hji30
            have hji30z : (ji28) ≤ 64 → (IntKind.u64.wrap (1 * 2 ^ (ji28).toNat)) = ji30 := shl_small hji30
            have hji30u : (IntKind.u64.wrap (2 ^ min (ji28).toNat 64)) = ji30 := by have h_ := hji30_; rw [Int.one_mul] at h_; exact h_
            have hji30v : (ji28) ≤ 64 → (IntKind.u64.wrap (2 ^ (ji28).toNat)) = ji30 := fun hle_ => by have h_ := hji30z hle_; rw [Int.one_mul] at h_; exact h_
            obtain ⟨y364, hy364⟩ : ∃ y_ : List Int, y_ = (x362001_1.set ((ji25) : Int).toNat (Go.bits .or .u64 (rd x362001_1 (ji25)) (ji30))) := ⟨_, rfl⟩
            replace H : (dom_Of.l0 k1 l0 (l0.length : Int) (wrap64 (x31_1 + 1)) t354 y364 t358 t359 t360) = some (r1, r2, r3, r4, r5, r6) := by first | (rw [hy364]; with_reducible exact H) | (have H2_ := (Option.bind_some _ _).symm.trans H; rw [hy364]; with_reducible exact H2_) | (have H2_ := (Option.bind_some _ _).symm.trans H; with_reducible exact H2_) | with_reducible exact H | (rw [hy364]; exact H) | exact H
            have Ny364 := Aside0.mk hy364
            clear hy364
            have H' := Aside0.mk H
            clear H
            have p362 : 0 ≤ (x31_1 : Int) := dq_
            have q362 : x31_1 < (l0.length : Int) := dq_
            obtain ⟨ad362, e362, hx362_0⟩ := Kd.at_int HR0.out x31_1 p362 q362
            cases e362
            replace hx362_0 := (HB.out.cell (World.block_lt_of_cell? w _ hx362_0)).trans hx362_0
            replace p362 := eq_true p362
            replace q362 := eq_true q362
            try go_wp2
            replace HO_362001 := Aside0.mk (Kd.R_drew HO_362001.out)
            replace BK348 := Aside0.mk (blk_drew BK348.out)
            replace BK361 := Aside0.mk (blk_drew BK361.out)
            replace HB := Aside0.mk (below_drew1 HB.out)
            obtain ⟨Ao33, co33, eo33⟩ := Kd.R_slice HO_362001.out
            (first | subst eo33 | (injection eo33 with f1_ f2_ f3_; have f4_ := f1_.symm; have f5_ := f3_.symm; clear f1_ f2_ f3_; subst f4_; subst f5_))
            have p363 : 0 ≤ ((ji25) : Int) := dq_
            have q363 : (ji25) < (x362001_1.length : Int) := dq_
            obtain ⟨ad363, e363, hx363_0⟩ := Kd.at_int (Kd.R_reads' HO_362001.out).2.2 (ji25) p363 q363
            cases e363
            replace p363 := eq_true p363
            replace q363 := eq_true q363
            have p31 : 0 ≤ ((ji25) : Int) := dq_
            have q31 : ((ji25) : Int) < ((x362001_1.length : Int) : Int) := dq_
            obtain ⟨go31, co31, eo31, gb31, gl31, cl31, HG31⟩ := Kd.R_form HO_362001.out (by omega)
            (first | cases eo31 | (injection eo31 with ea_ en_ ec_; (first | subst ea_ | (injection ea_ with ea_; subst ea_)); subst ec_; clear en_))
            have GB31 := Aside0.mk gb31
            have GG31 := Aside0.mk HG31
            clear gb31 gl31 HG31
            (first | simp only [add_plain] at hx363_0 | skip)
            obtain ⟨hx31_0, hf31_0⟩ := Kd.R_celln 0 HO_362001.out ((ji25) : Int) p31 q31
            replace p31 := eq_true p31
            replace q31 := eq_true q31
            have HP34 := Kd.R_putn HO_362001.out ((ji25) : Int) (Go.bits .or .u64 (rd x362001_1 (ji25)) (ji30))
            rw [← Ny364.out] at HP34
            have HQ34 := Aside0.mk HP34
            clear HP34
            refine start_ (n := 18) (S := fun w' => w'.cell? ⟨gb361, 0, none⟩ = some (.int .i64 t354) ∧ w'.cell? ⟨gb361, 1, none⟩ = some (.slice (some ⟨go31, 0, none⟩) x362001_1.length co33) ∧ w'.cell? ⟨gb361, 2, none⟩ = some (.int .i64 t358) ∧ w'.cell? ⟨gb361, 3, none⟩ = some (.int .i64 t359) ∧ w'.cell? ⟨gb361, 4, none⟩ = some (.int .i64 t360) ∧ w'.cell? ⟨go31, ((ji25)).toNat, none⟩ = some (.int .u64 (rd x362001_1 (ji25)))) (ds := [17]) #[false, false, false, false, false, false, false, false, false, false, false, false, false, false, false, false, false, false] (by kernel_rfl) rfl rfl (cb5_ BK361.out (hx363_0)) (fun hHeld => ?_); refine with_tabW dom_Of.tab11 dom_Of.bits11 (fun HT_ HW_ => ?_)
            generalize wr.drew = w32 at HO_362001 BK348 BK361 HB GG31 HQ34 hf31_0 hx31_0 hx363_0 hHeld ⊢
            refine pu_ (i := 0) (N := some 35) (any_of HT_.out (by kernel_rfl)) ?_
            refine pu_ (i := 2) (N := some 37) (any_of HT_.out (by kernel_rfl)) ?_
            refine pu_ (i := 3) (N := some 38) (any_of HT_.out (by kernel_rfl)) ?_
            refine pu_ (i := 9) (N := some 44) (any_of HT_.out (by kernel_rfl)) ?_
            refine pu_ (i := 10) (N := some 45) (any_of HT_.out (by kernel_rfl)) ?_
            refine tak_ (i := 1) (N := some 36) (take_ofW HT_.out HW_.out (by kernel_rfl)) hHeld ?_
            refine tak_ (i := 4) (N := some 39) (take_ofW HT_.out HW_.out (by kernel_rfl)) hHeld ?_
            refine pu_ (i := 5) (N := some 40) (any_of HT_.out (by kernel_rfl)) ?_
            refine pu_ (i := 6) (N := some 41) (any_of HT_.out (by kernel_rfl)) ?_
            refine pu_ (i := 7) (N := some 42) (any_of HT_.out (by kernel_rfl)) ?_
            refine tak_ (i := 8) (N := some 43) (take_ofW HT_.out HW_.out (by kernel_rfl)) hHeld ?_
            refine tak_ (i := 11) (N := some 46) (take_ofW HT_.out HW_.out (by kernel_rfl)) hHeld ?_
            refine pu_ (i := 12) (N := some 47) (any_of HT_.out (by kernel_rfl)) ?_
            refine pu_ (i := 13) (N := some 48) (any_of HT_.out (by kernel_rfl)) ?_
            refine pu_ (i := 14) (N := some 49) (any_of HT_.out (by kernel_rfl)) ?_
            refine pu_ (i := 15) (N := some 50) (any_of HT_.out (by kernel_rfl)) ?_
            refine pu_ (i := 16) (N := some 51) (any_of HT_.out (by kernel_rfl)) ?_
            refine last_ (i := 17) (N := none) #[true, true, true, true, true, true, true, true, true, true, true, true, true, true, true, true, true, true] rfl rfl (one_of HT_.out (by kernel_rfl)) (by decide) (fun K hK => ?_)
            refine skip_ (w1 := ?_) (by rfl) rfl ?_ ?_
            rotate_left
            ·
             go_simp
             rfl
            refine hK.out _ _ ?_
            clear hK K
            refine done_ (done_of HT_.out (by kernel_rfl)) ?_
            try go_wp2
            go_roundg k1
            case measure => have := HK1.out; omega
            case rel => exact ⟨(wrap64 (x31_1 + 1)), (y364), (.slice (some ⟨go31, 0, none⟩) x362001_1.length co33), eq_, H', ⟨by have := HK1.out; omega⟩, ⟨by refine vR_ ?_; exact HQ34.out⟩, ⟨by refine bk_ ?_; refine blk_far ?_ (by have h_ := Kd.R_ne HO_362001.out BK348.out (by decide); intro e_; exact h_ (by rw [e_]; rfl)) _; refine bk_ ?_; exact BK348.out⟩, ⟨by refine bk_ ?_; refine blk_far ?_ (by have h_ := Kd.R_ne HO_362001.out BK361.out (by decide); intro e_; exact h_ (by rw [e_]; rfl)) _; refine bk_ ?_; exact BK361.out⟩, ⟨by repeat (first | (with_reducible first | exact HB.out | apply below_alloc | apply pw_below_drewN | apply below_drew1 | refine below_set ?_ GB31.out | refine below_set ?_ GE348.out | refine below_set ?_ GE361.out) | exact HB.out)⟩⟩
           ·
            rw [if_neg c29] at H
            exact absurd H (by simp)
          ·
           rw [if_neg c27] at H
           exact absurd H (by simp)
         ·
          rw [if_neg c26] at H
          exact absurd H (by simp)
        ·
         rw [if_neg c24] at H
         exact absurd H (by simp)
       ·
        rw [if_neg c23] at H
        exact absurd H (by simp)
      ·
       rw [if_neg c22] at H
       have c22b0 : decide (x31_1 < (l0.length : Int)) = false := decide_eq_false c22
       clear c22
       replace H := Option.bind_eq_some_iff.mp H
       obtain ⟨⟨t365, t366, t369, t370, t371⟩, A350, H⟩ := H
       try dsimp only at H
       have A35 := Aside0.mk A350
       clear A350
       simp only [Option.some.injEq, Prod.mk.injEq] at H
       obtain ⟨rfl, rfl, rfl, rfl, rfl, rfl⟩ := H
       have hnb36 := NB361_348.out
       have hnc36 := NB348_361.out
       obtain ⟨_, _, _, _, _, _, _, _, _, _⟩ := cel5_ BK361.out
       obtain ⟨Ao38, co38, eo38⟩ := Kd.R_slice HO_362001.out
       subst eo38
       go_wp2_with (first | ((with_reducible refine gate_callee (f := 65) rfl ?_); refine goesL_ (some 57) rfl rfl Tryz.func65 (by kernel_rfl) rfl #[.int .i64 t354, .slice Ao38 x362001_1.length co38] rfl ar_ ?_; (with_reducible refine (dom_made.calls k1 t354 (fun k_ => some k_ = (.slice Ao38 x362001_1.length co38 : Value).ownBlock) _ _ x362001_1 t365 t366 t369 t370 t371 _ ?_ ?_ A35.out).mono ?_); exact Kd.R_V (Kd.R_tight rfl (Kd.R_types (Kd.R_types (HO_362001.out) BK348.out (by decide)) BK361.out (by decide))); exact ca_ ((Kd.C_below HRtab.out HB.out)); rintro e w39 ⟨v367, rfl, ho0, hb⟩; refine ⟨_, rfl, ?_⟩; have HO368 := Aside0.mk (Kd.V_lower (Kd.V_mono (ok' := fun k_ => (w.heap.size ≤ k_) ∧ k_ ≠ gb348 ∧ k_ ≠ gb361) ho0 (fun k_ hk_ => ⟨Or.elim hk_ (fun hs_ => ((Kd.R_types (Kd.R_types (HO_362001.out) BK348.out (by decide)) BK361.out (by decide)).1 k_ hs_.symm).1.1) (fun hn_ => (Nat.le_trans (below_size bel_) hn_)), Or.elim hk_ (fun hs_ => ((Kd.R_types (Kd.R_types (HO_362001.out) BK348.out (by decide)) BK361.out (by decide)).1 k_ hs_.symm).1.2) (fun hn_ => (Kd.freshB (bk_ BK348.out) k_ hn_)), Or.elim hk_ (fun hs_ => ((Kd.R_types (Kd.R_types (HO_362001.out) BK348.out (by decide)) BK361.out (by decide)).1 k_ hs_.symm).2) (fun hn_ => (Kd.freshB (bk_ BK361.out) k_ hn_))⟩)) (below_size bel_)); replace BK348 := Aside0.mk (blk_below (bk_ BK348.out) hb); replace HB := Aside0.mk (below_step bel_ hb); clear hb ho0; obtain ⟨_, _, _, _, _, _, _, _, _, _⟩ := cel5_ BK348.out; obtain ⟨Ao41, co41, eo41⟩ := Kd.V_slice HO368.out; subst eo41))
       refine bodyPost_ret (results_ct rfl _ _ gb348 58 #[.int .i64 t365, .slice Ao41 t366.length co41, .int .i64 t369, .int .i64 t370, .int .i64 t371] (0, 0) _ rfl (by refine bk_ ?_; refine blk_put (cs := #[.int .i64 t365, .slice Ao41 t366.length co41, .int .i64 t369, .int .i64 t370, .int .i64 0]) ?_ 4 _ rfl; refine bk_ ?_; refine blk_put (cs := #[.int .i64 t365, .slice Ao41 t366.length co41, .int .i64 t369, .int .i64 0, .int .i64 0]) ?_ 3 _ rfl; refine bk_ ?_; refine blk_put (cs := #[.int .i64 t365, .slice Ao41 t366.length co41, .int .i64 0, .int .i64 0, .int .i64 0]) ?_ 2 _ rfl; refine bk_ ?_; refine blk_put (cs := #[.int .i64 t365, .slice none 0 0, .int .i64 0, .int .i64 0, .int .i64 0]) ?_ 1 _ rfl; refine bk_ ?_; refine blk_put (cs := #[.int .i64 0, .slice none 0 0, .int .i64 0, .int .i64 0, .int .i64 0]) ?_ 0 _ rfl; refine bk_ ?_; exact BK348.out) Tryz.underlying58 rfl (by kernel_rfl)) rfl ?_
       exact ⟨_, by first | rfl | (simp [errW_none, errW_some] <;> rfl) | (simp [*, errW_none, errW_some] <;> rfl), by refine vV_ ?_; exact Kd.V_mono (fV_ (fV_ (fV_ (fV_ (fV_ (Kd.V_mono HO368.out (fun k_ hk => (⟨hk, hk.2.1⟩ : _ ∧ k_ ≠ gb348)))))))) (fun _ hk => hk.1.1), bel_⟩

end Go.Proofs.YtmhchlbbfpmdgaaGreatDoor.XClauseFilters
