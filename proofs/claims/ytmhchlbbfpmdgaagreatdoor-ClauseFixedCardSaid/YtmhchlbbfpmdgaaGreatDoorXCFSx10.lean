-- by xprint.py, a program of this session, over the kit's print
import Derived.Test.YtmhchlbbfpmdgaaGreatDoorXCFSx0
import Derived.Test.YtmhchlbbfpmdgaaGreatDoorXCFSx1
import Derived.Test.YtmhchlbbfpmdgaaGreatDoorXCFSx6
import Derived.Test.YtmhchlbbfpmdgaaGreatDoorXCFSx9
import Derived.Test.YtmhchlbbfpmdgaaGreatDoorSq
namespace Go.Proofs.YtmhchlbbfpmdgaaGreatDoor.XClauseFixed
open Go.RowKit Go.Proofs.YtmhchlbbfpmdgaaGreatDoor.Sq Go.Proofs.YtmhchlbbfpmdgaaGreatDoorW.PrintWords Go.Proofs.YtmhchlbbfpmdgaaGreatDoorW.PrintLast Go.Proofs.YtmhchlbbfpmdgaaGreatDoorW.PrintMore
attribute [local go_sem] max2_int min2_int max_two min_two max_three min_three max_four min_four   -- for this text's walks alone
set_option linter.unusedVariables false
set_option linter.unusedSimpArgs false

/-! ### clause_Filter: function 9 -/
def clause_Filter.l0 : Nat → List (S58) → List (S58) → Int → List (S58) → Int → Int → Int → List Int → List Int → List Int → List Int → List Int → Int → List (List Int) → Option ((List (S58)) × Bool)
 | 0, _, _, _, _, _, _, _, _, _, _, _, _, _, _ => none
 | k + 1, x1, x6, x7, x16, x17, x18, x197000, x197001, x197002, x197003, x197004, x197005, x197006, x197007 => if x18 < x17 then (if 0 ≤ x18 then (if x18 < (x16.length : Int) then ((clause_want.f x197000 x197001 x197002 x197003 x197004 x197005 x197006 x197007 x18).bind fun t203 => ((dom_Dom_Has.f ((rd_T58 x16 x18).f0) ((rd_T58 x16 x18).f1) ((rd_T58 x16 x18).f2) ((rd_T58 x16 x18).f3) ((rd_T58 x16 x18).f4) t203).bind fun t204 => (if t204 = true then (if x7 ≥ 0 then (some (x6, true)) else (clause_Filter.l0 k x1 x6 x18 x16 x17 (wrap64 (x18 + 1)) x197000 x197001 x197002 x197003 x197004 x197005 x197006 x197007)) else (clause_Filter.l0 k x1 x6 x7 x16 x17 (wrap64 (x18 + 1)) x197000 x197001 x197002 x197003 x197004 x197005 x197006 x197007)))) else (none)) else (none)) else (if x7 < 0 then (some (([] : List (S58)), false)) else (if 0 ≤ x7 then (if x7 < (x1.length : Int) then ((clause_want.f x197000 x197001 x197002 x197003 x197004 x197005 x197006 x197007 x7).bind fun t206 => ((dom_Dom_Only.f k ((rd_T58 x1 x7).f0) ((rd_T58 x1 x7).f1) ((rd_T58 x1 x7).f2) ((rd_T58 x1 x7).f3) ((rd_T58 x1 x7).f4) t206).bind fun bt207 => (if x7 < (x6.length : Int) then (some ((x6.set (x7 : Int).toNat (⟨bt207.1, bt207.2.1, bt207.2.2.1, bt207.2.2.2.1, bt207.2.2.2.2.1⟩ : S58)), true)) else (none)))) else (none)) else (none)))
def clause_Filter.f (k : Nat) (a0_0 : Int) (l0_1 : List Int) (l0_2 : List Int) (l0_3 : List Int) (l0_4 : List Int) (l0_5 : List Int) (a0_6 : Int) (l0_7 : List (List Int)) (l1 : List (S58)) : Option ((List (S58)) × Bool) := (prop_Fits.f k a0_0 l0_1 l0_2 l0_3 l0_4 l0_5 a0_6 l0_7 l1 12 12).bind fun t197 => (if t197 = true then ((slices_CloneDom.f l1).bind fun t198 => (clause_Filter.l0 k l1 t198 (-1) l1 (l1.length : Int) 0 a0_0 l0_1 l0_2 l0_3 l0_4 l0_5 a0_6 l0_7)) else (none))
theorem clause_Filter.mono_l : ∀ k, (∀ y0 y1 y2 y3 y4 y5 y6 y7 y8 y9 y10 y11 y12 y13, LeO (clause_Filter.l0 k y0 y1 y2 y3 y4 y5 y6 y7 y8 y9 y10 y11 y12 y13) (clause_Filter.l0 (k + 1) y0 y1 y2 y3 y4 y5 y6 y7 y8 y9 y10 y11 y12 y13))
 | 0 => fun _ _ _ _ _ _ _ _ _ _ _ _ _ _ r h => by simp [clause_Filter.l0] at h
 | k + 1 => by
  have ih0 := clause_Filter.mono_l k
  ·
   intro y0 y1 y2 y3 y4 y5 y6 y7 y8 y9 y10 y11 y12 y13
   unfold clause_Filter.l0
   repeat' first
   | (with_reducible exact ih0 _ _ _ _ _ _ _ _ _ _ _ _ _ _)
   | (with_reducible exact dom_Dom_Only.mono _ _ _ _ _ _ _)
   | (with_reducible exact prop_Fits.mono _ _ _ _ _ _ _ _ _ _ _ _)
   | (with_reducible exact LeO.refl _)
   | (with_reducible exact LeO.none _)
   | (with_reducible refine LeO.ite ?_ ?_)
   | (with_reducible refine LeO.bind ?_ (fun _ => ?_))
   | exact ih0 _ _ _ _ _ _ _ _ _ _ _ _ _ _
   | exact dom_Dom_Only.mono _ _ _ _ _ _ _
   | exact prop_Fits.mono _ _ _ _ _ _ _ _ _ _ _ _
   | exact LeO.none _
   | refine LeO.ite ?_ ?_
   | refine LeO.bind ?_ (fun _ => ?_)
theorem clause_Filter.mono : ∀ a0 a1 a2 a3 a4 a5 a6 a7 a8 k, LeO (clause_Filter.f k a0 a1 a2 a3 a4 a5 a6 a7 a8) (clause_Filter.f (k + 1) a0 a1 a2 a3 a4 a5 a6 a7 a8) := by
 intro a0 a1 a2 a3 a4 a5 a6 a7 a8 k
 have ih0 := clause_Filter.mono_l k
 unfold clause_Filter.f
 repeat' first
   | (with_reducible exact ih0 _ _ _ _ _ _ _ _ _ _ _ _ _ _)
   | (with_reducible exact dom_Dom_Only.mono _ _ _ _ _ _ _)
   | (with_reducible exact prop_Fits.mono _ _ _ _ _ _ _ _ _ _ _ _)
   | (with_reducible exact LeO.refl _)
   | (with_reducible exact LeO.none _)
   | (with_reducible refine LeO.ite ?_ ?_)
   | (with_reducible refine LeO.bind ?_ (fun _ => ?_))
   | exact ih0 _ _ _ _ _ _ _ _ _ _ _ _ _ _
   | exact dom_Dom_Only.mono _ _ _ _ _ _ _
   | exact prop_Fits.mono _ _ _ _ _ _ _ _ _ _ _ _
   | exact LeO.none _
   | refine LeO.ite ?_ ?_
   | refine LeO.bind ?_ (fun _ => ?_)
def clause_Filter.T15 : Bool × List (List Nat × List Nat) := (true, [([], []), ([], []), ([], []), ([], []), ([2, 3], [2, 3]), ([4], [4]), ([], []), ([], []), ([6, 7], [6, 7]), ([5, 8, 8], [5, 8]), ([9], [9]), ([10], [10]), ([10], [10]), ([0, 1, 0, 1, 2, 3, 4, 5, 6, 7, 8, 9, 10, 11], [0, 1]), ([13, 11, 9, 0, 1, 2, 3, 4, 5, 6, 7, 8, 9, 10, 11], [11, 13])])
def clause_Filter.B15 : List Nat := [0, 0, 0, 0, 12, 28, 0, 0, 192, 508, 1020, 2044, 2044, 4095, 12287]
theorem clause_Filter.tab15 : rtab .any (opsOf Tryz.f9 15) = clause_Filter.T15 := by kernel_rfl
theorem clause_Filter.bits15 : waitsOk clause_Filter.T15.2 clause_Filter.B15 = true := by kernel_rfl
set_option maxHeartbeats 8000000 in
set_option maxRecDepth 100000 in
theorem clause_Filter.calls (k : Nat) (a0_0 : Int) (A0_1 : Option Addr) (c0_1 : Nat) (l0_1 : List Int) (A0_2 : Option Addr) (c0_2 : Nat) (l0_2 : List Int) (A0_3 : Option Addr) (c0_3 : Nat) (l0_3 : List Int) (A0_4 : Option Addr) (c0_4 : Nat) (l0_4 : List Int) (A0_5 : Option Addr) (c0_5 : Nat) (l0_5 : List Int) (a0_6 : Int) (A0_7 : Option Addr) (c0_7 : Nat) (l0_7 : List (List Int)) (P1_ : Nat → Prop) (A1 : Option Addr) (c1 : Nat) (l1 : List (S58)) (r1 : List (S58)) (r2 : Bool) (w : World) (hr0_1 : Kd.C (Kd.int .i64) w A0_1 l0_1.length l0_1) (hc0_1 : l0_1.length ≤ c0_1) (hr0_2 : Kd.C (Kd.int .i64) w A0_2 l0_2.length l0_2) (hc0_2 : l0_2.length ≤ c0_2) (hr0_3 : Kd.C (Kd.int .i64) w A0_3 l0_3.length l0_3) (hc0_3 : l0_3.length ≤ c0_3) (hr0_4 : Kd.C (Kd.int .i64) w A0_4 l0_4.length l0_4) (hc0_4 : l0_4.length ≤ c0_4) (hr0_5 : Kd.C (Kd.int .i64) w A0_5 l0_5.length l0_5) (hc0_5 : l0_5.length ≤ c0_5) (hr0_7 : Kd.C (Kd.slice 3 (Kd.int .i64)) w A0_7 l0_7.length l0_7) (hc0_7 : l0_7.length ≤ c0_7) (hs1 : Kd.V k58 58 w w.heap.size (fun k_ => P1_ k_) (.slice A1 l1.length c1) l1) (hrtab : Kd.C (Kd.int .u8) w (some ⟨0, 0, none⟩) tabL.length tabL) (h : clause_Filter.f k a0_0 l0_1 l0_2 l0_3 l0_4 l0_5 a0_6 l0_7 l1 = some (r1, r2)) :
  Calls Tryz.prog 9 #[.agg #[.int .i64 a0_0, .slice A0_1 l0_1.length c0_1, .slice A0_2 l0_2.length c0_2, .slice A0_3 l0_3.length c0_3, .slice A0_4 l0_4.length c0_4, .slice A0_5 l0_5.length c0_5, .int .i64 a0_6, .slice A0_7 l0_7.length c0_7], .slice A1 l1.length c1] w fun e w' => ∃ v0_ : Value, e = .returned (.tuple #[v0_, .bool r2]) ∧ Kd.N k58 58 w' w.heap.size (fun k_ => (P1_ k_ ∨ w.heap.size ≤ k_)) v0_ r1 ∧ Below w.heap.size w w' := by
 have hu32 := Tryz.underlying32
 have hu58 := Tryz.underlying58
 have HR0_1 := Aside0.mk hr0_1
 have HC0_1 := Aside0.mk hc0_1
 clear hr0_1 hc0_1
 have HR0_2 := Aside0.mk hr0_2
 have HC0_2 := Aside0.mk hc0_2
 clear hr0_2 hc0_2
 have HR0_3 := Aside0.mk hr0_3
 have HC0_3 := Aside0.mk hc0_3
 clear hr0_3 hc0_3
 have HR0_4 := Aside0.mk hr0_4
 have HC0_4 := Aside0.mk hc0_4
 clear hr0_4 hc0_4
 have HR0_5 := Aside0.mk hr0_5
 have HC0_5 := Aside0.mk hc0_5
 clear hr0_5 hc0_5
 have HR0_7 := Aside0.mk hr0_7
 have HC0_7 := Aside0.mk hc0_7
 clear hr0_7 hc0_7
 have HO1 := Aside0.mk (show Kd.V k58 58 w w.heap.size (fun k_ => (P1_ k_ ∨ w.heap.size ≤ k_)) (.slice A1 l1.length c1) l1 from Kd.V_mono hs1 (fun k_ hk => .inl hk))
 have HRtab := Aside0.mk hrtab
 clear hrtab
 have HB := Aside0.mk (Below.refl w.heap.size w)
 have H : ((prop_Fits.f k a0_0 l0_1 l0_2 l0_3 l0_4 l0_5 a0_6 l0_7 l1 12 12).bind fun t197 => (if t197 = true then ((slices_CloneDom.f l1).bind fun t198 => (clause_Filter.l0 k l1 t198 (-1) l1 (l1.length : Int) 0 a0_0 l0_1 l0_2 l0_3 l0_4 l0_5 a0_6 l0_7)) else (none))) = some (r1, r2) := h
 clear h
 replace H := Option.bind_eq_some_iff.mp H
 obtain ⟨t197, A30, H⟩ := H
 replace H : (if t197 = true then ((slices_CloneDom.f l1).bind fun t198 => (clause_Filter.l0 k l1 t198 (-1) l1 (l1.length : Int) 0 a0_0 l0_1 l0_2 l0_3 l0_4 l0_5 a0_6 l0_7)) else (none)) = some (r1, r2) := H
 have A3 := Aside0.mk A30
 clear A30
 by_cases c4 : t197 = true
 ·
  subst c4
  have H1 : ((slices_CloneDom.f l1).bind fun t198 => (clause_Filter.l0 k l1 t198 (-1) l1 (l1.length : Int) 0 a0_0 l0_1 l0_2 l0_3 l0_4 l0_5 a0_6 l0_7)) = some (r1, r2) := by rw [if_pos rfl] at H; exact H
  clear H
  have H := H1
  clear H1
  replace H := Option.bind_eq_some_iff.mp H
  obtain ⟨t198, A50, H⟩ := H
  replace H : (clause_Filter.l0 k l1 t198 (-1) l1 (l1.length : Int) 0 a0_0 l0_1 l0_2 l0_3 l0_4 l0_5 a0_6 l0_7) = some (r1, r2) := H
  have A5 := Aside0.mk A50
  clear A50
  have H' := Aside0.mk H
  clear H
  go_enter Tryz.func9, Tryz.ntmps9
  go_wp2_with (first | ((with_reducible refine gate_dst (N := 2) rfl ?_); refine bxe_ (N := 2) (cs := #[.int .i64 a0_0, .slice A0_1 l0_1.length c0_1, .slice A0_2 l0_2.length c0_2, .slice A0_3 l0_3.length c0_3, .slice A0_4 l0_4.length c0_4, .slice A0_5 l0_5.length c0_5, .int .i64 a0_6, .slice A0_7 l0_7.length c0_7]) (t := 32) ?_; intro gb196 hg w6 hbox hb; replace HO1 := Aside0.mk (Kd.V_below (Kd.V_elderB (vV_ HO1.out) gb196 (Nat.le_of_eq hg.symm)) hb); have BK196 := Aside0.mk (hbox); have GW196 := Aside0.mk (by rw [hg]; exact (below_size bel_) : w.heap.size ≤ gb196); have GE196 := GW196; replace HB := Aside0.mk (below_step bel_ hb); clear hb hbox hg; obtain ⟨hcz7_0, hcz7_1, hcz7_2, hcz7_3, hcz7_4, hcz7_5, hcz7_6, hcz7_7, hfz7_0, hfz7_1, hfz7_2, hfz7_3, hfz7_4, hfz7_5, hfz7_6, hfz7_7⟩ := cel8_ BK196.out) | ((with_reducible refine gate_callee (f := 26) rfl ?_); refine goesL_ (some 12) rfl rfl Tryz.func26 (by kernel_rfl) rfl #[.agg #[.int .i64 a0_0, .slice A0_1 l0_1.length c0_1, .slice A0_2 l0_2.length c0_2, .slice A0_3 l0_3.length c0_3, .slice A0_4 l0_4.length c0_4, .slice A0_5 l0_5.length c0_5, .int .i64 a0_6, .slice A0_7 l0_7.length c0_7], .slice A1 l1.length c1, .int .i64 12, .int .i64 12] rfl ar_ ?_; (with_reducible refine (prop_Fits.calls k a0_0 _ _ l0_1 _ _ l0_2 _ _ l0_3 _ _ l0_4 _ _ l0_5 a0_6 _ _ l0_7 _ _ l1 12 12 true _ ?_ ?_ ?_ ?_ ?_ ?_ ?_ ?_ ?_ ?_ ?_ ?_ ?_ ?_ A3.out).mono ?_); exact ca_ ((Kd.C_below HR0_1.out HB.out)); exact HC0_1.out; exact ca_ ((Kd.C_below HR0_2.out HB.out)); exact HC0_2.out; exact ca_ ((Kd.C_below HR0_3.out HB.out)); exact HC0_3.out; exact ca_ ((Kd.C_below HR0_4.out HB.out)); exact HC0_4.out; exact ca_ ((Kd.C_below HR0_5.out HB.out)); exact HC0_5.out; exact ca_ ((Kd.C_below HR0_7.out HB.out)); exact HC0_7.out; exact ca_ ((Kd.V_reads' HO1.out).2.2); exact (Kd.V_reads' HO1.out).2.1; rintro e w8 ⟨rfl, hb⟩; refine ⟨_, rfl, ?_⟩; replace HO1 := Aside0.mk (Kd.V_below (vV_ HO1.out) hb); replace BK196 := Aside0.mk (blk_below (bk_ BK196.out) hb); replace HB := Aside0.mk (below_step bel_ hb); clear hb) | ((with_reducible refine gate_callee (f := 27) rfl ?_); refine goesL_ (some 15) rfl rfl Tryz.func27 (by kernel_rfl) rfl #[.slice A1 l1.length c1] rfl ar_ ?_; (with_reducible refine (slices_CloneDom.calls (fun k_ => ((P1_ k_ ∨ w.heap.size ≤ k_) ∧ k_ ≠ gb196)) _ _ l1 t198 _ ?_ A5.out).mono ?_); exact HO1.out; rintro e w9 ⟨v199, rfl, ho0, hb⟩; refine ⟨_, rfl, ?_⟩; replace HO1 := Aside0.mk (Kd.V_elder' (vV_ HO1.out) (Kd.N_base ho0) hb); have HO200 := Aside0.mk (Kd.N_lower (Kd.N_mono (ok' := fun k_ => (P1_ k_ ∨ w.heap.size ≤ k_) ∧ k_ ≠ gb196) ho0 (fun k_ hk_ => ⟨Or.elim hk_ (fun hs_ => hs_.1) (fun hn_ => (.inr (Nat.le_trans (below_size bel_) hn_))), Or.elim hk_ (fun hs_ => hs_.2) (fun hn_ => (Kd.freshB (bk_ BK196.out) k_ hn_))⟩)) (below_size bel_)); replace BK196 := Aside0.mk (blk_below (bk_ BK196.out) hb); replace HB := Aside0.mk (below_step bel_ hb); clear hb ho0))
  go_loopg [7, 18] k (fun kq v7 v18 w' => ∃ (x7_1 : Int) (x18_1 : Int), v7 = .int .i64 x7_1 ∧ v18 = .int .i64 x18_1 ∧ Aside0 (clause_Filter.l0 kq l1 t198 x7_1 l1 (l1.length : Int) x18_1 a0_0 l0_1 l0_2 l0_3 l0_4 l0_5 a0_6 l0_7 = some (r1, r2)) ∧ Aside0 (kq ≤ k) ∧ Aside0 (Kd.V k58 58 w' w.heap.size (fun k_ => (P1_ k_ ∨ w.heap.size ≤ k_) ∧ some k_ ≠ (v199 : Value).ownBlock ∧ k_ ≠ gb196) (.slice A1 l1.length c1) l1) ∧ Aside0 (Kd.N k58 58 w' w.heap.size (fun k_ => (P1_ k_ ∨ w.heap.size ≤ k_) ∧ k_ ≠ gb196) v199 t198) ∧ Aside0 (Kd.V k58 58 w' w.heap.size (fun k_ => (P1_ k_ ∨ w.heap.size ≤ k_) ∧ some k_ ≠ (v199 : Value).ownBlock ∧ k_ ≠ gb196) (.slice A1 l1.length c1) l1) ∧ Aside0 (w'.heap[gb196]? = some (.cells #[.int .i64 a0_0, (.slice A0_1 l0_1.length c0_1), (.slice A0_2 l0_2.length c0_2), (.slice A0_3 l0_3.length c0_3), (.slice A0_4 l0_4.length c0_4), (.slice A0_5 l0_5.length c0_5), .int .i64 a0_6, (.slice A0_7 l0_7.length c0_7)] 32 (0, 0))) ∧ Aside0 (Below w.heap.size w w'))
  case atStart => exact ⟨((-1)), (0), (by first | rfl | (simp; done) | (simp [*]; done)), (by first | rfl | (simp; done) | (simp [*]; done)), H', ⟨Nat.le_refl _⟩, ⟨by refine vV_ ?_; exact Kd.V_mono HO1.out (fun _ hk => ⟨hk.1.1, ⟨hk.2, hk.1.2⟩⟩)⟩, ⟨by refine vN_ ?_; exact HO200.out⟩, ⟨by refine vV_ ?_; exact Kd.V_mono HO1.out (fun _ hk => ⟨hk.1.1, ⟨hk.2, hk.1.2⟩⟩)⟩, ⟨by refine bk_ ?_; exact BK196.out⟩, ⟨bel_⟩⟩
  case round =>
   clear H'
   try clear c1
   try clear c2
   try clear p2
   try clear c4
   try clear c9
   try clear hcz7_0
   try clear hcz7_1
   try clear hcz7_2
   try clear hcz7_3
   try clear hcz7_4
   try clear hcz7_5
   try clear hcz7_6
   try clear hcz7_7
   try clear hfz7_0
   try clear hfz7_1
   try clear hfz7_2
   try clear hfz7_3
   try clear hfz7_4
   try clear hfz7_5
   try clear hfz7_6
   try clear hfz7_7
   obtain ⟨x7_1, x18_1, rfl, rfl, HA, HK1, HO_1, HO_6, HO_16, BK196, HB⟩ := hrel
   cases gk with
   | zero => exact absurd HA.out (by simp [clause_Filter.l0])
   | succ k1 =>
    have H := HA.out
    clear HA
    simp only [clause_Filter.l0] at H
    by_cases c10 : x18_1 < (l1.length : Int)
    ·
     rw [if_pos c10] at H
     have c10b0 : decide (x18_1 < (l1.length : Int)) = true := decide_eq_true c10
     clear c10
     by_cases c11 : 0 ≤ x18_1
     ·
      rw [if_pos c11] at H
      have c11b0 : decide (0 ≤ x18_1) = true := decide_eq_true c11
      clear c11
      by_cases c12 : x18_1 < (l1.length : Int)
      ·
       rw [if_pos c12] at H
       have c12b0 : decide (x18_1 < (l1.length : Int)) = true := decide_eq_true c12
       clear c12
       replace H := Option.bind_eq_some_iff.mp H
       obtain ⟨t203, A130, H⟩ := H
       replace H : ((dom_Dom_Has.f ((rd_T58 l1 x18_1).f0) ((rd_T58 l1 x18_1).f1) ((rd_T58 l1 x18_1).f2) ((rd_T58 l1 x18_1).f3) ((rd_T58 l1 x18_1).f4) t203).bind fun t204 => (if t204 = true then (if x7_1 ≥ 0 then (some (t198, true)) else (clause_Filter.l0 k1 l1 t198 x18_1 l1 (l1.length : Int) (wrap64 (x18_1 + 1)) a0_0 l0_1 l0_2 l0_3 l0_4 l0_5 a0_6 l0_7)) else (clause_Filter.l0 k1 l1 t198 x7_1 l1 (l1.length : Int) (wrap64 (x18_1 + 1)) a0_0 l0_1 l0_2 l0_3 l0_4 l0_5 a0_6 l0_7))) = some (r1, r2) := H
       have A13 := Aside0.mk A130
       clear A130
       replace H := Option.bind_eq_some_iff.mp H
       obtain ⟨t204, A140, H⟩ := H
       replace H : (if t204 = true then (if x7_1 ≥ 0 then (some (t198, true)) else (clause_Filter.l0 k1 l1 t198 x18_1 l1 (l1.length : Int) (wrap64 (x18_1 + 1)) a0_0 l0_1 l0_2 l0_3 l0_4 l0_5 a0_6 l0_7)) else (clause_Filter.l0 k1 l1 t198 x7_1 l1 (l1.length : Int) (wrap64 (x18_1 + 1)) a0_0 l0_1 l0_2 l0_3 l0_4 l0_5 a0_6 l0_7)) = some (r1, r2) := H
       have A14 := Aside0.mk A140
       clear A140
       by_cases c15 : t204 = true
       ·
        subst c15
        have H1 : (if x7_1 ≥ 0 then (some (t198, true)) else (clause_Filter.l0 k1 l1 t198 x18_1 l1 (l1.length : Int) (wrap64 (x18_1 + 1)) a0_0 l0_1 l0_2 l0_3 l0_4 l0_5 a0_6 l0_7)) = some (r1, r2) := by rw [if_pos rfl] at H; exact H
        clear H
        have H := H1
        clear H1
        by_cases c16 : x7_1 ≥ 0
        ·
         rw [if_pos c16] at H
         have c16b0 : decide (0 ≤ x7_1) = true := decide_eq_true c16
         clear c16
         simp only [Option.some.injEq, Prod.mk.injEq] at H
         obtain ⟨rfl, rfl⟩ := H
         have p201 : 0 ≤ (x18_1 : Int) := dq_
         have q201 : x18_1 < (l1.length : Int) := dq_
         obtain ⟨ad201, A201_1, c201_1, e201, hx201_0, hx201_1, hx201_2, hx201_3, hx201_4, hl201_1, hi201_1⟩ := at_T58 (Kd.V_reads' HO_16.out).2.2 x18_1 p201 q201
         cases e201
         obtain ⟨ce201, hce201, hMe201, hcc201⟩ := Kd.V_get HO_16.out z58 x18_1 p201 (by first | exact q201 | exact dq_ | (have e_ := (Kd.V_reads' HO_16.out).1; omega))
         obtain ⟨ua201_1, uc201_1, rfl, ul201_1, ge201_1⟩ := k58_openF hMe201
         have hv201_1 := hcc201 1 _ rfl
         rw [add_field _ _ 1 (by omega)] at hv201_1
         replace hv201_1 := Option.some.inj (hv201_1.symm.trans hx201_1)
         injection hv201_1 with hva_ hvn_ hvc_
         rw [hva_] at ge201_1
         rw [hvc_] at ul201_1
         have HL201_1 := Aside0.mk (show Kd.V (Kd.int .u64) 80 _ w.heap.size _ _ ((rd_T58 l1 x18_1).f1) from Kd.V_mk ul201_1 ge201_1)
         clear hva_ hvn_ hvc_ ge201_1 ul201_1
         clear hcc201 hce201
         have HR201_1 := Aside0.mk hi201_1
         have HC201_1 := Aside0.mk hl201_1
         clear hi201_1 hl201_1
         replace p201 := eq_true p201
         replace q201 := eq_true q201
         try go_wp2_with (first | ((with_reducible refine gate_dst (N := 9) rfl ?_); refine bxe_ (N := 9) (cs := #[.int .i64 0, .slice none 0 0, .int .i64 0, .int .i64 0, .int .i64 0]) (t := 58) ?_; intro gb202 hg w17 hbox hb; replace HO_1 := Aside0.mk (Kd.V_below (Kd.V_elderB (vV_ HO_1.out) gb202 (Nat.le_of_eq hg.symm)) hb); replace HO_6 := Aside0.mk (Kd.N_below (Kd.N_elderB (vN_ HO_6.out) gb202 (Nat.le_of_eq hg.symm)) hb); replace HO_16 := Aside0.mk (Kd.V_below (Kd.V_elderB (vV_ HO_16.out) gb202 (Nat.le_of_eq hg.symm)) hb); replace HL201_1 := Aside0.mk (Kd.V_below (Kd.V_elderB (vV_ HL201_1.out) gb202 (Nat.le_of_eq hg.symm)) hb); replace HR201_1 := Aside0.mk (Kd.C_below (by repeat (first | (with_reducible exact HR201_1.out) | (with_reducible refine Kd.C_alloc ?_ _) | (with_reducible refine Kd.C_drewN ?_ _) | (with_reducible refine Kd.C_drew ?_) | exact HR201_1.out)) hb); have BK202 := Aside0.mk (hbox); have GW202 := Aside0.mk (by rw [hg]; exact (below_size bel_) : w.heap.size ≤ gb202); have GE202 := GW202; replace HB := Aside0.mk (below_step bel_ hb); have NB196_202 := Aside0.mk ((by rw [hg]; exact Nat.ne_of_lt (blk_lt (bk_ BK196.out)) : gb196 ≠ gb202)); have NB202_196 := Aside0.mk ((by rw [hg]; exact Nat.ne_of_gt (blk_lt (bk_ BK196.out)) : gb202 ≠ gb196)); replace BK196 := Aside0.mk (blk_below (bk_ BK196.out) hb); clear hb hbox hg; have hnb18 := NB202_196.out; have hnc18 := NB196_202.out; obtain ⟨_, _, _, _, _, _, _, _, _, _⟩ := cel5_ BK202.out))
         obtain ⟨w20, hq_⟩ : ∃ x, x = (((((w17.setCell ⟨gb202, 0, none⟩ (.int .i64 ((rd_T58 l1 x18_1).f0))).setCell ⟨gb202, 1, none⟩ (.slice A201_1 ((rd_T58 l1 x18_1).f1).length c201_1)).setCell ⟨gb202, 2, none⟩ (.int .i64 ((rd_T58 l1 x18_1).f2))).setCell ⟨gb202, 3, none⟩ (.int .i64 ((rd_T58 l1 x18_1).f3))).setCell ⟨gb202, 4, none⟩ (.int .i64 ((rd_T58 l1 x18_1).f4))) := ⟨_, rfl⟩
         replace HO_1 : Aside0 (Kd.V k58 58 w20 w.heap.size (fun k_ => (P1_ k_ ∨ w.heap.size ≤ k_) ∧ some k_ ≠ (v199 : Value).ownBlock ∧ k_ ≠ gb196 ∧ k_ ≠ gb202) (.slice (some ad201) l1.length c1) l1) := ⟨by subst hq_; refine vV_ ?_; exact Kd.V_mono (Kd.V_far (Kd.V_far (Kd.V_far (Kd.V_far (Kd.V_far (Kd.V_mono HO_1.out (fun k_ hk => (⟨hk, hk.2⟩ : _ ∧ k_ ≠ gb202))) (fun _ hk => hk.2) _) (fun _ hk => hk.2) _) (fun _ hk => hk.2) _) (fun _ hk => hk.2) _) (fun _ hk => hk.2) _) (fun _ hk => ⟨hk.1.1.1, ⟨hk.1.1.2.1, ⟨hk.1.1.2.2, hk.1.2⟩⟩⟩)⟩
         replace HO_6 : Aside0 (Kd.N k58 58 w20 w.heap.size (fun k_ => (P1_ k_ ∨ w.heap.size ≤ k_) ∧ k_ ≠ gb196 ∧ k_ ≠ gb202) v199 t198) := ⟨by subst hq_; refine vN_ ?_; exact Kd.N_mono (Kd.N_far (Kd.N_far (Kd.N_far (Kd.N_far (Kd.N_far (Kd.N_mono HO_6.out (fun k_ hk => (⟨hk, hk.2⟩ : _ ∧ k_ ≠ gb202))) (fun _ hk => hk.2) _) (fun _ hk => hk.2) _) (fun _ hk => hk.2) _) (fun _ hk => hk.2) _) (fun _ hk => hk.2) _) (fun _ hk => ⟨hk.1.1.1, ⟨hk.1.1.2, hk.1.2⟩⟩)⟩
         replace HO_16 : Aside0 (Kd.V k58 58 w20 w.heap.size (fun k_ => (P1_ k_ ∨ w.heap.size ≤ k_) ∧ some k_ ≠ (v199 : Value).ownBlock ∧ k_ ≠ gb196 ∧ k_ ≠ gb202) (.slice (some ad201) l1.length c1) l1) := ⟨by subst hq_; refine vV_ ?_; exact Kd.V_mono (Kd.V_far (Kd.V_far (Kd.V_far (Kd.V_far (Kd.V_far (Kd.V_mono HO_16.out (fun k_ hk => (⟨hk, hk.2⟩ : _ ∧ k_ ≠ gb202))) (fun _ hk => hk.2) _) (fun _ hk => hk.2) _) (fun _ hk => hk.2) _) (fun _ hk => hk.2) _) (fun _ hk => hk.2) _) (fun _ hk => ⟨hk.1.1.1, ⟨hk.1.1.2.1, ⟨hk.1.1.2.2, hk.1.2⟩⟩⟩)⟩
         replace HL201_1 : Aside0 (Kd.V (Kd.int .u64) 80 w20 w.heap.size (fun k_ => (P1_ k_ ∨ w.heap.size ≤ k_) ∧ some k_ ≠ (v199 : Value).ownBlock ∧ k_ ≠ gb196 ∧ k_ ≠ gb202) (.slice A201_1 ((rd_T58 l1 x18_1).f1).length c201_1) ((rd_T58 l1 x18_1).f1)) := ⟨by subst hq_; refine vV_ ?_; exact Kd.V_mono (Kd.V_far (Kd.V_far (Kd.V_far (Kd.V_far (Kd.V_far (Kd.V_mono HL201_1.out (fun k_ hk => (⟨hk, hk.2⟩ : _ ∧ k_ ≠ gb202))) (fun _ hk => hk.2) _) (fun _ hk => hk.2) _) (fun _ hk => hk.2) _) (fun _ hk => hk.2) _) (fun _ hk => hk.2) _) (fun _ hk => ⟨hk.1.1.1, ⟨hk.1.1.2.1, ⟨hk.1.1.2.2, hk.1.2⟩⟩⟩)⟩
         replace BK196 : Aside0 (w20.heap[gb196]? = some (.cells #[.int .i64 a0_0, .slice A0_1 l0_1.length c0_1, .slice A0_2 l0_2.length c0_2, .slice A0_3 l0_3.length c0_3, .slice A0_4 l0_4.length c0_4, .slice A0_5 l0_5.length c0_5, .int .i64 a0_6, .slice A0_7 l0_7.length c0_7] 32 (0, 0))) := ⟨by subst hq_; refine bk_ ?_; refine blk_far ?_ NB196_202.out _; refine bk_ ?_; refine blk_far ?_ NB196_202.out _; refine bk_ ?_; refine blk_far ?_ NB196_202.out _; refine bk_ ?_; refine blk_far ?_ NB196_202.out _; refine bk_ ?_; refine blk_far ?_ NB196_202.out _; refine bk_ ?_; exact BK196.out⟩
         replace BK202 : Aside0 (w20.heap[gb202]? = some (.cells #[.int .i64 ((rd_T58 l1 x18_1).f0), .slice A201_1 ((rd_T58 l1 x18_1).f1).length c201_1, .int .i64 ((rd_T58 l1 x18_1).f2), .int .i64 ((rd_T58 l1 x18_1).f3), .int .i64 ((rd_T58 l1 x18_1).f4)] 58 (0, 0))) := ⟨by subst hq_; refine bk_ ?_; refine blk_put (cs := #[.int .i64 ((rd_T58 l1 x18_1).f0), .slice A201_1 ((rd_T58 l1 x18_1).f1).length c201_1, .int .i64 ((rd_T58 l1 x18_1).f2), .int .i64 ((rd_T58 l1 x18_1).f3), .int .i64 0]) ?_ 4 _ rfl; refine bk_ ?_; refine blk_put (cs := #[.int .i64 ((rd_T58 l1 x18_1).f0), .slice A201_1 ((rd_T58 l1 x18_1).f1).length c201_1, .int .i64 ((rd_T58 l1 x18_1).f2), .int .i64 0, .int .i64 0]) ?_ 3 _ rfl; refine bk_ ?_; refine blk_put (cs := #[.int .i64 ((rd_T58 l1 x18_1).f0), .slice A201_1 ((rd_T58 l1 x18_1).f1).length c201_1, .int .i64 0, .int .i64 0, .int .i64 0]) ?_ 2 _ rfl; refine bk_ ?_; refine blk_put (cs := #[.int .i64 ((rd_T58 l1 x18_1).f0), .slice none 0 0, .int .i64 0, .int .i64 0, .int .i64 0]) ?_ 1 _ rfl; refine bk_ ?_; refine blk_put (cs := #[.int .i64 0, .slice none 0 0, .int .i64 0, .int .i64 0, .int .i64 0]) ?_ 0 _ rfl; refine bk_ ?_; exact BK202.out⟩
         replace HB : Aside0 (Below w.heap.size w w20) := ⟨by subst hq_; exact bel_⟩
         rw [← hq_]
         clear hq_
         replace HO_1 := Aside0.mk (Kd.V_drew HO_1.out)
         replace HO_6 := Aside0.mk (Kd.N_drew HO_6.out)
         replace HO_16 := Aside0.mk (Kd.V_drew HO_16.out)
         replace HL201_1 := Aside0.mk (Kd.V_drew HL201_1.out)
         replace BK196 := Aside0.mk (blk_drew BK196.out)
         replace BK202 := Aside0.mk (blk_drew BK202.out)
         replace HB := Aside0.mk (below_drew1 HB.out)
         refine start_ (n := 6) (S := fun w' => w'.cell? ⟨gb202, 0, none⟩ = some (.int .i64 ((rd_T58 l1 x18_1).f0)) ∧ w'.cell? ⟨gb202, 1, none⟩ = some (.slice A201_1 ((rd_T58 l1 x18_1).f1).length c201_1) ∧ w'.cell? ⟨gb202, 2, none⟩ = some (.int .i64 ((rd_T58 l1 x18_1).f2)) ∧ w'.cell? ⟨gb202, 3, none⟩ = some (.int .i64 ((rd_T58 l1 x18_1).f3)) ∧ w'.cell? ⟨gb202, 4, none⟩ = some (.int .i64 ((rd_T58 l1 x18_1).f4)) ∧ w'.cell? ⟨gb196, 0, none⟩ = some (.int .i64 a0_0) ∧ w'.cell? ⟨gb196, 1, none⟩ = some (.slice A0_1 l0_1.length c0_1) ∧ w'.cell? ⟨gb196, 2, none⟩ = some (.slice A0_2 l0_2.length c0_2) ∧ w'.cell? ⟨gb196, 3, none⟩ = some (.slice A0_3 l0_3.length c0_3) ∧ w'.cell? ⟨gb196, 4, none⟩ = some (.slice A0_4 l0_4.length c0_4) ∧ w'.cell? ⟨gb196, 5, none⟩ = some (.slice A0_5 l0_5.length c0_5) ∧ w'.cell? ⟨gb196, 6, none⟩ = some (.int .i64 a0_6) ∧ w'.cell? ⟨gb196, 7, none⟩ = some (.slice A0_7 l0_7.length c0_7)) (ds := []) #[false, false, false, false, false, false] (by kernel_rfl) rfl rfl ⟨(blk_cell BK202.out 0).trans rfl, (blk_cell BK202.out 1).trans rfl, (blk_cell BK202.out 2).trans rfl, (blk_cell BK202.out 3).trans rfl, (blk_cell BK202.out 4).trans rfl, (blk_cell BK196.out 0).trans rfl, (blk_cell BK196.out 1).trans rfl, (blk_cell BK196.out 2).trans rfl, (blk_cell BK196.out 3).trans rfl, (blk_cell BK196.out 4).trans rfl, (blk_cell BK196.out 5).trans rfl, (blk_cell BK196.out 6).trans rfl, (blk_cell BK196.out 7).trans rfl⟩ (fun hHeld => ?_)
         generalize w20.drew = w21 at HO_1 HO_6 HO_16 HL201_1 BK196 BK202 HB hHeld ⊢
         refine pure_ (i := 2) (N := some 25) (v := ?_) (a' := ?_) #[false, false, true, false, false, false] rfl rfl (by kernel_rfl) (fun _ _ _ h => h) (Or.inl ⟨by rfl, ?_⟩) ?_ ?_
         rotate_left
         ·
          intro w'
          go_simp
          with_reducible rfl
         rotate_left
         ·
          simp only [Act.put, List.setIfInBounds_toArray, List.set_cons_zero, List.set_cons_succ, i64_w, i32_w]
          rfl
         refine take_ (i := 0) (N := some 23) (v := ?_) (a' := ?_) #[true, false, true, false, false, false] rfl rfl (by kernel_rfl) (fun _ _ _ h => h) (Or.inl ⟨by rfl, ?_⟩) hHeld ?_ ?_
         rotate_left
         ·
          rintro w' ⟨s0, s1, s2, s3, s4, s5, s6, s7, s8, s9, s10, s11, s12⟩
          go_simp
          with_reducible rfl
         rotate_left
         ·
          simp only [Act.put, List.setIfInBounds_toArray, List.set_cons_zero, List.set_cons_succ, i64_w, i32_w]
          rfl
         refine take_ (i := 1) (N := some 24) (v := ?_) (a' := ?_) #[true, true, true, false, false, false] rfl rfl (by kernel_rfl) (fun _ _ _ h => h) (Or.inl ⟨by rfl, ?_⟩) hHeld ?_ ?_
         rotate_left
         ·
          rintro w' ⟨s0, s1, s2, s3, s4, s5, s6, s7, s8, s9, s10, s11, s12⟩
          go_simp
          with_reducible rfl
         rotate_left
         ·
          simp only [Act.put, List.setIfInBounds_toArray, List.set_cons_zero, List.set_cons_succ, i64_w, i32_w]
          rfl
         refine one_ (i := 3) (N := some 26) #[true, true, true, true, false, false] rfl rfl (by kernel_rfl) (by decide) (fun K hK => ?_)
         refine goes_ Tryz.func28 (by kernel_rfl) rfl #[.agg #[.int .i64 a0_0, .slice A0_1 l0_1.length c0_1, .slice A0_2 l0_2.length c0_2, .slice A0_3 l0_3.length c0_3, .slice A0_4 l0_4.length c0_4, .slice A0_5 l0_5.length c0_5, .int .i64 a0_6, .slice A0_7 l0_7.length c0_7], .int .i64 x18_1] (by rfl) rfl rfl ar_ ?_
         with_reducible refine (clause_want.calls a0_0 _ _ l0_1 _ _ l0_2 _ _ l0_3 _ _ l0_4 _ _ l0_5 a0_6 _ _ l0_7 x18_1 t203 _ ?side1 ?side2 ?side3 ?side4 ?side5 ?side6 ?side7 ?side8 ?side9 ?side10 ?side11 ?side12 A13.out).mono ?_
         (case side1 => exact ca_ ((Kd.C_below HR0_1.out HB.out)))
         (case side2 => exact HC0_1.out)
         (case side3 => exact ca_ ((Kd.C_below HR0_2.out HB.out)))
         (case side4 => exact HC0_2.out)
         (case side5 => exact ca_ ((Kd.C_below HR0_3.out HB.out)))
         (case side6 => exact HC0_3.out)
         (case side7 => exact ca_ ((Kd.C_below HR0_4.out HB.out)))
         (case side8 => exact HC0_4.out)
         (case side9 => exact ca_ ((Kd.C_below HR0_5.out HB.out)))
         (case side10 => exact HC0_5.out)
         (case side11 => exact ca_ ((Kd.C_below HR0_7.out HB.out)))
         (case side12 => exact HC0_7.out)
         rintro e w22 ⟨rfl, hb⟩
         refine ⟨_, rfl, ?_⟩
         replace HO_1 := Aside0.mk (Kd.V_below (vV_ HO_1.out) hb)
         replace HO_6 := Aside0.mk (Kd.N_below (vN_ HO_6.out) hb)
         replace HO_16 := Aside0.mk (Kd.V_below (vV_ HO_16.out) hb)
         replace HL201_1 := Aside0.mk (Kd.V_below (vV_ HL201_1.out) hb)
         replace BK196 := Aside0.mk (blk_below (bk_ BK196.out) hb)
         replace BK202 := Aside0.mk (blk_below (bk_ BK202.out) hb)
         replace HB := Aside0.mk (below_step bel_ hb)
         (try clear hb)
         (try clear hb2)
         (try clear hk)
         (try clear hi)
         refine hK.out _ _ ⟨(blk_cell BK202.out 0).trans rfl, (blk_cell BK202.out 1).trans rfl, (blk_cell BK202.out 2).trans rfl, (blk_cell BK202.out 3).trans rfl, (blk_cell BK202.out 4).trans rfl, (blk_cell BK196.out 0).trans rfl, (blk_cell BK196.out 1).trans rfl, (blk_cell BK196.out 2).trans rfl, (blk_cell BK196.out 3).trans rfl, (blk_cell BK196.out 4).trans rfl, (blk_cell BK196.out 5).trans rfl, (blk_cell BK196.out 6).trans rfl, (blk_cell BK196.out 7).trans rfl⟩ (fun hHeld => ?_)
         clear hK K
         refine norm_ (a' := ?_) ?_ ?_
         rotate_left
         ·
          show Act.put _ (some 26) _ = _
          simp only [Act.put, List.setIfInBounds_toArray, List.set_cons_zero, List.set_cons_succ, i64_w, i32_w]
          rfl
         refine one_ (i := 4) (N := some 27) #[true, true, true, true, true, false] rfl rfl (by kernel_rfl) (by decide) (fun K hK => ?_)
         refine goes_ Tryz.func24 (by kernel_rfl) rfl #[.agg #[.int .i64 ((rd_T58 l1 x18_1).f0), .slice A201_1 ((rd_T58 l1 x18_1).f1).length c201_1, .int .i64 ((rd_T58 l1 x18_1).f2), .int .i64 ((rd_T58 l1 x18_1).f3), .int .i64 ((rd_T58 l1 x18_1).f4)], .int .i64 t203] (by rfl) rfl rfl ar_ ?_
         with_reducible refine (dom_Dom_Has.calls ((rd_T58 l1 x18_1).f0) _ _ ((rd_T58 l1 x18_1).f1) ((rd_T58 l1 x18_1).f2) ((rd_T58 l1 x18_1).f3) ((rd_T58 l1 x18_1).f4) t203 true _ ?side1 ?side2 A14.out).mono ?_
         (case side1 => repeat (first | exact ((Kd.V_reads' (vV_ HL201_1.out)).2.2) | (with_reducible refine Kd.C_alloc ?_ _) | (with_reducible refine Kd.C_drewN ?_ _) | (with_reducible refine Kd.C_drew ?_)))
         (case side2 => exact HC201_1.out)
         rintro e w23 ⟨rfl, hb⟩
         refine ⟨_, rfl, ?_⟩
         replace HO_1 := Aside0.mk (Kd.V_below (vV_ HO_1.out) hb)
         replace HO_6 := Aside0.mk (Kd.N_below (vN_ HO_6.out) hb)
         replace HO_16 := Aside0.mk (Kd.V_below (vV_ HO_16.out) hb)
         replace HL201_1 := Aside0.mk (Kd.V_below (vV_ HL201_1.out) hb)
         replace BK196 := Aside0.mk (blk_below (bk_ BK196.out) hb)
         replace BK202 := Aside0.mk (blk_below (bk_ BK202.out) hb)
         replace HB := Aside0.mk (below_step bel_ hb)
         (try clear hb)
         (try clear hb2)
         (try clear hk)
         (try clear hi)
         refine hK.out _ _ ⟨(blk_cell BK202.out 0).trans rfl, (blk_cell BK202.out 1).trans rfl, (blk_cell BK202.out 2).trans rfl, (blk_cell BK202.out 3).trans rfl, (blk_cell BK202.out 4).trans rfl, (blk_cell BK196.out 0).trans rfl, (blk_cell BK196.out 1).trans rfl, (blk_cell BK196.out 2).trans rfl, (blk_cell BK196.out 3).trans rfl, (blk_cell BK196.out 4).trans rfl, (blk_cell BK196.out 5).trans rfl, (blk_cell BK196.out 6).trans rfl, (blk_cell BK196.out 7).trans rfl⟩ (fun hHeld => ?_)
         clear hK K
         refine norm_ (a' := ?_) ?_ ?_
         rotate_left
         ·
          show Act.put _ (some 27) _ = _
          simp only [Act.put, List.setIfInBounds_toArray, List.set_cons_zero, List.set_cons_succ, i64_w, i32_w]
          rfl
         refine pure_ (i := 5) (N := some 28) (v := ?_) (a' := ?_) #[true, true, true, true, true, true] rfl rfl (by kernel_rfl) (fun _ _ _ h => h) (Or.inl ⟨by rfl, ?_⟩) ?_ ?_
         rotate_left
         ·
          intro w'
          go_simp
          with_reducible rfl
         rotate_left
         ·
          simp only [Act.put, List.setIfInBounds_toArray, List.set_cons_zero, List.set_cons_succ, i64_w, i32_w]
          rfl
         refine done_ (by kernel_rfl) ?_
         try go_wp2
         go_ret2
         exact ⟨_, by first | rfl | (simp [errW_none, errW_some] <;> rfl) | (simp [*, errW_none, errW_some] <;> rfl), by refine vN_ ?_; exact Kd.N_mono HO_6.out (fun _ hk => hk.1), bel_⟩
        ·
         rw [if_neg c16] at H
         have c16b0 : decide (0 ≤ x7_1) = false := decide_eq_false c16
         clear c16
         have H' := Aside0.mk H
         clear H
         have p201 : 0 ≤ (x18_1 : Int) := dq_
         have q201 : x18_1 < (l1.length : Int) := dq_
         obtain ⟨ad201, A201_1, c201_1, e201, hx201_0, hx201_1, hx201_2, hx201_3, hx201_4, hl201_1, hi201_1⟩ := at_T58 (Kd.V_reads' HO_16.out).2.2 x18_1 p201 q201
         cases e201
         obtain ⟨ce201, hce201, hMe201, hcc201⟩ := Kd.V_get HO_16.out z58 x18_1 p201 (by first | exact q201 | exact dq_ | (have e_ := (Kd.V_reads' HO_16.out).1; omega))
         obtain ⟨ua201_1, uc201_1, rfl, ul201_1, ge201_1⟩ := k58_openF hMe201
         have hv201_1 := hcc201 1 _ rfl
         rw [add_field _ _ 1 (by omega)] at hv201_1
         replace hv201_1 := Option.some.inj (hv201_1.symm.trans hx201_1)
         injection hv201_1 with hva_ hvn_ hvc_
         rw [hva_] at ge201_1
         rw [hvc_] at ul201_1
         have HL201_1 := Aside0.mk (show Kd.V (Kd.int .u64) 80 _ w.heap.size _ _ ((rd_T58 l1 x18_1).f1) from Kd.V_mk ul201_1 ge201_1)
         clear hva_ hvn_ hvc_ ge201_1 ul201_1
         clear hcc201 hce201
         have HR201_1 := Aside0.mk hi201_1
         have HC201_1 := Aside0.mk hl201_1
         clear hi201_1 hl201_1
         replace p201 := eq_true p201
         replace q201 := eq_true q201
         try go_wp2_with (first | ((with_reducible refine gate_dst (N := 9) rfl ?_); refine bxe_ (N := 9) (cs := #[.int .i64 0, .slice none 0 0, .int .i64 0, .int .i64 0, .int .i64 0]) (t := 58) ?_; intro gb202 hg w24 hbox hb; replace HO_1 := Aside0.mk (Kd.V_below (Kd.V_elderB (vV_ HO_1.out) gb202 (Nat.le_of_eq hg.symm)) hb); replace HO_6 := Aside0.mk (Kd.N_below (Kd.N_elderB (vN_ HO_6.out) gb202 (Nat.le_of_eq hg.symm)) hb); replace HO_16 := Aside0.mk (Kd.V_below (Kd.V_elderB (vV_ HO_16.out) gb202 (Nat.le_of_eq hg.symm)) hb); replace HL201_1 := Aside0.mk (Kd.V_below (Kd.V_elderB (vV_ HL201_1.out) gb202 (Nat.le_of_eq hg.symm)) hb); replace HR201_1 := Aside0.mk (Kd.C_below (by repeat (first | (with_reducible exact HR201_1.out) | (with_reducible refine Kd.C_alloc ?_ _) | (with_reducible refine Kd.C_drewN ?_ _) | (with_reducible refine Kd.C_drew ?_) | exact HR201_1.out)) hb); have BK202 := Aside0.mk (hbox); have GW202 := Aside0.mk (by rw [hg]; exact (below_size bel_) : w.heap.size ≤ gb202); have GE202 := GW202; replace HB := Aside0.mk (below_step bel_ hb); have NB196_202 := Aside0.mk ((by rw [hg]; exact Nat.ne_of_lt (blk_lt (bk_ BK196.out)) : gb196 ≠ gb202)); have NB202_196 := Aside0.mk ((by rw [hg]; exact Nat.ne_of_gt (blk_lt (bk_ BK196.out)) : gb202 ≠ gb196)); replace BK196 := Aside0.mk (blk_below (bk_ BK196.out) hb); clear hb hbox hg; have hnb25 := NB202_196.out; have hnc25 := NB196_202.out; obtain ⟨_, _, _, _, _, _, _, _, _, _⟩ := cel5_ BK202.out))
         obtain ⟨w27, hq_⟩ : ∃ x, x = (((((w24.setCell ⟨gb202, 0, none⟩ (.int .i64 ((rd_T58 l1 x18_1).f0))).setCell ⟨gb202, 1, none⟩ (.slice A201_1 ((rd_T58 l1 x18_1).f1).length c201_1)).setCell ⟨gb202, 2, none⟩ (.int .i64 ((rd_T58 l1 x18_1).f2))).setCell ⟨gb202, 3, none⟩ (.int .i64 ((rd_T58 l1 x18_1).f3))).setCell ⟨gb202, 4, none⟩ (.int .i64 ((rd_T58 l1 x18_1).f4))) := ⟨_, rfl⟩
         replace HO_1 : Aside0 (Kd.V k58 58 w27 w.heap.size (fun k_ => (P1_ k_ ∨ w.heap.size ≤ k_) ∧ some k_ ≠ (v199 : Value).ownBlock ∧ k_ ≠ gb196 ∧ k_ ≠ gb202) (.slice (some ad201) l1.length c1) l1) := ⟨by subst hq_; refine vV_ ?_; exact Kd.V_mono (Kd.V_far (Kd.V_far (Kd.V_far (Kd.V_far (Kd.V_far (Kd.V_mono HO_1.out (fun k_ hk => (⟨hk, hk.2⟩ : _ ∧ k_ ≠ gb202))) (fun _ hk => hk.2) _) (fun _ hk => hk.2) _) (fun _ hk => hk.2) _) (fun _ hk => hk.2) _) (fun _ hk => hk.2) _) (fun _ hk => ⟨hk.1.1.1, ⟨hk.1.1.2.1, ⟨hk.1.1.2.2, hk.1.2⟩⟩⟩)⟩
         replace HO_6 : Aside0 (Kd.N k58 58 w27 w.heap.size (fun k_ => (P1_ k_ ∨ w.heap.size ≤ k_) ∧ k_ ≠ gb196 ∧ k_ ≠ gb202) v199 t198) := ⟨by subst hq_; refine vN_ ?_; exact Kd.N_mono (Kd.N_far (Kd.N_far (Kd.N_far (Kd.N_far (Kd.N_far (Kd.N_mono HO_6.out (fun k_ hk => (⟨hk, hk.2⟩ : _ ∧ k_ ≠ gb202))) (fun _ hk => hk.2) _) (fun _ hk => hk.2) _) (fun _ hk => hk.2) _) (fun _ hk => hk.2) _) (fun _ hk => hk.2) _) (fun _ hk => ⟨hk.1.1.1, ⟨hk.1.1.2, hk.1.2⟩⟩)⟩
         replace HO_16 : Aside0 (Kd.V k58 58 w27 w.heap.size (fun k_ => (P1_ k_ ∨ w.heap.size ≤ k_) ∧ some k_ ≠ (v199 : Value).ownBlock ∧ k_ ≠ gb196 ∧ k_ ≠ gb202) (.slice (some ad201) l1.length c1) l1) := ⟨by subst hq_; refine vV_ ?_; exact Kd.V_mono (Kd.V_far (Kd.V_far (Kd.V_far (Kd.V_far (Kd.V_far (Kd.V_mono HO_16.out (fun k_ hk => (⟨hk, hk.2⟩ : _ ∧ k_ ≠ gb202))) (fun _ hk => hk.2) _) (fun _ hk => hk.2) _) (fun _ hk => hk.2) _) (fun _ hk => hk.2) _) (fun _ hk => hk.2) _) (fun _ hk => ⟨hk.1.1.1, ⟨hk.1.1.2.1, ⟨hk.1.1.2.2, hk.1.2⟩⟩⟩)⟩
         replace HL201_1 : Aside0 (Kd.V (Kd.int .u64) 80 w27 w.heap.size (fun k_ => (P1_ k_ ∨ w.heap.size ≤ k_) ∧ some k_ ≠ (v199 : Value).ownBlock ∧ k_ ≠ gb196 ∧ k_ ≠ gb202) (.slice A201_1 ((rd_T58 l1 x18_1).f1).length c201_1) ((rd_T58 l1 x18_1).f1)) := ⟨by subst hq_; refine vV_ ?_; exact Kd.V_mono (Kd.V_far (Kd.V_far (Kd.V_far (Kd.V_far (Kd.V_far (Kd.V_mono HL201_1.out (fun k_ hk => (⟨hk, hk.2⟩ : _ ∧ k_ ≠ gb202))) (fun _ hk => hk.2) _) (fun _ hk => hk.2) _) (fun _ hk => hk.2) _) (fun _ hk => hk.2) _) (fun _ hk => hk.2) _) (fun _ hk => ⟨hk.1.1.1, ⟨hk.1.1.2.1, ⟨hk.1.1.2.2, hk.1.2⟩⟩⟩)⟩
         replace BK196 : Aside0 (w27.heap[gb196]? = some (.cells #[.int .i64 a0_0, .slice A0_1 l0_1.length c0_1, .slice A0_2 l0_2.length c0_2, .slice A0_3 l0_3.length c0_3, .slice A0_4 l0_4.length c0_4, .slice A0_5 l0_5.length c0_5, .int .i64 a0_6, .slice A0_7 l0_7.length c0_7] 32 (0, 0))) := ⟨by subst hq_; refine bk_ ?_; refine blk_far ?_ NB196_202.out _; refine bk_ ?_; refine blk_far ?_ NB196_202.out _; refine bk_ ?_; refine blk_far ?_ NB196_202.out _; refine bk_ ?_; refine blk_far ?_ NB196_202.out _; refine bk_ ?_; refine blk_far ?_ NB196_202.out _; refine bk_ ?_; exact BK196.out⟩
         replace BK202 : Aside0 (w27.heap[gb202]? = some (.cells #[.int .i64 ((rd_T58 l1 x18_1).f0), .slice A201_1 ((rd_T58 l1 x18_1).f1).length c201_1, .int .i64 ((rd_T58 l1 x18_1).f2), .int .i64 ((rd_T58 l1 x18_1).f3), .int .i64 ((rd_T58 l1 x18_1).f4)] 58 (0, 0))) := ⟨by subst hq_; refine bk_ ?_; refine blk_put (cs := #[.int .i64 ((rd_T58 l1 x18_1).f0), .slice A201_1 ((rd_T58 l1 x18_1).f1).length c201_1, .int .i64 ((rd_T58 l1 x18_1).f2), .int .i64 ((rd_T58 l1 x18_1).f3), .int .i64 0]) ?_ 4 _ rfl; refine bk_ ?_; refine blk_put (cs := #[.int .i64 ((rd_T58 l1 x18_1).f0), .slice A201_1 ((rd_T58 l1 x18_1).f1).length c201_1, .int .i64 ((rd_T58 l1 x18_1).f2), .int .i64 0, .int .i64 0]) ?_ 3 _ rfl; refine bk_ ?_; refine blk_put (cs := #[.int .i64 ((rd_T58 l1 x18_1).f0), .slice A201_1 ((rd_T58 l1 x18_1).f1).length c201_1, .int .i64 0, .int .i64 0, .int .i64 0]) ?_ 2 _ rfl; refine bk_ ?_; refine blk_put (cs := #[.int .i64 ((rd_T58 l1 x18_1).f0), .slice none 0 0, .int .i64 0, .int .i64 0, .int .i64 0]) ?_ 1 _ rfl; refine bk_ ?_; refine blk_put (cs := #[.int .i64 0, .slice none 0 0, .int .i64 0, .int .i64 0, .int .i64 0]) ?_ 0 _ rfl; refine bk_ ?_; exact BK202.out⟩
         replace HB : Aside0 (Below w.heap.size w w27) := ⟨by subst hq_; exact bel_⟩
         rw [← hq_]
         clear hq_
         replace HO_1 := Aside0.mk (Kd.V_drew HO_1.out)
         replace HO_6 := Aside0.mk (Kd.N_drew HO_6.out)
         replace HO_16 := Aside0.mk (Kd.V_drew HO_16.out)
         replace HL201_1 := Aside0.mk (Kd.V_drew HL201_1.out)
         replace BK196 := Aside0.mk (blk_drew BK196.out)
         replace BK202 := Aside0.mk (blk_drew BK202.out)
         replace HB := Aside0.mk (below_drew1 HB.out)
         refine start_ (n := 6) (S := fun w' => w'.cell? ⟨gb202, 0, none⟩ = some (.int .i64 ((rd_T58 l1 x18_1).f0)) ∧ w'.cell? ⟨gb202, 1, none⟩ = some (.slice A201_1 ((rd_T58 l1 x18_1).f1).length c201_1) ∧ w'.cell? ⟨gb202, 2, none⟩ = some (.int .i64 ((rd_T58 l1 x18_1).f2)) ∧ w'.cell? ⟨gb202, 3, none⟩ = some (.int .i64 ((rd_T58 l1 x18_1).f3)) ∧ w'.cell? ⟨gb202, 4, none⟩ = some (.int .i64 ((rd_T58 l1 x18_1).f4)) ∧ w'.cell? ⟨gb196, 0, none⟩ = some (.int .i64 a0_0) ∧ w'.cell? ⟨gb196, 1, none⟩ = some (.slice A0_1 l0_1.length c0_1) ∧ w'.cell? ⟨gb196, 2, none⟩ = some (.slice A0_2 l0_2.length c0_2) ∧ w'.cell? ⟨gb196, 3, none⟩ = some (.slice A0_3 l0_3.length c0_3) ∧ w'.cell? ⟨gb196, 4, none⟩ = some (.slice A0_4 l0_4.length c0_4) ∧ w'.cell? ⟨gb196, 5, none⟩ = some (.slice A0_5 l0_5.length c0_5) ∧ w'.cell? ⟨gb196, 6, none⟩ = some (.int .i64 a0_6) ∧ w'.cell? ⟨gb196, 7, none⟩ = some (.slice A0_7 l0_7.length c0_7)) (ds := []) #[false, false, false, false, false, false] (by kernel_rfl) rfl rfl ⟨(blk_cell BK202.out 0).trans rfl, (blk_cell BK202.out 1).trans rfl, (blk_cell BK202.out 2).trans rfl, (blk_cell BK202.out 3).trans rfl, (blk_cell BK202.out 4).trans rfl, (blk_cell BK196.out 0).trans rfl, (blk_cell BK196.out 1).trans rfl, (blk_cell BK196.out 2).trans rfl, (blk_cell BK196.out 3).trans rfl, (blk_cell BK196.out 4).trans rfl, (blk_cell BK196.out 5).trans rfl, (blk_cell BK196.out 6).trans rfl, (blk_cell BK196.out 7).trans rfl⟩ (fun hHeld => ?_)
         generalize w27.drew = w28 at HO_1 HO_6 HO_16 HL201_1 BK196 BK202 HB hHeld ⊢
         refine pure_ (i := 2) (N := some 25) (v := ?_) (a' := ?_) #[false, false, true, false, false, false] rfl rfl (by kernel_rfl) (fun _ _ _ h => h) (Or.inl ⟨by rfl, ?_⟩) ?_ ?_
         rotate_left
         ·
          intro w'
          go_simp
          with_reducible rfl
         rotate_left
         ·
          simp only [Act.put, List.setIfInBounds_toArray, List.set_cons_zero, List.set_cons_succ, i64_w, i32_w]
          rfl
         refine take_ (i := 0) (N := some 23) (v := ?_) (a' := ?_) #[true, false, true, false, false, false] rfl rfl (by kernel_rfl) (fun _ _ _ h => h) (Or.inl ⟨by rfl, ?_⟩) hHeld ?_ ?_
         rotate_left
         ·
          rintro w' ⟨s0, s1, s2, s3, s4, s5, s6, s7, s8, s9, s10, s11, s12⟩
          go_simp
          with_reducible rfl
         rotate_left
         ·
          simp only [Act.put, List.setIfInBounds_toArray, List.set_cons_zero, List.set_cons_succ, i64_w, i32_w]
          rfl
         refine take_ (i := 1) (N := some 24) (v := ?_) (a' := ?_) #[true, true, true, false, false, false] rfl rfl (by kernel_rfl) (fun _ _ _ h => h) (Or.inl ⟨by rfl, ?_⟩) hHeld ?_ ?_
         rotate_left
         ·
          rintro w' ⟨s0, s1, s2, s3, s4, s5, s6, s7, s8, s9, s10, s11, s12⟩
          go_simp
          with_reducible rfl
         rotate_left
         ·
          simp only [Act.put, List.setIfInBounds_toArray, List.set_cons_zero, List.set_cons_succ, i64_w, i32_w]
          rfl
         refine one_ (i := 3) (N := some 26) #[true, true, true, true, false, false] rfl rfl (by kernel_rfl) (by decide) (fun K hK => ?_)
         refine goes_ Tryz.func28 (by kernel_rfl) rfl #[.agg #[.int .i64 a0_0, .slice A0_1 l0_1.length c0_1, .slice A0_2 l0_2.length c0_2, .slice A0_3 l0_3.length c0_3, .slice A0_4 l0_4.length c0_4, .slice A0_5 l0_5.length c0_5, .int .i64 a0_6, .slice A0_7 l0_7.length c0_7], .int .i64 x18_1] (by rfl) rfl rfl ar_ ?_
         with_reducible refine (clause_want.calls a0_0 _ _ l0_1 _ _ l0_2 _ _ l0_3 _ _ l0_4 _ _ l0_5 a0_6 _ _ l0_7 x18_1 t203 _ ?side1 ?side2 ?side3 ?side4 ?side5 ?side6 ?side7 ?side8 ?side9 ?side10 ?side11 ?side12 A13.out).mono ?_
         (case side1 => exact ca_ ((Kd.C_below HR0_1.out HB.out)))
         (case side2 => exact HC0_1.out)
         (case side3 => exact ca_ ((Kd.C_below HR0_2.out HB.out)))
         (case side4 => exact HC0_2.out)
         (case side5 => exact ca_ ((Kd.C_below HR0_3.out HB.out)))
         (case side6 => exact HC0_3.out)
         (case side7 => exact ca_ ((Kd.C_below HR0_4.out HB.out)))
         (case side8 => exact HC0_4.out)
         (case side9 => exact ca_ ((Kd.C_below HR0_5.out HB.out)))
         (case side10 => exact HC0_5.out)
         (case side11 => exact ca_ ((Kd.C_below HR0_7.out HB.out)))
         (case side12 => exact HC0_7.out)
         rintro e w29 ⟨rfl, hb⟩
         refine ⟨_, rfl, ?_⟩
         replace HO_1 := Aside0.mk (Kd.V_below (vV_ HO_1.out) hb)
         replace HO_6 := Aside0.mk (Kd.N_below (vN_ HO_6.out) hb)
         replace HO_16 := Aside0.mk (Kd.V_below (vV_ HO_16.out) hb)
         replace HL201_1 := Aside0.mk (Kd.V_below (vV_ HL201_1.out) hb)
         replace BK196 := Aside0.mk (blk_below (bk_ BK196.out) hb)
         replace BK202 := Aside0.mk (blk_below (bk_ BK202.out) hb)
         replace HB := Aside0.mk (below_step bel_ hb)
         (try clear hb)
         (try clear hb2)
         (try clear hk)
         (try clear hi)
         refine hK.out _ _ ⟨(blk_cell BK202.out 0).trans rfl, (blk_cell BK202.out 1).trans rfl, (blk_cell BK202.out 2).trans rfl, (blk_cell BK202.out 3).trans rfl, (blk_cell BK202.out 4).trans rfl, (blk_cell BK196.out 0).trans rfl, (blk_cell BK196.out 1).trans rfl, (blk_cell BK196.out 2).trans rfl, (blk_cell BK196.out 3).trans rfl, (blk_cell BK196.out 4).trans rfl, (blk_cell BK196.out 5).trans rfl, (blk_cell BK196.out 6).trans rfl, (blk_cell BK196.out 7).trans rfl⟩ (fun hHeld => ?_)
         clear hK K
         refine norm_ (a' := ?_) ?_ ?_
         rotate_left
         ·
          show Act.put _ (some 26) _ = _
          simp only [Act.put, List.setIfInBounds_toArray, List.set_cons_zero, List.set_cons_succ, i64_w, i32_w]
          rfl
         refine one_ (i := 4) (N := some 27) #[true, true, true, true, true, false] rfl rfl (by kernel_rfl) (by decide) (fun K hK => ?_)
         refine goes_ Tryz.func24 (by kernel_rfl) rfl #[.agg #[.int .i64 ((rd_T58 l1 x18_1).f0), .slice A201_1 ((rd_T58 l1 x18_1).f1).length c201_1, .int .i64 ((rd_T58 l1 x18_1).f2), .int .i64 ((rd_T58 l1 x18_1).f3), .int .i64 ((rd_T58 l1 x18_1).f4)], .int .i64 t203] (by rfl) rfl rfl ar_ ?_
         with_reducible refine (dom_Dom_Has.calls ((rd_T58 l1 x18_1).f0) _ _ ((rd_T58 l1 x18_1).f1) ((rd_T58 l1 x18_1).f2) ((rd_T58 l1 x18_1).f3) ((rd_T58 l1 x18_1).f4) t203 true _ ?side1 ?side2 A14.out).mono ?_
         (case side1 => repeat (first | exact ((Kd.V_reads' (vV_ HL201_1.out)).2.2) | (with_reducible refine Kd.C_alloc ?_ _) | (with_reducible refine Kd.C_drewN ?_ _) | (with_reducible refine Kd.C_drew ?_)))
         (case side2 => exact HC201_1.out)
         rintro e w30 ⟨rfl, hb⟩
         refine ⟨_, rfl, ?_⟩
         replace HO_1 := Aside0.mk (Kd.V_below (vV_ HO_1.out) hb)
         replace HO_6 := Aside0.mk (Kd.N_below (vN_ HO_6.out) hb)
         replace HO_16 := Aside0.mk (Kd.V_below (vV_ HO_16.out) hb)
         replace HL201_1 := Aside0.mk (Kd.V_below (vV_ HL201_1.out) hb)
         replace BK196 := Aside0.mk (blk_below (bk_ BK196.out) hb)
         replace BK202 := Aside0.mk (blk_below (bk_ BK202.out) hb)
         replace HB := Aside0.mk (below_step bel_ hb)
         (try clear hb)
         (try clear hb2)
         (try clear hk)
         (try clear hi)
         refine hK.out _ _ ⟨(blk_cell BK202.out 0).trans rfl, (blk_cell BK202.out 1).trans rfl, (blk_cell BK202.out 2).trans rfl, (blk_cell BK202.out 3).trans rfl, (blk_cell BK202.out 4).trans rfl, (blk_cell BK196.out 0).trans rfl, (blk_cell BK196.out 1).trans rfl, (blk_cell BK196.out 2).trans rfl, (blk_cell BK196.out 3).trans rfl, (blk_cell BK196.out 4).trans rfl, (blk_cell BK196.out 5).trans rfl, (blk_cell BK196.out 6).trans rfl, (blk_cell BK196.out 7).trans rfl⟩ (fun hHeld => ?_)
         clear hK K
         refine norm_ (a' := ?_) ?_ ?_
         rotate_left
         ·
          show Act.put _ (some 27) _ = _
          simp only [Act.put, List.setIfInBounds_toArray, List.set_cons_zero, List.set_cons_succ, i64_w, i32_w]
          rfl
         refine pure_ (i := 5) (N := some 28) (v := ?_) (a' := ?_) #[true, true, true, true, true, true] rfl rfl (by kernel_rfl) (fun _ _ _ h => h) (Or.inl ⟨by rfl, ?_⟩) ?_ ?_
         rotate_left
         ·
          intro w'
          go_simp
          with_reducible rfl
         rotate_left
         ·
          simp only [Act.put, List.setIfInBounds_toArray, List.set_cons_zero, List.set_cons_succ, i64_w, i32_w]
          rfl
         refine done_ (by kernel_rfl) ?_
         try go_wp2
         go_roundg k1
         case measure => have := HK1.out; omega
         case rel => exact ⟨(x18_1), (wrap64 (x18_1 + 1)), (by first | rfl | (simp; done) | (simp [*]; done)), (by first | rfl | (simp; done) | (simp [*]; done)), H', ⟨by have := HK1.out; omega⟩, ⟨by refine vV_ ?_; exact Kd.V_mono HO_1.out (fun _ hk => ⟨hk.1, ⟨hk.2.1, hk.2.2.1⟩⟩)⟩, ⟨by refine vN_ ?_; exact Kd.N_mono HO_6.out (fun _ hk => ⟨hk.1, hk.2.1⟩)⟩, ⟨by refine vV_ ?_; exact Kd.V_mono HO_16.out (fun _ hk => ⟨hk.1, ⟨hk.2.1, hk.2.2.1⟩⟩)⟩, ⟨by refine bk_ ?_; exact BK196.out⟩, ⟨bel_⟩⟩
       ·
        replace c15 := Bool.eq_false_iff.mpr c15
        subst c15
        have H1 : (clause_Filter.l0 k1 l1 t198 x7_1 l1 (l1.length : Int) (wrap64 (x18_1 + 1)) a0_0 l0_1 l0_2 l0_3 l0_4 l0_5 a0_6 l0_7) = some (r1, r2) := by rw [if_neg (show ¬ (false = true) by decide)] at H; exact H
        clear H
        have H := H1
        clear H1
        have H' := Aside0.mk H
        clear H
        have p201 : 0 ≤ (x18_1 : Int) := dq_
        have q201 : x18_1 < (l1.length : Int) := dq_
        obtain ⟨ad201, A201_1, c201_1, e201, hx201_0, hx201_1, hx201_2, hx201_3, hx201_4, hl201_1, hi201_1⟩ := at_T58 (Kd.V_reads' HO_16.out).2.2 x18_1 p201 q201
        cases e201
        obtain ⟨ce201, hce201, hMe201, hcc201⟩ := Kd.V_get HO_16.out z58 x18_1 p201 (by first | exact q201 | exact dq_ | (have e_ := (Kd.V_reads' HO_16.out).1; omega))
        obtain ⟨ua201_1, uc201_1, rfl, ul201_1, ge201_1⟩ := k58_openF hMe201
        have hv201_1 := hcc201 1 _ rfl
        rw [add_field _ _ 1 (by omega)] at hv201_1
        replace hv201_1 := Option.some.inj (hv201_1.symm.trans hx201_1)
        injection hv201_1 with hva_ hvn_ hvc_
        rw [hva_] at ge201_1
        rw [hvc_] at ul201_1
        have HL201_1 := Aside0.mk (show Kd.V (Kd.int .u64) 80 _ w.heap.size _ _ ((rd_T58 l1 x18_1).f1) from Kd.V_mk ul201_1 ge201_1)
        clear hva_ hvn_ hvc_ ge201_1 ul201_1
        clear hcc201 hce201
        have HR201_1 := Aside0.mk hi201_1
        have HC201_1 := Aside0.mk hl201_1
        clear hi201_1 hl201_1
        replace p201 := eq_true p201
        replace q201 := eq_true q201
        try go_wp2_with (first | ((with_reducible refine gate_dst (N := 9) rfl ?_); refine bxe_ (N := 9) (cs := #[.int .i64 0, .slice none 0 0, .int .i64 0, .int .i64 0, .int .i64 0]) (t := 58) ?_; intro gb202 hg w31 hbox hb; replace HO_1 := Aside0.mk (Kd.V_below (Kd.V_elderB (vV_ HO_1.out) gb202 (Nat.le_of_eq hg.symm)) hb); replace HO_6 := Aside0.mk (Kd.N_below (Kd.N_elderB (vN_ HO_6.out) gb202 (Nat.le_of_eq hg.symm)) hb); replace HO_16 := Aside0.mk (Kd.V_below (Kd.V_elderB (vV_ HO_16.out) gb202 (Nat.le_of_eq hg.symm)) hb); replace HL201_1 := Aside0.mk (Kd.V_below (Kd.V_elderB (vV_ HL201_1.out) gb202 (Nat.le_of_eq hg.symm)) hb); replace HR201_1 := Aside0.mk (Kd.C_below (by repeat (first | (with_reducible exact HR201_1.out) | (with_reducible refine Kd.C_alloc ?_ _) | (with_reducible refine Kd.C_drewN ?_ _) | (with_reducible refine Kd.C_drew ?_) | exact HR201_1.out)) hb); have BK202 := Aside0.mk (hbox); have GW202 := Aside0.mk (by rw [hg]; exact (below_size bel_) : w.heap.size ≤ gb202); have GE202 := GW202; replace HB := Aside0.mk (below_step bel_ hb); have NB196_202 := Aside0.mk ((by rw [hg]; exact Nat.ne_of_lt (blk_lt (bk_ BK196.out)) : gb196 ≠ gb202)); have NB202_196 := Aside0.mk ((by rw [hg]; exact Nat.ne_of_gt (blk_lt (bk_ BK196.out)) : gb202 ≠ gb196)); replace BK196 := Aside0.mk (blk_below (bk_ BK196.out) hb); clear hb hbox hg; have hnb32 := NB202_196.out; have hnc32 := NB196_202.out; obtain ⟨_, _, _, _, _, _, _, _, _, _⟩ := cel5_ BK202.out))
        obtain ⟨w34, hq_⟩ : ∃ x, x = (((((w31.setCell ⟨gb202, 0, none⟩ (.int .i64 ((rd_T58 l1 x18_1).f0))).setCell ⟨gb202, 1, none⟩ (.slice A201_1 ((rd_T58 l1 x18_1).f1).length c201_1)).setCell ⟨gb202, 2, none⟩ (.int .i64 ((rd_T58 l1 x18_1).f2))).setCell ⟨gb202, 3, none⟩ (.int .i64 ((rd_T58 l1 x18_1).f3))).setCell ⟨gb202, 4, none⟩ (.int .i64 ((rd_T58 l1 x18_1).f4))) := ⟨_, rfl⟩
        replace HO_1 : Aside0 (Kd.V k58 58 w34 w.heap.size (fun k_ => (P1_ k_ ∨ w.heap.size ≤ k_) ∧ some k_ ≠ (v199 : Value).ownBlock ∧ k_ ≠ gb196 ∧ k_ ≠ gb202) (.slice (some ad201) l1.length c1) l1) := ⟨by subst hq_; refine vV_ ?_; exact Kd.V_mono (Kd.V_far (Kd.V_far (Kd.V_far (Kd.V_far (Kd.V_far (Kd.V_mono HO_1.out (fun k_ hk => (⟨hk, hk.2⟩ : _ ∧ k_ ≠ gb202))) (fun _ hk => hk.2) _) (fun _ hk => hk.2) _) (fun _ hk => hk.2) _) (fun _ hk => hk.2) _) (fun _ hk => hk.2) _) (fun _ hk => ⟨hk.1.1.1, ⟨hk.1.1.2.1, ⟨hk.1.1.2.2, hk.1.2⟩⟩⟩)⟩
        replace HO_6 : Aside0 (Kd.N k58 58 w34 w.heap.size (fun k_ => (P1_ k_ ∨ w.heap.size ≤ k_) ∧ k_ ≠ gb196 ∧ k_ ≠ gb202) v199 t198) := ⟨by subst hq_; refine vN_ ?_; exact Kd.N_mono (Kd.N_far (Kd.N_far (Kd.N_far (Kd.N_far (Kd.N_far (Kd.N_mono HO_6.out (fun k_ hk => (⟨hk, hk.2⟩ : _ ∧ k_ ≠ gb202))) (fun _ hk => hk.2) _) (fun _ hk => hk.2) _) (fun _ hk => hk.2) _) (fun _ hk => hk.2) _) (fun _ hk => hk.2) _) (fun _ hk => ⟨hk.1.1.1, ⟨hk.1.1.2, hk.1.2⟩⟩)⟩
        replace HO_16 : Aside0 (Kd.V k58 58 w34 w.heap.size (fun k_ => (P1_ k_ ∨ w.heap.size ≤ k_) ∧ some k_ ≠ (v199 : Value).ownBlock ∧ k_ ≠ gb196 ∧ k_ ≠ gb202) (.slice (some ad201) l1.length c1) l1) := ⟨by subst hq_; refine vV_ ?_; exact Kd.V_mono (Kd.V_far (Kd.V_far (Kd.V_far (Kd.V_far (Kd.V_far (Kd.V_mono HO_16.out (fun k_ hk => (⟨hk, hk.2⟩ : _ ∧ k_ ≠ gb202))) (fun _ hk => hk.2) _) (fun _ hk => hk.2) _) (fun _ hk => hk.2) _) (fun _ hk => hk.2) _) (fun _ hk => hk.2) _) (fun _ hk => ⟨hk.1.1.1, ⟨hk.1.1.2.1, ⟨hk.1.1.2.2, hk.1.2⟩⟩⟩)⟩
        replace HL201_1 : Aside0 (Kd.V (Kd.int .u64) 80 w34 w.heap.size (fun k_ => (P1_ k_ ∨ w.heap.size ≤ k_) ∧ some k_ ≠ (v199 : Value).ownBlock ∧ k_ ≠ gb196 ∧ k_ ≠ gb202) (.slice A201_1 ((rd_T58 l1 x18_1).f1).length c201_1) ((rd_T58 l1 x18_1).f1)) := ⟨by subst hq_; refine vV_ ?_; exact Kd.V_mono (Kd.V_far (Kd.V_far (Kd.V_far (Kd.V_far (Kd.V_far (Kd.V_mono HL201_1.out (fun k_ hk => (⟨hk, hk.2⟩ : _ ∧ k_ ≠ gb202))) (fun _ hk => hk.2) _) (fun _ hk => hk.2) _) (fun _ hk => hk.2) _) (fun _ hk => hk.2) _) (fun _ hk => hk.2) _) (fun _ hk => ⟨hk.1.1.1, ⟨hk.1.1.2.1, ⟨hk.1.1.2.2, hk.1.2⟩⟩⟩)⟩
        replace BK196 : Aside0 (w34.heap[gb196]? = some (.cells #[.int .i64 a0_0, .slice A0_1 l0_1.length c0_1, .slice A0_2 l0_2.length c0_2, .slice A0_3 l0_3.length c0_3, .slice A0_4 l0_4.length c0_4, .slice A0_5 l0_5.length c0_5, .int .i64 a0_6, .slice A0_7 l0_7.length c0_7] 32 (0, 0))) := ⟨by subst hq_; refine bk_ ?_; refine blk_far ?_ NB196_202.out _; refine bk_ ?_; refine blk_far ?_ NB196_202.out _; refine bk_ ?_; refine blk_far ?_ NB196_202.out _; refine bk_ ?_; refine blk_far ?_ NB196_202.out _; refine bk_ ?_; refine blk_far ?_ NB196_202.out _; refine bk_ ?_; exact BK196.out⟩
        replace BK202 : Aside0 (w34.heap[gb202]? = some (.cells #[.int .i64 ((rd_T58 l1 x18_1).f0), .slice A201_1 ((rd_T58 l1 x18_1).f1).length c201_1, .int .i64 ((rd_T58 l1 x18_1).f2), .int .i64 ((rd_T58 l1 x18_1).f3), .int .i64 ((rd_T58 l1 x18_1).f4)] 58 (0, 0))) := ⟨by subst hq_; refine bk_ ?_; refine blk_put (cs := #[.int .i64 ((rd_T58 l1 x18_1).f0), .slice A201_1 ((rd_T58 l1 x18_1).f1).length c201_1, .int .i64 ((rd_T58 l1 x18_1).f2), .int .i64 ((rd_T58 l1 x18_1).f3), .int .i64 0]) ?_ 4 _ rfl; refine bk_ ?_; refine blk_put (cs := #[.int .i64 ((rd_T58 l1 x18_1).f0), .slice A201_1 ((rd_T58 l1 x18_1).f1).length c201_1, .int .i64 ((rd_T58 l1 x18_1).f2), .int .i64 0, .int .i64 0]) ?_ 3 _ rfl; refine bk_ ?_; refine blk_put (cs := #[.int .i64 ((rd_T58 l1 x18_1).f0), .slice A201_1 ((rd_T58 l1 x18_1).f1).length c201_1, .int .i64 0, .int .i64 0, .int .i64 0]) ?_ 2 _ rfl; refine bk_ ?_; refine blk_put (cs := #[.int .i64 ((rd_T58 l1 x18_1).f0), .slice none 0 0, .int .i64 0, .int .i64 0, .int .i64 0]) ?_ 1 _ rfl; refine bk_ ?_; refine blk_put (cs := #[.int .i64 0, .slice none 0 0, .int .i64 0, .int .i64 0, .int .i64 0]) ?_ 0 _ rfl; refine bk_ ?_; exact BK202.out⟩
        replace HB : Aside0 (Below w.heap.size w w34) := ⟨by subst hq_; exact bel_⟩
        rw [← hq_]
        clear hq_
        replace HO_1 := Aside0.mk (Kd.V_drew HO_1.out)
        replace HO_6 := Aside0.mk (Kd.N_drew HO_6.out)
        replace HO_16 := Aside0.mk (Kd.V_drew HO_16.out)
        replace HL201_1 := Aside0.mk (Kd.V_drew HL201_1.out)
        replace BK196 := Aside0.mk (blk_drew BK196.out)
        replace BK202 := Aside0.mk (blk_drew BK202.out)
        replace HB := Aside0.mk (below_drew1 HB.out)
        refine start_ (n := 6) (S := fun w' => w'.cell? ⟨gb202, 0, none⟩ = some (.int .i64 ((rd_T58 l1 x18_1).f0)) ∧ w'.cell? ⟨gb202, 1, none⟩ = some (.slice A201_1 ((rd_T58 l1 x18_1).f1).length c201_1) ∧ w'.cell? ⟨gb202, 2, none⟩ = some (.int .i64 ((rd_T58 l1 x18_1).f2)) ∧ w'.cell? ⟨gb202, 3, none⟩ = some (.int .i64 ((rd_T58 l1 x18_1).f3)) ∧ w'.cell? ⟨gb202, 4, none⟩ = some (.int .i64 ((rd_T58 l1 x18_1).f4)) ∧ w'.cell? ⟨gb196, 0, none⟩ = some (.int .i64 a0_0) ∧ w'.cell? ⟨gb196, 1, none⟩ = some (.slice A0_1 l0_1.length c0_1) ∧ w'.cell? ⟨gb196, 2, none⟩ = some (.slice A0_2 l0_2.length c0_2) ∧ w'.cell? ⟨gb196, 3, none⟩ = some (.slice A0_3 l0_3.length c0_3) ∧ w'.cell? ⟨gb196, 4, none⟩ = some (.slice A0_4 l0_4.length c0_4) ∧ w'.cell? ⟨gb196, 5, none⟩ = some (.slice A0_5 l0_5.length c0_5) ∧ w'.cell? ⟨gb196, 6, none⟩ = some (.int .i64 a0_6) ∧ w'.cell? ⟨gb196, 7, none⟩ = some (.slice A0_7 l0_7.length c0_7)) (ds := []) #[false, false, false, false, false, false] (by kernel_rfl) rfl rfl ⟨(blk_cell BK202.out 0).trans rfl, (blk_cell BK202.out 1).trans rfl, (blk_cell BK202.out 2).trans rfl, (blk_cell BK202.out 3).trans rfl, (blk_cell BK202.out 4).trans rfl, (blk_cell BK196.out 0).trans rfl, (blk_cell BK196.out 1).trans rfl, (blk_cell BK196.out 2).trans rfl, (blk_cell BK196.out 3).trans rfl, (blk_cell BK196.out 4).trans rfl, (blk_cell BK196.out 5).trans rfl, (blk_cell BK196.out 6).trans rfl, (blk_cell BK196.out 7).trans rfl⟩ (fun hHeld => ?_)
        generalize w34.drew = w35 at HO_1 HO_6 HO_16 HL201_1 BK196 BK202 HB hHeld ⊢
        refine pure_ (i := 2) (N := some 25) (v := ?_) (a' := ?_) #[false, false, true, false, false, false] rfl rfl (by kernel_rfl) (fun _ _ _ h => h) (Or.inl ⟨by rfl, ?_⟩) ?_ ?_
        rotate_left
        ·
         intro w'
         go_simp
         with_reducible rfl
        rotate_left
        ·
         simp only [Act.put, List.setIfInBounds_toArray, List.set_cons_zero, List.set_cons_succ, i64_w, i32_w]
         rfl
        refine take_ (i := 0) (N := some 23) (v := ?_) (a' := ?_) #[true, false, true, false, false, false] rfl rfl (by kernel_rfl) (fun _ _ _ h => h) (Or.inl ⟨by rfl, ?_⟩) hHeld ?_ ?_
        rotate_left
        ·
         rintro w' ⟨s0, s1, s2, s3, s4, s5, s6, s7, s8, s9, s10, s11, s12⟩
         go_simp
         with_reducible rfl
        rotate_left
        ·
         simp only [Act.put, List.setIfInBounds_toArray, List.set_cons_zero, List.set_cons_succ, i64_w, i32_w]
         rfl
        refine take_ (i := 1) (N := some 24) (v := ?_) (a' := ?_) #[true, true, true, false, false, false] rfl rfl (by kernel_rfl) (fun _ _ _ h => h) (Or.inl ⟨by rfl, ?_⟩) hHeld ?_ ?_
        rotate_left
        ·
         rintro w' ⟨s0, s1, s2, s3, s4, s5, s6, s7, s8, s9, s10, s11, s12⟩
         go_simp
         with_reducible rfl
        rotate_left
        ·
         simp only [Act.put, List.setIfInBounds_toArray, List.set_cons_zero, List.set_cons_succ, i64_w, i32_w]
         rfl
        refine one_ (i := 3) (N := some 26) #[true, true, true, true, false, false] rfl rfl (by kernel_rfl) (by decide) (fun K hK => ?_)
        refine goes_ Tryz.func28 (by kernel_rfl) rfl #[.agg #[.int .i64 a0_0, .slice A0_1 l0_1.length c0_1, .slice A0_2 l0_2.length c0_2, .slice A0_3 l0_3.length c0_3, .slice A0_4 l0_4.length c0_4, .slice A0_5 l0_5.length c0_5, .int .i64 a0_6, .slice A0_7 l0_7.length c0_7], .int .i64 x18_1] (by rfl) rfl rfl ar_ ?_
        with_reducible refine (clause_want.calls a0_0 _ _ l0_1 _ _ l0_2 _ _ l0_3 _ _ l0_4 _ _ l0_5 a0_6 _ _ l0_7 x18_1 t203 _ ?side1 ?side2 ?side3 ?side4 ?side5 ?side6 ?side7 ?side8 ?side9 ?side10 ?side11 ?side12 A13.out).mono ?_
        (case side1 => exact ca_ ((Kd.C_below HR0_1.out HB.out)))
        (case side2 => exact HC0_1.out)
        (case side3 => exact ca_ ((Kd.C_below HR0_2.out HB.out)))
        (case side4 => exact HC0_2.out)
        (case side5 => exact ca_ ((Kd.C_below HR0_3.out HB.out)))
        (case side6 => exact HC0_3.out)
        (case side7 => exact ca_ ((Kd.C_below HR0_4.out HB.out)))
        (case side8 => exact HC0_4.out)
        (case side9 => exact ca_ ((Kd.C_below HR0_5.out HB.out)))
        (case side10 => exact HC0_5.out)
        (case side11 => exact ca_ ((Kd.C_below HR0_7.out HB.out)))
        (case side12 => exact HC0_7.out)
        rintro e w36 ⟨rfl, hb⟩
        refine ⟨_, rfl, ?_⟩
        replace HO_1 := Aside0.mk (Kd.V_below (vV_ HO_1.out) hb)
        replace HO_6 := Aside0.mk (Kd.N_below (vN_ HO_6.out) hb)
        replace HO_16 := Aside0.mk (Kd.V_below (vV_ HO_16.out) hb)
        replace HL201_1 := Aside0.mk (Kd.V_below (vV_ HL201_1.out) hb)
        replace BK196 := Aside0.mk (blk_below (bk_ BK196.out) hb)
        replace BK202 := Aside0.mk (blk_below (bk_ BK202.out) hb)
        replace HB := Aside0.mk (below_step bel_ hb)
        (try clear hb)
        (try clear hb2)
        (try clear hk)
        (try clear hi)
        refine hK.out _ _ ⟨(blk_cell BK202.out 0).trans rfl, (blk_cell BK202.out 1).trans rfl, (blk_cell BK202.out 2).trans rfl, (blk_cell BK202.out 3).trans rfl, (blk_cell BK202.out 4).trans rfl, (blk_cell BK196.out 0).trans rfl, (blk_cell BK196.out 1).trans rfl, (blk_cell BK196.out 2).trans rfl, (blk_cell BK196.out 3).trans rfl, (blk_cell BK196.out 4).trans rfl, (blk_cell BK196.out 5).trans rfl, (blk_cell BK196.out 6).trans rfl, (blk_cell BK196.out 7).trans rfl⟩ (fun hHeld => ?_)
        clear hK K
        refine norm_ (a' := ?_) ?_ ?_
        rotate_left
        ·
         show Act.put _ (some 26) _ = _
         simp only [Act.put, List.setIfInBounds_toArray, List.set_cons_zero, List.set_cons_succ, i64_w, i32_w]
         rfl
        refine one_ (i := 4) (N := some 27) #[true, true, true, true, true, false] rfl rfl (by kernel_rfl) (by decide) (fun K hK => ?_)
        refine goes_ Tryz.func24 (by kernel_rfl) rfl #[.agg #[.int .i64 ((rd_T58 l1 x18_1).f0), .slice A201_1 ((rd_T58 l1 x18_1).f1).length c201_1, .int .i64 ((rd_T58 l1 x18_1).f2), .int .i64 ((rd_T58 l1 x18_1).f3), .int .i64 ((rd_T58 l1 x18_1).f4)], .int .i64 t203] (by rfl) rfl rfl ar_ ?_
        with_reducible refine (dom_Dom_Has.calls ((rd_T58 l1 x18_1).f0) _ _ ((rd_T58 l1 x18_1).f1) ((rd_T58 l1 x18_1).f2) ((rd_T58 l1 x18_1).f3) ((rd_T58 l1 x18_1).f4) t203 false _ ?side1 ?side2 A14.out).mono ?_
        (case side1 => repeat (first | exact ((Kd.V_reads' (vV_ HL201_1.out)).2.2) | (with_reducible refine Kd.C_alloc ?_ _) | (with_reducible refine Kd.C_drewN ?_ _) | (with_reducible refine Kd.C_drew ?_)))
        (case side2 => exact HC201_1.out)
        rintro e w37 ⟨rfl, hb⟩
        refine ⟨_, rfl, ?_⟩
        replace HO_1 := Aside0.mk (Kd.V_below (vV_ HO_1.out) hb)
        replace HO_6 := Aside0.mk (Kd.N_below (vN_ HO_6.out) hb)
        replace HO_16 := Aside0.mk (Kd.V_below (vV_ HO_16.out) hb)
        replace HL201_1 := Aside0.mk (Kd.V_below (vV_ HL201_1.out) hb)
        replace BK196 := Aside0.mk (blk_below (bk_ BK196.out) hb)
        replace BK202 := Aside0.mk (blk_below (bk_ BK202.out) hb)
        replace HB := Aside0.mk (below_step bel_ hb)
        (try clear hb)
        (try clear hb2)
        (try clear hk)
        (try clear hi)
        refine hK.out _ _ ⟨(blk_cell BK202.out 0).trans rfl, (blk_cell BK202.out 1).trans rfl, (blk_cell BK202.out 2).trans rfl, (blk_cell BK202.out 3).trans rfl, (blk_cell BK202.out 4).trans rfl, (blk_cell BK196.out 0).trans rfl, (blk_cell BK196.out 1).trans rfl, (blk_cell BK196.out 2).trans rfl, (blk_cell BK196.out 3).trans rfl, (blk_cell BK196.out 4).trans rfl, (blk_cell BK196.out 5).trans rfl, (blk_cell BK196.out 6).trans rfl, (blk_cell BK196.out 7).trans rfl⟩ (fun hHeld => ?_)
        clear hK K
        refine norm_ (a' := ?_) ?_ ?_
        rotate_left
        ·
         show Act.put _ (some 27) _ = _
         simp only [Act.put, List.setIfInBounds_toArray, List.set_cons_zero, List.set_cons_succ, i64_w, i32_w]
         rfl
        refine pure_ (i := 5) (N := some 28) (v := ?_) (a' := ?_) #[true, true, true, true, true, true] rfl rfl (by kernel_rfl) (fun _ _ _ h => h) (Or.inl ⟨by rfl, ?_⟩) ?_ ?_
        rotate_left
        ·
         intro w'
         go_simp
         with_reducible rfl
        rotate_left
        ·
         simp only [Act.put, List.setIfInBounds_toArray, List.set_cons_zero, List.set_cons_succ, i64_w, i32_w]
         rfl
        refine done_ (by kernel_rfl) ?_
        try go_wp2
        go_roundg k1
        case measure => have := HK1.out; omega
        case rel => exact ⟨(x7_1), (wrap64 (x18_1 + 1)), (by first | rfl | (simp; done) | (simp [*]; done)), (by first | rfl | (simp; done) | (simp [*]; done)), H', ⟨by have := HK1.out; omega⟩, ⟨by refine vV_ ?_; exact Kd.V_mono HO_1.out (fun _ hk => ⟨hk.1, ⟨hk.2.1, hk.2.2.1⟩⟩)⟩, ⟨by refine vN_ ?_; exact Kd.N_mono HO_6.out (fun _ hk => ⟨hk.1, hk.2.1⟩)⟩, ⟨by refine vV_ ?_; exact Kd.V_mono HO_16.out (fun _ hk => ⟨hk.1, ⟨hk.2.1, hk.2.2.1⟩⟩)⟩, ⟨by refine bk_ ?_; exact BK196.out⟩, ⟨bel_⟩⟩
      ·
       rw [if_neg c12] at H
       exact absurd H (by simp)
     ·
      rw [if_neg c11] at H
      exact absurd H (by simp)
    ·
     rw [if_neg c10] at H
     have c10b0 : decide (x18_1 < (l1.length : Int)) = false := decide_eq_false c10
     clear c10
     by_cases c38 : x7_1 < 0
     ·
      rw [if_pos c38] at H
      have c38b0 : decide (x7_1 < 0) = true := decide_eq_true c38
      clear c38
      simp only [Option.some.injEq, Prod.mk.injEq] at H
      obtain ⟨rfl, rfl⟩ := H
      go_wp2
      go_ret2
      exact ⟨_, by first | rfl | (simp [errW_none, errW_some] <;> rfl) | (simp [*, errW_none, errW_some] <;> rfl), by first | exact Kd.S_nil _ _ _ _ _ | exact Kd.N_nil _ _ _ _ _ | exact Kd.V_nil _ _ _ _ _ | exact Kd.Q_nil _ _ _ _ _ | exact Kd.R_nil _ _ _ _ _, bel_⟩
     ·
      rw [if_neg c38] at H
      have c38b0 : decide (x7_1 < 0) = false := decide_eq_false c38
      clear c38
      by_cases c39 : 0 ≤ x7_1
      ·
       rw [if_pos c39] at H
       have c39b0 : decide (0 ≤ x7_1) = true := decide_eq_true c39
       clear c39
       by_cases c40 : x7_1 < (l1.length : Int)
       ·
        rw [if_pos c40] at H
        have c40b0 : decide (x7_1 < (l1.length : Int)) = true := decide_eq_true c40
        clear c40
        replace H := Option.bind_eq_some_iff.mp H
        obtain ⟨t206, A410, H⟩ := H
        replace H : ((dom_Dom_Only.f k1 ((rd_T58 l1 x7_1).f0) ((rd_T58 l1 x7_1).f1) ((rd_T58 l1 x7_1).f2) ((rd_T58 l1 x7_1).f3) ((rd_T58 l1 x7_1).f4) t206).bind fun bt207 => (if x7_1 < (t198.length : Int) then (some ((t198.set (x7_1 : Int).toNat (⟨bt207.1, bt207.2.1, bt207.2.2.1, bt207.2.2.2.1, bt207.2.2.2.2.1⟩ : S58)), true)) else (none))) = some (r1, r2) := H
        have A41 := Aside0.mk A410
        clear A410
        replace H := Option.bind_eq_some_iff.mp H
        obtain ⟨⟨t207, t208, t211, t212, t213, t214⟩, A420, H⟩ := H
        replace H : (if x7_1 < (t198.length : Int) then (some ((t198.set (x7_1 : Int).toNat (⟨t207, t208, t211, t212, t213⟩ : S58)), true)) else (none)) = some (r1, r2) := H
        have A42 := Aside0.mk A420
        clear A420
        by_cases c43 : x7_1 < (t198.length : Int)
        ·
         rw [if_pos c43] at H
         have c43b0 : decide (x7_1 < (t198.length : Int)) = true := decide_eq_true c43
         clear c43
         obtain ⟨y215, hy215⟩ : ∃ y_ : List (S58), y_ = (t198.set (x7_1 : Int).toNat (⟨t207, t208, t211, t212, t213⟩ : S58)) := ⟨_, rfl⟩
         replace H : (some (y215, true)) = some (r1, r2) := by first | (rw [hy215]; with_reducible exact H) | (have H2_ := (Option.bind_some _ _).symm.trans H; rw [hy215]; with_reducible exact H2_) | (have H2_ := (Option.bind_some _ _).symm.trans H; with_reducible exact H2_) | with_reducible exact H | (rw [hy215]; exact H) | exact H
         have Ny215 := Aside0.mk hy215
         clear hy215
         simp only [Option.some.injEq, Prod.mk.injEq] at H
         obtain ⟨rfl, rfl⟩ := H
         try go_wp2
         replace HO_1 := Aside0.mk (Kd.V_drew HO_1.out)
         replace HO_6 := Aside0.mk (Kd.N_drew HO_6.out)
         replace HO_16 := Aside0.mk (Kd.V_drew HO_16.out)
         replace BK196 := Aside0.mk (blk_drew BK196.out)
         replace HB := Aside0.mk (below_drew1 HB.out)
         have p205 : 0 ≤ (x7_1 : Int) := dq_
         have q205 : x7_1 < (l1.length : Int) := dq_
         obtain ⟨ad205, A205_1, c205_1, e205, hx205_0, hx205_1, hx205_2, hx205_3, hx205_4, hl205_1, hi205_1⟩ := at_T58 (Kd.V_reads' HO_1.out).2.2 x7_1 p205 q205
         cases e205
         obtain ⟨ce205, hce205, hMe205, hcc205⟩ := Kd.V_get HO_1.out z58 x7_1 p205 (by first | exact q205 | exact dq_ | (have e_ := (Kd.V_reads' HO_1.out).1; omega))
         obtain ⟨ua205_1, uc205_1, rfl, ul205_1, ge205_1⟩ := k58_openF hMe205
         have hv205_1 := hcc205 1 _ rfl
         rw [add_field _ _ 1 (by omega)] at hv205_1
         replace hv205_1 := Option.some.inj (hv205_1.symm.trans hx205_1)
         injection hv205_1 with hva_ hvn_ hvc_
         rw [hva_] at ge205_1
         rw [hvc_] at ul205_1
         have HL205_1 := Aside0.mk (show Kd.V (Kd.int .u64) 80 _ w.heap.size _ _ ((rd_T58 l1 x7_1).f1) from Kd.V_mk ul205_1 ge205_1)
         clear hva_ hvn_ hvc_ ge205_1 ul205_1
         clear hcc205 hce205
         have HR205_1 := Aside0.mk hi205_1
         have HC205_1 := Aside0.mk hl205_1
         clear hi205_1 hl205_1
         replace p205 := eq_true p205
         replace q205 := eq_true q205
         refine start_ (n := 15) (S := fun w' => w'.cell? ⟨gb196, 0, none⟩ = some (.int .i64 a0_0) ∧ w'.cell? ⟨gb196, 1, none⟩ = some (.slice A0_1 l0_1.length c0_1) ∧ w'.cell? ⟨gb196, 2, none⟩ = some (.slice A0_2 l0_2.length c0_2) ∧ w'.cell? ⟨gb196, 3, none⟩ = some (.slice A0_3 l0_3.length c0_3) ∧ w'.cell? ⟨gb196, 4, none⟩ = some (.slice A0_4 l0_4.length c0_4) ∧ w'.cell? ⟨gb196, 5, none⟩ = some (.slice A0_5 l0_5.length c0_5) ∧ w'.cell? ⟨gb196, 6, none⟩ = some (.int .i64 a0_6) ∧ w'.cell? ⟨gb196, 7, none⟩ = some (.slice A0_7 l0_7.length c0_7) ∧ w'.cell? (ad205.add ((x7_1).toNat * 5)) = some (.int .i64 ((rd_T58 l1 x7_1).f0)) ∧ w'.cell? ⟨(ad205.add ((x7_1).toNat * 5)).block, (ad205.add ((x7_1).toNat * 5)).off + 1, none⟩ = some (.slice A205_1 ((rd_T58 l1 x7_1).f1).length c205_1) ∧ w'.cell? ⟨(ad205.add ((x7_1).toNat * 5)).block, (ad205.add ((x7_1).toNat * 5)).off + 2, none⟩ = some (.int .i64 ((rd_T58 l1 x7_1).f2)) ∧ w'.cell? ⟨(ad205.add ((x7_1).toNat * 5)).block, (ad205.add ((x7_1).toNat * 5)).off + 3, none⟩ = some (.int .i64 ((rd_T58 l1 x7_1).f3)) ∧ w'.cell? ⟨(ad205.add ((x7_1).toNat * 5)).block, (ad205.add ((x7_1).toNat * 5)).off + 4, none⟩ = some (.int .i64 ((rd_T58 l1 x7_1).f4))) (ds := [14]) #[false, false, false, false, false, false, false, false, false, false, false, false, false, false, false] (by kernel_rfl) rfl rfl ⟨(blk_cell BK196.out 0).trans rfl, (blk_cell BK196.out 1).trans rfl, (blk_cell BK196.out 2).trans rfl, (blk_cell BK196.out 3).trans rfl, (blk_cell BK196.out 4).trans rfl, (blk_cell BK196.out 5).trans rfl, (blk_cell BK196.out 6).trans rfl, (blk_cell BK196.out 7).trans rfl, hx205_0, hx205_1, hx205_2, hx205_3, hx205_4⟩ (fun hHeld => ?_); refine with_tabW clause_Filter.tab15 clause_Filter.bits15 (fun HT_ HW_ => ?_)
         generalize wr.drew = w45 at HO_1 HO_6 HO_16 BK196 HB HL205_1 HR205_1 hx205_0 hx205_1 hx205_2 hx205_3 hx205_4 hHeld ⊢
         refine pure_ (i := 0) (N := some 37) (v := ?_) (a' := ?_) #[true, false, false, false, false, false, false, false, false, false, false, false, false, false, false] rfl rfl (any_of HT_.out (by kernel_rfl)) (fun _ _ _ h => h) (Or.inl ⟨by rfl, ?_⟩) ?_ ?_
         rotate_left
         ·
          intro w'
          go_simp
          with_reducible rfl
         rotate_left
         ·
          simp only [Act.put, List.setIfInBounds_toArray, List.set_cons_zero, List.set_cons_succ, i64_w, i32_w]
          rfl
         refine pure_ (i := 1) (N := some 38) (v := ?_) (a' := ?_) #[true, true, false, false, false, false, false, false, false, false, false, false, false, false, false] rfl rfl (any_of HT_.out (by kernel_rfl)) (fun _ _ _ h => h) (Or.inl ⟨by rfl, ?_⟩) ?_ ?_
         rotate_left
         ·
          intro w'
          go_simp
          with_reducible rfl
         rotate_left
         ·
          simp only [Act.put, List.setIfInBounds_toArray, List.set_cons_zero, List.set_cons_succ, i64_w, i32_w]
          rfl
         refine pure_ (i := 2) (N := some 39) (v := ?_) (a' := ?_) #[true, true, true, false, false, false, false, false, false, false, false, false, false, false, false] rfl rfl (any_of HT_.out (by kernel_rfl)) (fun _ _ _ h => h) (Or.inl ⟨by rfl, ?_⟩) ?_ ?_
         rotate_left
         ·
          intro w'
          go_simp
          with_reducible rfl
         rotate_left
         ·
          simp only [Act.put, List.setIfInBounds_toArray, List.set_cons_zero, List.set_cons_succ, i64_w, i32_w]
          rfl
         refine pure_ (i := 3) (N := some 40) (v := ?_) (a' := ?_) #[true, true, true, true, false, false, false, false, false, false, false, false, false, false, false] rfl rfl (any_of HT_.out (by kernel_rfl)) (fun _ _ _ h => h) (Or.inl ⟨by rfl, ?_⟩) ?_ ?_
         rotate_left
         ·
          intro w'
          go_simp
          with_reducible rfl
         rotate_left
         ·
          simp only [Act.put, List.setIfInBounds_toArray, List.set_cons_zero, List.set_cons_succ, i64_w, i32_w]
          rfl
         refine pure_ (i := 4) (N := some 41) (v := ?_) (a' := ?_) #[true, true, true, true, true, false, false, false, false, false, false, false, false, false, false] rfl rfl (any_of HT_.out (by kernel_rfl)) (fun _ _ _ h => h) (Or.inl ⟨by rfl, ?_⟩) ?_ ?_
         rotate_left
         ·
          intro w'
          go_simp
          with_reducible rfl
         rotate_left
         ·
          simp only [Act.put, List.setIfInBounds_toArray, List.set_cons_zero, List.set_cons_succ, i64_w, i32_w]
          rfl
         refine pure_ (i := 7) (N := some 44) (v := ?_) (a' := ?_) #[true, true, true, true, true, false, false, true, false, false, false, false, false, false, false] rfl rfl (any_of HT_.out (by kernel_rfl)) (fun _ _ _ h => h) (Or.inl ⟨by rfl, ?_⟩) ?_ ?_
         rotate_left
         ·
          intro w'
          go_simp
          with_reducible rfl
         rotate_left
         ·
          simp only [Act.put, List.setIfInBounds_toArray, List.set_cons_zero, List.set_cons_succ, i64_w, i32_w]
          rfl
         refine take_ (i := 5) (N := some 42) (v := ?_) (a' := ?_) #[true, true, true, true, true, true, false, true, false, false, false, false, false, false, false] rfl rfl (take_ofW HT_.out HW_.out (by kernel_rfl)) (fun _ _ _ h => h) (Or.inl ⟨by rfl, ?_⟩) hHeld ?_ ?_
         rotate_left
         ·
          rintro w' ⟨s0, s1, s2, s3, s4, s5, s6, s7, s8, s9, s10, s11, s12⟩
          go_simp
          with_reducible rfl
         rotate_left
         ·
          simp only [Act.put, List.setIfInBounds_toArray, List.set_cons_zero, List.set_cons_succ, i64_w, i32_w]
          rfl
         refine take_ (i := 6) (N := some 43) (v := ?_) (a' := ?_) #[true, true, true, true, true, true, true, true, false, false, false, false, false, false, false] rfl rfl (take_ofW HT_.out HW_.out (by kernel_rfl)) (fun _ _ _ h => h) (Or.inl ⟨by rfl, ?_⟩) hHeld ?_ ?_
         rotate_left
         ·
          rintro w' ⟨s0, s1, s2, s3, s4, s5, s6, s7, s8, s9, s10, s11, s12⟩
          go_simp
          with_reducible rfl
         rotate_left
         ·
          simp only [Act.put, List.setIfInBounds_toArray, List.set_cons_zero, List.set_cons_succ, i64_w, i32_w]
          rfl
         refine one_ (i := 8) (N := some 45) #[true, true, true, true, true, true, true, true, true, false, false, false, false, false, false] rfl rfl (one_of HT_.out (by kernel_rfl)) (by decide) (fun K hK => ?_)
         refine goes_ Tryz.func28 (by kernel_rfl) rfl #[.agg #[.int .i64 a0_0, .slice A0_1 l0_1.length c0_1, .slice A0_2 l0_2.length c0_2, .slice A0_3 l0_3.length c0_3, .slice A0_4 l0_4.length c0_4, .slice A0_5 l0_5.length c0_5, .int .i64 a0_6, .slice A0_7 l0_7.length c0_7], .int .i64 x7_1] (by rfl) rfl rfl ar_ ?_
         with_reducible refine (clause_want.calls a0_0 _ _ l0_1 _ _ l0_2 _ _ l0_3 _ _ l0_4 _ _ l0_5 a0_6 _ _ l0_7 x7_1 t206 _ ?side1 ?side2 ?side3 ?side4 ?side5 ?side6 ?side7 ?side8 ?side9 ?side10 ?side11 ?side12 A41.out).mono ?_
         (case side1 => exact ca_ ((Kd.C_below HR0_1.out HB.out)))
         (case side2 => exact HC0_1.out)
         (case side3 => exact ca_ ((Kd.C_below HR0_2.out HB.out)))
         (case side4 => exact HC0_2.out)
         (case side5 => exact ca_ ((Kd.C_below HR0_3.out HB.out)))
         (case side6 => exact HC0_3.out)
         (case side7 => exact ca_ ((Kd.C_below HR0_4.out HB.out)))
         (case side8 => exact HC0_4.out)
         (case side9 => exact ca_ ((Kd.C_below HR0_5.out HB.out)))
         (case side10 => exact HC0_5.out)
         (case side11 => exact ca_ ((Kd.C_below HR0_7.out HB.out)))
         (case side12 => exact HC0_7.out)
         rintro e w46 ⟨rfl, hb⟩
         have HS8_ := (hb.cell (World.block_lt_of_cell? _ _ (hHeld.2.2.2.2.2.2.2.2.1))).trans (hHeld.2.2.2.2.2.2.2.2.1)
         have HS9_ := (hb.cell (World.block_lt_of_cell? _ _ (hHeld.2.2.2.2.2.2.2.2.2.1))).trans (hHeld.2.2.2.2.2.2.2.2.2.1)
         have HS10_ := (hb.cell (World.block_lt_of_cell? _ _ (hHeld.2.2.2.2.2.2.2.2.2.2.1))).trans (hHeld.2.2.2.2.2.2.2.2.2.2.1)
         have HS11_ := (hb.cell (World.block_lt_of_cell? _ _ (hHeld.2.2.2.2.2.2.2.2.2.2.2.1))).trans (hHeld.2.2.2.2.2.2.2.2.2.2.2.1)
         have HS12_ := (hb.cell (World.block_lt_of_cell? _ _ (hHeld.2.2.2.2.2.2.2.2.2.2.2.2))).trans (hHeld.2.2.2.2.2.2.2.2.2.2.2.2)
         refine ⟨_, rfl, ?_⟩
         replace HO_1 := Aside0.mk (Kd.V_below (vV_ HO_1.out) hb)
         replace HO_6 := Aside0.mk (Kd.N_below (vN_ HO_6.out) hb)
         replace HO_16 := Aside0.mk (Kd.V_below (vV_ HO_16.out) hb)
         replace HL205_1 := Aside0.mk (Kd.V_below (vV_ HL205_1.out) hb)
         replace BK196 := Aside0.mk (blk_below (bk_ BK196.out) hb)
         replace HR205_1 := Aside0.mk (Kd.C_below (by repeat (first | (with_reducible exact HR205_1.out) | (with_reducible refine Kd.C_alloc ?_ _) | (with_reducible refine Kd.C_drewN ?_ _) | (with_reducible refine Kd.C_drew ?_) | exact HR205_1.out)) hb)
         replace HB := Aside0.mk (below_step bel_ hb)
         (try clear hb)
         (try clear hb2)
         (try clear hk)
         (try clear hi)
         refine hK.out _ _ ⟨(blk_cell BK196.out 0).trans rfl, (blk_cell BK196.out 1).trans rfl, (blk_cell BK196.out 2).trans rfl, (blk_cell BK196.out 3).trans rfl, (blk_cell BK196.out 4).trans rfl, (blk_cell BK196.out 5).trans rfl, (blk_cell BK196.out 6).trans rfl, (blk_cell BK196.out 7).trans rfl, HS8_, HS9_, HS10_, HS11_, HS12_⟩ (fun hHeld => ?_)
         clear hK K
         refine norm_ (a' := ?_) ?_ ?_
         rotate_left
         ·
          show Act.put _ (some 45) _ = _
          simp only [Act.put, List.setIfInBounds_toArray, List.set_cons_zero, List.set_cons_succ, i64_w, i32_w]
          rfl
         refine one_ (i := 9) (N := some 46) #[true, true, true, true, true, true, true, true, true, true, false, false, false, false, false] rfl rfl (one_of HT_.out (by kernel_rfl)) (by decide) (fun K hK => ?_)
         refine goes_ Tryz.func29 (by kernel_rfl) rfl #[.agg #[.int .i64 ((rd_T58 l1 x7_1).f0), .slice A205_1 ((rd_T58 l1 x7_1).f1).length c205_1, .int .i64 ((rd_T58 l1 x7_1).f2), .int .i64 ((rd_T58 l1 x7_1).f3), .int .i64 ((rd_T58 l1 x7_1).f4)], .int .i64 t206] (by rfl) rfl rfl ar_ ?_
         with_reducible refine (dom_Dom_Only.calls k1 ((rd_T58 l1 x7_1).f0) (fun k_ => ((P1_ k_ ∨ w.heap.size ≤ k_) ∧ (some k_ ≠ (v199 : Value).ownBlock ∧ k_ ≠ gb196))) _ _ ((rd_T58 l1 x7_1).f1) ((rd_T58 l1 x7_1).f2) ((rd_T58 l1 x7_1).f3) ((rd_T58 l1 x7_1).f4) t206 t207 t208 t211 t212 t213 t214 _ ?side1 ?side2 A42.out).mono ?_
         (case side1 => exact HL205_1.out)
         (case side2 => exact ca_ ((Kd.C_below HRtab.out HB.out)))
         rintro e w47 ⟨v209, rfl, ho0, hb⟩
         have HS8_ := (hb.cell (World.block_lt_of_cell? _ _ (hHeld.2.2.2.2.2.2.2.2.1))).trans (hHeld.2.2.2.2.2.2.2.2.1)
         have HS9_ := (hb.cell (World.block_lt_of_cell? _ _ (hHeld.2.2.2.2.2.2.2.2.2.1))).trans (hHeld.2.2.2.2.2.2.2.2.2.1)
         have HS10_ := (hb.cell (World.block_lt_of_cell? _ _ (hHeld.2.2.2.2.2.2.2.2.2.2.1))).trans (hHeld.2.2.2.2.2.2.2.2.2.2.1)
         have HS11_ := (hb.cell (World.block_lt_of_cell? _ _ (hHeld.2.2.2.2.2.2.2.2.2.2.2.1))).trans (hHeld.2.2.2.2.2.2.2.2.2.2.2.1)
         have HS12_ := (hb.cell (World.block_lt_of_cell? _ _ (hHeld.2.2.2.2.2.2.2.2.2.2.2.2))).trans (hHeld.2.2.2.2.2.2.2.2.2.2.2.2)
         refine ⟨_, rfl, ?_⟩
         replace HO_1 := Aside0.mk (Kd.V_below (vV_ HO_1.out) hb)
         replace HO_16 := Aside0.mk (Kd.V_below (vV_ HO_16.out) hb)
         replace HL205_1 := Aside0.mk (Kd.V_below (vV_ HL205_1.out) hb)
         have HO210 := Aside0.mk (Kd.V_lower (Kd.V_mono (ok' := fun k_ => (P1_ k_ ∨ w.heap.size ≤ k_) ∧ some k_ ≠ (v199 : Value).ownBlock ∧ k_ ≠ gb196) ho0 (fun k_ hk_ => ⟨Or.elim hk_ (fun hs_ => hs_.1) (fun hn_ => (.inr (Nat.le_trans (below_size bel_) hn_))), Or.elim hk_ (fun hs_ => hs_.2.1) (fun hn_ => (Kd.fresh' (Kd.N_lt (vN_ HO_6.out)) k_ hn_)), Or.elim hk_ (fun hs_ => hs_.2.2) (fun hn_ => (Kd.freshB (bk_ BK196.out) k_ hn_))⟩)) (below_size bel_))
         replace HO_6 := Aside0.mk (Kd.N_below (vN_ HO_6.out) hb)
         replace BK196 := Aside0.mk (blk_below (bk_ BK196.out) hb)
         replace HR205_1 := Aside0.mk (Kd.C_below (by repeat (first | (with_reducible exact HR205_1.out) | (with_reducible refine Kd.C_alloc ?_ _) | (with_reducible refine Kd.C_drewN ?_ _) | (with_reducible refine Kd.C_drew ?_) | exact HR205_1.out)) hb)
         replace HB := Aside0.mk (below_step bel_ hb)
         obtain ⟨Ao_v209, co_v209, eo_v209⟩ := Kd.V_slice HO210.out
         subst eo_v209
         (try clear hb)
         (try clear hb2)
         (try clear hk)
         (try clear hi)
         (try clear ho0)
         have p44 : 0 ≤ (x7_1 : Int) := dq_
         have q44 : (x7_1 : Int) < ((t198.length : Int) : Int) := dq_
         obtain ⟨go44, co44, eo44, gb44, gl44, cl44, HG44⟩ := Kd.N_form HO_6.out (by omega)
         (first | cases eo44 | (injection eo44 with ea_ en_ ec_; (first | subst ea_ | (injection ea_ with ea_; subst ea_)); subst ec_; clear en_))
         have GB44 := Aside0.mk gb44
         have GG44 := Aside0.mk HG44
         clear gb44 gl44 HG44
         obtain ⟨ce44, hcl44, hM44, hcc44, hfr44⟩ := Kd.N_elem HO_6.out z58 (x7_1 : Int) p44 q44
         obtain ⟨ua44_1, uc44_1, rfl, ul44_1, ge44_1⟩ := k58_openF hM44
         have hx44_0 : World.cell? _ ⟨go44, (x7_1 : Int).toNat * 5, none⟩ = some (.int .i64 ((rd_T58 t198 x7_1).f0)) := hcc44 0 _ rfl
         have hx44_1 : World.cell? _ ⟨go44, (x7_1 : Int).toNat * 5 + 1, none⟩ = some (.slice ua44_1 ((rd_T58 t198 x7_1).f1).length uc44_1) := hcc44 1 _ rfl
         have hx44_2 : World.cell? _ ⟨go44, (x7_1 : Int).toNat * 5 + 2, none⟩ = some (.int .i64 ((rd_T58 t198 x7_1).f2)) := hcc44 2 _ rfl
         have hx44_3 : World.cell? _ ⟨go44, (x7_1 : Int).toNat * 5 + 3, none⟩ = some (.int .i64 ((rd_T58 t198 x7_1).f3)) := hcc44 3 _ rfl
         have hx44_4 : World.cell? _ ⟨go44, (x7_1 : Int).toNat * 5 + 4, none⟩ = some (.int .i64 ((rd_T58 t198 x7_1).f4)) := hcc44 4 _ rfl
         have hf44_0 : World.frozen? _ ⟨go44, (x7_1 : Int).toNat * 5, none⟩ = false := hfr44 0
         have hf44_1 : World.frozen? _ ⟨go44, (x7_1 : Int).toNat * 5 + 1, none⟩ = false := hfr44 1
         have hf44_2 : World.frozen? _ ⟨go44, (x7_1 : Int).toNat * 5 + 2, none⟩ = false := hfr44 2
         have hf44_3 : World.frozen? _ ⟨go44, (x7_1 : Int).toNat * 5 + 3, none⟩ = false := hfr44 3
         have hf44_4 : World.frozen? _ ⟨go44, (x7_1 : Int).toNat * 5 + 4, none⟩ = false := hfr44 4
         clear hcl44 hcc44 hfr44 hM44
         replace p44 := eq_true p44
         replace q44 := eq_true q44
         have HX48 := Aside0.mk (show Kd.N k58 58 _ w.heap.size (fun k_ => (P1_ k_ ∨ w.heap.size ≤ k_) ∧ k_ ≠ gb196) (.slice (some ⟨go44, 0, none⟩) t198.length co44) t198 from (Kd.N_mono (HO_6.out) (fun k_ hk => ⟨hk.1, hk.2⟩)))
         obtain ⟨ce48, hcl48, hM48, hcc48, hfr48⟩ := Kd.N_elem HX48.out z58 (x7_1 : Int) (dq_) (by have h_ : (x7_1 : Int) < ((t198.length : Int) : Int) := dq_; first | exact h_ | (have e_ := (Kd.N_reads' HO_6.out).1; omega) | simpa using h_)
         obtain ⟨ua48_1, uc48_1, rfl, ul48_1, ge48_1⟩ := k58_openF hM48
         have HP48 := (Kd.N_seg HX48.out (x7_1 : Int) (dq_) (by have h_ : (x7_1 : Int) < ((t198.length : Int) : Int) := dq_; first | exact h_ | (have e_ := (Kd.N_reads' HO_6.out).1; omega) | simpa using h_) (seg := [.int .i64 t207, (.slice Ao_v209 t208.length co_v209), .int .i64 t211, .int .i64 t212, .int .i64 t213]) (j := 0) hcl48 hcc48 (show 5 ≤ 5 from by decide) (x' := (⟨t207, t208, t211, t212, t213⟩ : S58)) (k58_mkF _ _ (⟨t207, t208, t211, t212, t213⟩ : S58) (Kd.V_reads' (Kd.V_mono (ok' := (fun k_ => ((fun k_ => (P1_ k_ ∨ w.heap.size ≤ k_) ∧ k_ ≠ gb196)) k_ ∧ k_ ≠ go44)) (HO210.out) (fun k_ hk => ⟨⟨hk.1, hk.2.2⟩, fun e_ => (hk.2.1) (by rw [e_]; rfl)⟩))).2.1 (Kd.V_F (Kd.V_mono (ok' := (fun k_ => ((fun k_ => (P1_ k_ ∨ w.heap.size ≤ k_) ∧ k_ ≠ gb196)) k_ ∧ k_ ≠ go44)) (HO210.out) (fun k_ hk => ⟨⟨hk.1, hk.2.2⟩, fun e_ => (hk.2.1) (by rw [e_]; rfl)⟩)))) (fun _ hk => hk)).1
         rw [← Ny215.out] at HP48
         have HQ48 := Aside0.mk HP48
         clear hcl48 hcc48 hfr48 hM48 HP48
         refine hK.out _ _ ⟨(blk_cell BK196.out 0).trans rfl, (blk_cell BK196.out 1).trans rfl, (blk_cell BK196.out 2).trans rfl, (blk_cell BK196.out 3).trans rfl, (blk_cell BK196.out 4).trans rfl, (blk_cell BK196.out 5).trans rfl, (blk_cell BK196.out 6).trans rfl, (blk_cell BK196.out 7).trans rfl, HS8_, HS9_, HS10_, HS11_, HS12_⟩ (fun hHeld => ?_)
         clear hK K
         refine norm_ (a' := ?_) ?_ ?_
         rotate_left
         ·
          show Act.put _ (some 46) _ = _
          simp only [Act.put, List.setIfInBounds_toArray, List.set_cons_zero, List.set_cons_succ, i64_w, i32_w]
          rfl
         refine pure_ (i := 10) (N := some 36) (v := ?_) (a' := ?_) #[true, true, true, true, true, true, true, true, true, true, true, false, false, false, false] rfl rfl (any_of HT_.out (by kernel_rfl)) (fun _ _ _ h => h) (Or.inl ⟨by rfl, ?_⟩) ?_ ?_
         rotate_left
         ·
          intro w'
          go_simp
          with_reducible rfl
         rotate_left
         ·
          simp only [Act.put, List.setIfInBounds_toArray, List.set_cons_zero, List.set_cons_succ, i64_w, i32_w]
          rfl
         refine pure_ (i := 11) (N := some 47) (v := ?_) (a' := ?_) #[true, true, true, true, true, true, true, true, true, true, true, true, false, false, false] rfl rfl (any_of HT_.out (by kernel_rfl)) (fun _ _ _ h => h) (Or.inl ⟨by rfl, ?_⟩) ?_ ?_
         rotate_left
         ·
          intro w'
          go_simp
          with_reducible rfl
         rotate_left
         ·
          simp only [Act.put, List.setIfInBounds_toArray, List.set_cons_zero, List.set_cons_succ, i64_w, i32_w]
          rfl
         refine pure_ (i := 12) (N := some 48) (v := ?_) (a' := ?_) #[true, true, true, true, true, true, true, true, true, true, true, true, true, false, false] rfl rfl (any_of HT_.out (by kernel_rfl)) (fun _ _ _ h => h) (Or.inl ⟨by rfl, ?_⟩) ?_ ?_
         rotate_left
         ·
          intro w'
          go_simp
          with_reducible rfl
         rotate_left
         ·
          simp only [Act.put, List.setIfInBounds_toArray, List.set_cons_zero, List.set_cons_succ, i64_w, i32_w]
          rfl
         refine pure_ (i := 13) (N := some 49) (v := ?_) (a' := ?_) #[true, true, true, true, true, true, true, true, true, true, true, true, true, true, false] rfl rfl (any_of HT_.out (by kernel_rfl)) (fun _ _ _ h => h) (Or.inl ⟨by rfl, ?_⟩) ?_ ?_
         rotate_left
         ·
          intro w'
          go_simp
          with_reducible rfl
         rotate_left
         ·
          simp only [Act.put, List.setIfInBounds_toArray, List.set_cons_zero, List.set_cons_succ, i64_w, i32_w]
          rfl
         refine last_ (i := 14) (N := none) #[true, true, true, true, true, true, true, true, true, true, true, true, true, true, true] rfl rfl (one_of HT_.out (by kernel_rfl)) (by decide) (fun K hK => ?_)
         refine skip_ (w1 := ?_) (by rfl) rfl ?_ ?_
         rotate_left
         ·
          go_simp
          rfl
         refine hK.out _ _ ?_
         clear hK K
         refine done_ (done_of HT_.out (by kernel_rfl)) ?_
         try go_wp2
         go_ret2
         exact ⟨_, by first | rfl | (simp [errW_none, errW_some] <;> rfl) | (simp [*, errW_none, errW_some] <;> rfl), by refine vN_ ?_; exact Kd.N_mono HQ48.out (fun _ hk => hk.1), by repeat (first | (with_reducible first | exact HB.out | apply below_alloc | apply pw_below_drewN | apply below_drew1 | refine below_set ?_ GB44.out | refine below_set ?_ GB44.out | refine below_set ?_ GB44.out | refine below_set ?_ GB44.out | refine below_set ?_ GB44.out | refine below_set ?_ GE196.out) | exact HB.out)⟩
        ·
         rw [if_neg c43] at H
         exact absurd H (by simp)
       ·
        rw [if_neg c40] at H
        exact absurd H (by simp)
      ·
       rw [if_neg c39] at H
       exact absurd H (by simp)
 ·
  replace c4 := Bool.eq_false_iff.mpr c4
  subst c4
  have H1 : (none) = some (r1, r2) := by rw [if_neg (show ¬ (false = true) by decide)] at H; exact H
  clear H
  have H := H1
  clear H1
  exact absurd H (by simp)

end Go.Proofs.YtmhchlbbfpmdgaaGreatDoor.XClauseFixed
