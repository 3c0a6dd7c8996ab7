-- by xprint.py, a program of this session, over the kit's print
import Derived.Test.YtmhchlbbfpmdgaaGreatDoorXCKex0
import Derived.Test.YtmhchlbbfpmdgaaGreatDoorXCKex7
import Derived.Test.YtmhchlbbfpmdgaaGreatDoorXCKex12
import Derived.Test.YtmhchlbbfpmdgaaGreatDoorXCKex15
import Derived.Test.YtmhchlbbfpmdgaaGreatDoorSq
namespace Go.Proofs.YtmhchlbbfpmdgaaGreatDoor.XClauseKeeps
open Go.RowKit Go.Proofs.YtmhchlbbfpmdgaaGreatDoor.Sq Go.Proofs.YtmhchlbbfpmdgaaGreatDoorW.PrintWords Go.Proofs.YtmhchlbbfpmdgaaGreatDoorW.PrintLast Go.Proofs.YtmhchlbbfpmdgaaGreatDoorW.PrintMore
attribute [local go_sem] max2_int min2_int max_two min_two max_three min_three max_four min_four   -- for this text's walks alone
set_option linter.unusedVariables false
set_option linter.unusedSimpArgs false

/-! ### clause_Filter: function 9 -/
mutual
def clause_Filter.l0 : Nat → List (S58) → List (S58) → Int → List (S58) → Int → Int → Int → List Int → List Int → List Int → List Int → List Int → Int → List (List Int) → Option ((List (S58)) × Bool)
 | 0, _, _, _, _, _, _, _, _, _, _, _, _, _, _ => none
 | k + 1, x1, x6, x7, x16, x17, x18, x318000, x318001, x318002, x318003, x318004, x318005, x318006, x318007 => if x18 < x17 then (if 0 ≤ x18 then (if x18 < (x16.length : Int) then ((clause_want.f x318000 x318001 x318002 x318003 x318004 x318005 x318006 x318007 x18).bind fun t324 => ((dom_Dom_Has.f ((rd_T58 x16 x18).f0) ((rd_T58 x16 x18).f1) ((rd_T58 x16 x18).f2) ((rd_T58 x16 x18).f3) ((rd_T58 x16 x18).f4) t324).bind fun t325 => (clause_Filter.j1 k x1 x6 x7 x18 x16 x17 x18 (!t325) x318000 x318001 x318002 x318003 x318004 x318005 x318006 x318007))) else (none)) else (none)) else (if x7 < 0 then (some (([] : List (S58)), false)) else (if 0 ≤ x7 then (if x7 < (x1.length : Int) then ((clause_want.f x318000 x318001 x318002 x318003 x318004 x318005 x318006 x318007 x7).bind fun t327 => ((dom_Dom_Only.f k ((rd_T58 x1 x7).f0) ((rd_T58 x1 x7).f1) ((rd_T58 x1 x7).f2) ((rd_T58 x1 x7).f3) ((rd_T58 x1 x7).f4) t327).bind fun bt328 => (if x7 < (x6.length : Int) then (some ((x6.set (x7 : Int).toNat (⟨bt328.1, bt328.2.1, bt328.2.2.1, bt328.2.2.2.1, bt328.2.2.2.2.1⟩ : S58)), true)) else (none)))) else (none)) else (none)))
def clause_Filter.j1 : Nat → List (S58) → List (S58) → Int → Int → List (S58) → Int → Int → Bool → Int → List Int → List Int → List Int → List Int → List Int → Int → List (List Int) → Option ((List (S58)) × Bool)
 | 0, _, _, _, _, _, _, _, _, _, _, _, _, _, _, _, _ => none
 | k + 1, x1, x6, x7, x8, x16, x17, x18, x28, x318000, x318001, x318002, x318003, x318004, x318005, x318006, x318007 => if x28 = true then (clause_Filter.l0 k x1 x6 x7 x16 x17 (wrap64 (x18 + 1)) x318000 x318001 x318002 x318003 x318004 x318005 x318006 x318007) else (if x7 ≥ 0 then (some (x6, true)) else (clause_Filter.l0 k x1 x6 x8 x16 x17 (wrap64 (x18 + 1)) x318000 x318001 x318002 x318003 x318004 x318005 x318006 x318007))
end
def clause_Filter.f (k : Nat) (a0_0 : Int) (l0_1 : List Int) (l0_2 : List Int) (l0_3 : List Int) (l0_4 : List Int) (l0_5 : List Int) (a0_6 : Int) (l0_7 : List (List Int)) (l1 : List (S58)) : Option ((List (S58)) × Bool) := (prop_Fits.f k a0_0 l0_1 l0_2 l0_3 l0_4 l0_5 a0_6 l0_7 l1 12 12).bind fun t318 => (if t318 = true then ((slices_CloneDom.f l1).bind fun t319 => (clause_Filter.l0 k l1 t319 (-1) l1 (l1.length : Int) 0 a0_0 l0_1 l0_2 l0_3 l0_4 l0_5 a0_6 l0_7)) else (none))
theorem clause_Filter.mono_l : ∀ k, (∀ y0 y1 y2 y3 y4 y5 y6 y7 y8 y9 y10 y11 y12 y13, LeO (clause_Filter.l0 k y0 y1 y2 y3 y4 y5 y6 y7 y8 y9 y10 y11 y12 y13) (clause_Filter.l0 (k + 1) y0 y1 y2 y3 y4 y5 y6 y7 y8 y9 y10 y11 y12 y13)) ∧ (∀ y0 y1 y2 y3 y4 y5 y6 y7 y8 y9 y10 y11 y12 y13 y14 y15, LeO (clause_Filter.j1 k y0 y1 y2 y3 y4 y5 y6 y7 y8 y9 y10 y11 y12 y13 y14 y15) (clause_Filter.j1 (k + 1) y0 y1 y2 y3 y4 y5 y6 y7 y8 y9 y10 y11 y12 y13 y14 y15))
 | 0 => ⟨fun _ _ _ _ _ _ _ _ _ _ _ _ _ _ r h => by simp [clause_Filter.l0] at h, fun _ _ _ _ _ _ _ _ _ _ _ _ _ _ _ _ r h => by simp [clause_Filter.j1] at h⟩
 | k + 1 => by
  obtain ⟨ih0, ih1⟩ := clause_Filter.mono_l k
  refine ⟨?_, ?_⟩
  ·
   intro y0 y1 y2 y3 y4 y5 y6 y7 y8 y9 y10 y11 y12 y13
   unfold clause_Filter.l0
   have m0 := @dom_Dom_Only.mono
   have m1 := @prop_Fits.mono
   exact leo_
  ·
   intro y0 y1 y2 y3 y4 y5 y6 y7 y8 y9 y10 y11 y12 y13 y14 y15
   unfold clause_Filter.j1
   have m0 := @dom_Dom_Only.mono
   have m1 := @prop_Fits.mono
   exact leo_
theorem clause_Filter.mono : ∀ a0 a1 a2 a3 a4 a5 a6 a7 a8 k, LeO (clause_Filter.f k a0 a1 a2 a3 a4 a5 a6 a7 a8) (clause_Filter.f (k + 1) a0 a1 a2 a3 a4 a5 a6 a7 a8) := by
 intro a0 a1 a2 a3 a4 a5 a6 a7 a8 k
 obtain ⟨ih0, ih1⟩ := clause_Filter.mono_l k
 unfold clause_Filter.f
 have m0 := @dom_Dom_Only.mono
 have m1 := @prop_Fits.mono
 exact leo_
def clause_Filter.T15 : Bool × List (List Nat × List Nat) := (true, [([], []), ([], []), ([], []), ([], []), ([2, 3], [2, 3]), ([4], [4]), ([], []), ([], []), ([6, 7], [6, 7]), ([5, 8, 8], [5, 8]), ([9], [9]), ([10], [10]), ([10], [10]), ([0, 1, 0, 1, 2, 3, 4, 5, 6, 7, 8, 9, 10, 11], [0, 1]), ([13, 11, 9, 0, 1, 2, 3, 4, 5, 6, 7, 8, 9, 10, 11], [11, 13])])
def clause_Filter.B15 : List Nat := [0, 0, 0, 0, 12, 28, 0, 0, 192, 508, 1020, 2044, 2044, 4095, 12287]
theorem clause_Filter.tab15 : rtab .any (opsOf Tryz.f9 15) = clause_Filter.T15 := by kernel_rfl
theorem clause_Filter.bits15 : waitsOk clause_Filter.T15.2 clause_Filter.B15 = true := by kernel_rfl
set_option maxHeartbeats 8000000 in
set_option maxRecDepth 100000 in
theorem clause_Filter.calls (k : Nat) (a0_0 : Int) (A0_1 : Option Addr) (c0_1 : Nat) (l0_1 : List Int) (A0_2 : Option Addr) (c0_2 : Nat) (l0_2 : List Int) (A0_3 : Option Addr) (c0_3 : Nat) (l0_3 : List Int) (A0_4 : Option Addr) (c0_4 : Nat) (l0_4 : List Int) (A0_5 : Option Addr) (c0_5 : Nat) (l0_5 : List Int) (a0_6 : Int) (A0_7 : Option Addr) (c0_7 : Nat) (l0_7 : List (List Int)) (P1_ : Nat → Prop) (A1 : Option Addr) (c1 : Nat) (l1 : List (S58)) (r1 : List (S58)) (r2 : Bool) (w : World) (hr0_1 : Kd.C (Kd.int .i64) w A0_1 l0_1.length l0_1) (hc0_1 : l0_1.length ≤ c0_1) (hr0_2 : Kd.C (Kd.int .i64) w A0_2 l0_2.length l0_2) (hc0_2 : l0_2.length ≤ c0_2) (hr0_3 : Kd.C (Kd.int .i64) w A0_3 l0_3.length l0_3) (hc0_3 : l0_3.length ≤ c0_3) (hr0_4 : Kd.C (Kd.int .i64) w A0_4 l0_4.length l0_4) (hc0_4 : l0_4.length ≤ c0_4) (hr0_5 : Kd.C (Kd.int .i64) w A0_5 l0_5.length l0_5) (hc0_5 : l0_5.length ≤ c0_5) (hr0_7 : Kd.C (Kd.slice 3 (Kd.int .i64)) w A0_7 l0_7.length l0_7) (hc0_7 : l0_7.length ≤ c0_7) (hs1 : Kd.V k58 58 w w.heap.size (fun k_ => P1_ k_) (.slice A1 l1.length c1) l1) (hrtab : Kd.C (Kd.int .u8) w (some ⟨0, 0, none⟩) tabL.length tabL) (h : clause_Filter.f k a0_0 l0_1 l0_2 l0_3 l0_4 l0_5 a0_6 l0_7 l1 = some (r1, r2)) :
  Calls Tryz.prog 9 #[.agg #[.int .i64 a0_0, .slice A0_1 l0_1.length c0_1, .slice A0_2 l0_2.length c0_2, .slice A0_3 l0_3.length c0_3, .slice A0_4 l0_4.length c0_4, .slice A0_5 l0_5.length c0_5, .int .i64 a0_6, .slice A0_7 l0_7.length c0_7], .slice A1 l1.length c1] w fun e w' => ∃ v0_ : Value, e = .returned (.tuple #[v0_, .bool r2]) ∧ Kd.N k58 58 w' w.heap.size (fun k_ => (P1_ k_ ∨ w.heap.size ≤ k_)) v0_ r1 ∧ Below w.heap.size w w' := by
 have hu32 := Tryz.underlying32
 have hu58 := Tryz.underlying58
 have HR0_1 := Aside0.mk hr0_1
 have HC0_1 := Aside0.mk hc0_1
 clear hr0_1 hc0_1
 have HR0_2 := Aside0.mk hr0_2
 have HC0_2 := Aside0.mk hc0_2
 clear hr0_2 hc0_2
 have HR0_3 := Aside0.mk hr0_3
 have HC0_3 := Aside0.mk hc0_3
 clear hr0_3 hc0_3
 have HR0_4 := Aside0.mk hr0_4
 have HC0_4 := Aside0.mk hc0_4
 clear hr0_4 hc0_4
 have HR0_5 := Aside0.mk hr0_5
 have HC0_5 := Aside0.mk hc0_5
 clear hr0_5 hc0_5
 have HR0_7 := Aside0.mk hr0_7
 have HC0_7 := Aside0.mk hc0_7
 clear hr0_7 hc0_7
 have HO1 := Aside0.mk (show Kd.V k58 58 w w.heap.size (fun k_ => (P1_ k_ ∨ w.heap.size ≤ k_)) (.slice A1 l1.length c1) l1 from Kd.V_mono hs1 (fun k_ hk => .inl hk))
 have HRtab := Aside0.mk hrtab
 clear hrtab
 have HB := Aside0.mk (Below.refl w.heap.size w)
 have H : ((prop_Fits.f k a0_0 l0_1 l0_2 l0_3 l0_4 l0_5 a0_6 l0_7 l1 12 12).bind fun t318 => (if t318 = true then ((slices_CloneDom.f l1).bind fun t319 => (clause_Filter.l0 k l1 t319 (-1) l1 (l1.length : Int) 0 a0_0 l0_1 l0_2 l0_3 l0_4 l0_5 a0_6 l0_7)) else (none))) = some (r1, r2) := h
 clear h
 replace H := Option.bind_eq_some_iff.mp H
 obtain ⟨t318, A30, H⟩ := H
 replace H : (if t318 = true then ((slices_CloneDom.f l1).bind fun t319 => (clause_Filter.l0 k l1 t319 (-1) l1 (l1.length : Int) 0 a0_0 l0_1 l0_2 l0_3 l0_4 l0_5 a0_6 l0_7)) else (none)) = some (r1, r2) := H
 have A3 := Aside0.mk A30
 clear A30
 by_cases c4 : t318 = true
 ·
  subst c4
  have H1 : ((slices_CloneDom.f l1).bind fun t319 => (clause_Filter.l0 k l1 t319 (-1) l1 (l1.length : Int) 0 a0_0 l0_1 l0_2 l0_3 l0_4 l0_5 a0_6 l0_7)) = some (r1, r2) := by rw [if_pos rfl] at H; exact H
  clear H
  have H := H1
  clear H1
  replace H := Option.bind_eq_some_iff.mp H
  obtain ⟨t319, A50, H⟩ := H
  replace H : (clause_Filter.l0 k l1 t319 (-1) l1 (l1.length : Int) 0 a0_0 l0_1 l0_2 l0_3 l0_4 l0_5 a0_6 l0_7) = some (r1, r2) := H
  have A5 := Aside0.mk A50
  clear A50
  have H' := Aside0.mk H
  clear H
  go_enter Tryz.func9, Tryz.ntmps9
  go_wp2_with (first | ((with_reducible refine gate_dst (N := 2) rfl ?_); refine bxe_ (N := 2) (cs := #[.int .i64 a0_0, .slice A0_1 l0_1.length c0_1, .slice A0_2 l0_2.length c0_2, .slice A0_3 l0_3.length c0_3, .slice A0_4 l0_4.length c0_4, .slice A0_5 l0_5.length c0_5, .int .i64 a0_6, .slice A0_7 l0_7.length c0_7]) (t := 32) ?_; intro gb317 hg w6 hbox hb; replace HO1 := Aside0.mk (Kd.V_below (Kd.V_elderB (vV_ HO1.out) gb317 (Nat.le_of_eq hg.symm)) hb); have BK317 := Aside0.mk (hbox); have GW317 := Aside0.mk (by rw [hg]; exact (below_size bel_) : w.heap.size ≤ gb317); have GE317 := GW317; replace HB := Aside0.mk (below_step bel_ hb); clear hb hbox hg; obtain ⟨hcz7_0, hcz7_1, hcz7_2, hcz7_3, hcz7_4, hcz7_5, hcz7_6, hcz7_7, hfz7_0, hfz7_1, hfz7_2, hfz7_3, hfz7_4, hfz7_5, hfz7_6, hfz7_7⟩ := cel8_ BK317.out) | ((with_reducible refine gate_callee (f := 26) rfl ?_); refine goesL_ (some 12) rfl rfl Tryz.func26 (by kernel_rfl) rfl #[.agg #[.int .i64 a0_0, .slice A0_1 l0_1.length c0_1, .slice A0_2 l0_2.length c0_2, .slice A0_3 l0_3.length c0_3, .slice A0_4 l0_4.length c0_4, .slice A0_5 l0_5.length c0_5, .int .i64 a0_6, .slice A0_7 l0_7.length c0_7], .slice A1 l1.length c1, .int .i64 12, .int .i64 12] rfl ar_ ?_; (with_reducible refine (prop_Fits.calls k a0_0 _ _ l0_1 _ _ l0_2 _ _ l0_3 _ _ l0_4 _ _ l0_5 a0_6 _ _ l0_7 _ _ l1 12 12 true _ ?_ ?_ ?_ ?_ ?_ ?_ ?_ ?_ ?_ ?_ ?_ ?_ ?_ ?_ A3.out).mono ?_); exact ca_ ((Kd.C_below HR0_1.out HB.out)); exact HC0_1.out; exact ca_ ((Kd.C_below HR0_2.out HB.out)); exact HC0_2.out; exact ca_ ((Kd.C_below HR0_3.out HB.out)); exact HC0_3.out; exact ca_ ((Kd.C_below HR0_4.out HB.out)); exact HC0_4.out; exact ca_ ((Kd.C_below HR0_5.out HB.out)); exact HC0_5.out; exact ca_ ((Kd.C_below HR0_7.out HB.out)); exact HC0_7.out; exact ca_ ((Kd.V_reads' HO1.out).2.2); exact (Kd.V_reads' HO1.out).2.1; rintro e w8 ⟨rfl, hb⟩; refine ⟨_, rfl, ?_⟩; replace HO1 := Aside0.mk (Kd.V_below (vV_ HO1.out) hb); replace BK317 := Aside0.mk (blk_below (bk_ BK317.out) hb); replace HB := Aside0.mk (below_step bel_ hb); clear hb) | ((with_reducible refine gate_callee (f := 27) rfl ?_); refine goesL_ (some 15) rfl rfl Tryz.func27 (by kernel_rfl) rfl #[.slice A1 l1.length c1] rfl ar_ ?_; (with_reducible refine (slices_CloneDom.calls (fun k_ => ((P1_ k_ ∨ w.heap.size ≤ k_) ∧ k_ ≠ gb317)) _ _ l1 t319 _ ?_ A5.out).mono ?_); exact HO1.out; rintro e w9 ⟨v320, rfl, ho0, hb⟩; refine ⟨_, rfl, ?_⟩; replace HO1 := Aside0.mk (Kd.V_elder' (vV_ HO1.out) (Kd.N_base ho0) hb); have HO321 := Aside0.mk (Kd.N_lower (Kd.N_mono (ok' := fun k_ => (P1_ k_ ∨ w.heap.size ≤ k_) ∧ k_ ≠ gb317) ho0 (fun k_ hk_ => ⟨Or.elim hk_ (fun hs_ => hs_.1) (fun hn_ => (.inr (Nat.le_trans (below_size bel_) hn_))), Or.elim hk_ (fun hs_ => hs_.2) (fun hn_ => (Kd.freshB (bk_ BK317.out) k_ hn_))⟩)) (below_size bel_)); replace BK317 := Aside0.mk (blk_below (bk_ BK317.out) hb); replace HB := Aside0.mk (below_step bel_ hb); clear hb ho0))
  go_loopg [7, 18] k (fun kq v7 v18 w' => ∃ (x7_1 : Int) (x18_1 : Int), v7 = .int .i64 x7_1 ∧ v18 = .int .i64 x18_1 ∧ Aside0 (clause_Filter.l0 kq l1 t319 x7_1 l1 (l1.length : Int) x18_1 a0_0 l0_1 l0_2 l0_3 l0_4 l0_5 a0_6 l0_7 = some (r1, r2)) ∧ Aside0 (kq ≤ k) ∧ Aside0 (Kd.V k58 58 w' w.heap.size (fun k_ => (P1_ k_ ∨ w.heap.size ≤ k_) ∧ some k_ ≠ (v320 : Value).ownBlock ∧ k_ ≠ gb317) (.slice A1 l1.length c1) l1) ∧ Aside0 (Kd.N k58 58 w' w.heap.size (fun k_ => (P1_ k_ ∨ w.heap.size ≤ k_) ∧ k_ ≠ gb317) v320 t319) ∧ Aside0 (Kd.V k58 58 w' w.heap.size (fun k_ => (P1_ k_ ∨ w.heap.size ≤ k_) ∧ some k_ ≠ (v320 : Value).ownBlock ∧ k_ ≠ gb317) (.slice A1 l1.length c1) l1) ∧ Aside0 (w'.heap[gb317]? = some (.cells #[.int .i64 a0_0, (.slice A0_1 l0_1.length c0_1), (.slice A0_2 l0_2.length c0_2), (.slice A0_3 l0_3.length c0_3), (.slice A0_4 l0_4.length c0_4), (.slice A0_5 l0_5.length c0_5), .int .i64 a0_6, (.slice A0_7 l0_7.length c0_7)] 32 (0, 0))) ∧ Aside0 (Below w.heap.size w w'))
  case atStart => exact ⟨((-1)), (0), eq_, eq_, H', ⟨Nat.le_refl _⟩, ⟨by refine vV_ ?_; exact Kd.V_mono HO1.out (fun _ hk => ⟨hk.1.1, ⟨hk.2, hk.1.2⟩⟩)⟩, ⟨by refine vN_ ?_; exact HO321.out⟩, ⟨by refine vV_ ?_; exact Kd.V_mono HO1.out (fun _ hk => ⟨hk.1.1, ⟨hk.2, hk.1.2⟩⟩)⟩, ⟨by refine bk_ ?_; exact BK317.out⟩, ⟨bel_⟩⟩
  case round =>
   clear H'
   try clear c1
   try clear c2
   try clear p2
   try clear c4
   try clear c9
   try clear hcz7_0
   try clear hcz7_1
   try clear hcz7_2
   try clear hcz7_3
   try clear hcz7_4
   try clear hcz7_5
   try clear hcz7_6
   try clear hcz7_7
   try clear hfz7_0
   try clear hfz7_1
   try clear hfz7_2
   try clear hfz7_3
   try clear hfz7_4
   try clear hfz7_5
   try clear hfz7_6
   try clear hfz7_7
   obtain ⟨x7_1, x18_1, rfl, rfl, HA, HK1, HO_1, HO_6, HO_16, BK317, HB⟩ := hrel
   cases gk with
   | zero => exact absurd HA.out (by simp [clause_Filter.l0])
   | succ k1 =>
    have H := HA.out
    clear HA
    simp only [clause_Filter.l0] at H
    by_cases c10 : x18_1 < (l1.length : Int)
    ·
     rw [if_pos c10] at H
     have c10b0 : decide (x18_1 < (l1.length : Int)) = true := decide_eq_true c10
     clear c10
     by_cases c11 : 0 ≤ x18_1
     ·
      rw [if_pos c11] at H
      have c11b0 : decide (0 ≤ x18_1) = true := decide_eq_true c11
      clear c11
      by_cases c12 : x18_1 < (l1.length : Int)
      ·
       rw [if_pos c12] at H
       have c12b0 : decide (x18_1 < (l1.length : Int)) = true := decide_eq_true c12
       clear c12
       have HC13 := Aside0.mk H
       clear H
       have p322 : 0 ≤ (x18_1 : Int) := dq_
       have q322 : x18_1 < (l1.length : Int) := dq_
       obtain ⟨ad322, A322_1, c322_1, e322, hx322_0, hx322_1, hx322_2, hx322_3, hx322_4, hl322_1, hi322_1⟩ := at_T58 (Kd.V_reads' HO_16.out).2.2 x18_1 p322 q322
       cases e322
       obtain ⟨ce322, hce322, hMe322, hcc322⟩ := Kd.V_get HO_16.out z58 x18_1 p322 (by first | exact q322 | exact dq_ | (have e_ := (Kd.V_reads' HO_16.out).1; omega))
       obtain ⟨ua322_1, uc322_1, rfl, ul322_1, ge322_1⟩ := k58_openF hMe322
       have hv322_1 := hcc322 1 _ rfl
       rw [add_field _ _ 1 (by omega)] at hv322_1
       replace hv322_1 := Option.some.inj (hv322_1.symm.trans hx322_1)
       injection hv322_1 with hva_ hvn_ hvc_
       rw [hva_] at ge322_1
       rw [hvc_] at ul322_1
       have HL322_1 := Aside0.mk (show Kd.V (Kd.int .u64) 80 _ w.heap.size _ _ ((rd_T58 l1 x18_1).f1) from Kd.V_mk ul322_1 ge322_1)
       clear hva_ hvn_ hvc_ ge322_1 ul322_1
       clear hcc322 hce322
       have HC322_1 := Aside0.mk hl322_1
       clear hi322_1 hl322_1
       replace p322 := eq_true p322
       replace q322 := eq_true q322
       go_upto_region 8 with (first | ((with_reducible refine gate_dst (N := 9) rfl ?_); refine bxe_ (N := 9) (cs := #[.int .i64 0, .slice none 0 0, .int .i64 0, .int .i64 0, .int .i64 0]) (t := 58) ?_; intro gb323 hg w14 hbox hb; replace HO_1 := Aside0.mk (Kd.V_below (Kd.V_elderB (vV_ HO_1.out) gb323 (Nat.le_of_eq hg.symm)) hb); replace HO_6 := Aside0.mk (Kd.N_below (Kd.N_elderB (vN_ HO_6.out) gb323 (Nat.le_of_eq hg.symm)) hb); replace HO_16 := Aside0.mk (Kd.V_below (Kd.V_elderB (vV_ HO_16.out) gb323 (Nat.le_of_eq hg.symm)) hb); replace HL322_1 := Aside0.mk (Kd.V_below (Kd.V_elderB (vV_ HL322_1.out) gb323 (Nat.le_of_eq hg.symm)) hb); have BK323 := Aside0.mk (hbox); have GW323 := Aside0.mk (by rw [hg]; exact (below_size bel_) : w.heap.size ≤ gb323); have GE323 := GW323; replace HB := Aside0.mk (below_step bel_ hb); have NB317_323 := Aside0.mk ((by rw [hg]; exact Nat.ne_of_lt (blk_lt (bk_ BK317.out)) : gb317 ≠ gb323)); have NB323_317 := Aside0.mk ((by rw [hg]; exact Nat.ne_of_gt (blk_lt (bk_ BK317.out)) : gb323 ≠ gb317)); replace BK317 := Aside0.mk (blk_below (bk_ BK317.out) hb); clear hb hbox hg; have hnb15 := NB323_317.out; have hnc15 := NB317_323.out; obtain ⟨hcz16_0, hcz16_1, hcz16_2, hcz16_3, hcz16_4, hfz16_0, hfz16_1, hfz16_2, hfz16_3, hfz16_4⟩ := cel5_ BK323.out))
       (try simp only [Act.put, List.setIfInBounds_toArray, List.set_cons_zero, List.set_cons_succ])
       go_cut [28] (fun v28 wc => ∃ (kq : Nat) (x28_12 : Bool), v28 = .bool x28_12 ∧ Aside0 (clause_Filter.j1 kq l1 t319 x7_1 x18_1 l1 (l1.length : Int) x18_1 x28_12 a0_0 l0_1 l0_2 l0_3 l0_4 l0_5 a0_6 l0_7 = some (r1, r2)) ∧ Aside0 (kq ≤ k1) ∧ Aside0 (Kd.V k58 58 wc w.heap.size (fun k_ => (P1_ k_ ∨ w.heap.size ≤ k_) ∧ some k_ ≠ (v320 : Value).ownBlock ∧ k_ ≠ gb317) (.slice (some ad322) l1.length c1) l1) ∧ Aside0 (Kd.N k58 58 wc w.heap.size (fun k_ => (P1_ k_ ∨ w.heap.size ≤ k_) ∧ k_ ≠ gb317) v320 t319) ∧ Aside0 (Kd.V k58 58 wc w.heap.size (fun k_ => (P1_ k_ ∨ w.heap.size ≤ k_) ∧ some k_ ≠ (v320 : Value).ownBlock ∧ k_ ≠ gb317) (.slice (some ad322) l1.length c1) l1) ∧ Aside0 (wc.heap[gb317]? = some (.cells #[.int .i64 a0_0, (.slice A0_1 l0_1.length c0_1), (.slice A0_2 l0_2.length c0_2), (.slice A0_3 l0_3.length c0_3), (.slice A0_4 l0_4.length c0_4), (.slice A0_5 l0_5.length c0_5), .int .i64 a0_6, (.slice A0_7 l0_7.length c0_7)] 32 (0, 0))) ∧ Aside0 (Below w.heap.size w wc))
       case first =>
        have H := HC13.out
        clear HC13
        replace H := Option.bind_eq_some_iff.mp H
        obtain ⟨t324, A170, H⟩ := H
        replace H : ((dom_Dom_Has.f ((rd_T58 l1 x18_1).f0) ((rd_T58 l1 x18_1).f1) ((rd_T58 l1 x18_1).f2) ((rd_T58 l1 x18_1).f3) ((rd_T58 l1 x18_1).f4) t324).bind fun t325 => (clause_Filter.j1 k1 l1 t319 x7_1 x18_1 l1 (l1.length : Int) x18_1 (!t325) a0_0 l0_1 l0_2 l0_3 l0_4 l0_5 a0_6 l0_7)) = some (r1, r2) := H
        have A17 := Aside0.mk A170
        clear A170
        replace H := Option.bind_eq_some_iff.mp H
        obtain ⟨t325, A180, H⟩ := H
        replace H : (clause_Filter.j1 k1 l1 t319 x7_1 x18_1 l1 (l1.length : Int) x18_1 (!t325) a0_0 l0_1 l0_2 l0_3 l0_4 l0_5 a0_6 l0_7) = some (r1, r2) := H
        have A18 := Aside0.mk A180
        clear A180
        have H' := Aside0.mk H
        clear H
        try go_wp2
        obtain ⟨w19, hq_⟩ : ∃ x, x = (((((w14.setCell ⟨gb323, 0, none⟩ (.int .i64 ((rd_T58 l1 x18_1).f0))).setCell ⟨gb323, 1, none⟩ (.slice A322_1 ((rd_T58 l1 x18_1).f1).length c322_1)).setCell ⟨gb323, 2, none⟩ (.int .i64 ((rd_T58 l1 x18_1).f2))).setCell ⟨gb323, 3, none⟩ (.int .i64 ((rd_T58 l1 x18_1).f3))).setCell ⟨gb323, 4, none⟩ (.int .i64 ((rd_T58 l1 x18_1).f4))) := ⟨_, rfl⟩
        replace HO_1 : Aside0 (Kd.V k58 58 w19 w.heap.size (fun k_ => (P1_ k_ ∨ w.heap.size ≤ k_) ∧ some k_ ≠ (v320 : Value).ownBlock ∧ k_ ≠ gb317 ∧ k_ ≠ gb323) (.slice (some ad322) l1.length c1) l1) := ⟨by subst hq_; refine vV_ ?_; exact Kd.V_mono (Kd.V_far (Kd.V_far (Kd.V_far (Kd.V_far (Kd.V_far (Kd.V_mono HO_1.out (fun k_ hk => (⟨hk, hk.2⟩ : _ ∧ k_ ≠ gb323))) (fun _ hk => hk.2) _) (fun _ hk => hk.2) _) (fun _ hk => hk.2) _) (fun _ hk => hk.2) _) (fun _ hk => hk.2) _) (fun _ hk => ⟨hk.1.1.1, ⟨hk.1.1.2.1, ⟨hk.1.1.2.2, hk.1.2⟩⟩⟩)⟩
        replace HO_6 : Aside0 (Kd.N k58 58 w19 w.heap.size (fun k_ => (P1_ k_ ∨ w.heap.size ≤ k_) ∧ k_ ≠ gb317 ∧ k_ ≠ gb323) v320 t319) := ⟨by subst hq_; refine vN_ ?_; exact Kd.N_mono (Kd.N_far (Kd.N_far (Kd.N_far (Kd.N_far (Kd.N_far (Kd.N_mono HO_6.out (fun k_ hk => (⟨hk, hk.2⟩ : _ ∧ k_ ≠ gb323))) (fun _ hk => hk.2) _) (fun _ hk => hk.2) _) (fun _ hk => hk.2) _) (fun _ hk => hk.2) _) (fun _ hk => hk.2) _) (fun _ hk => ⟨hk.1.1.1, ⟨hk.1.1.2, hk.1.2⟩⟩)⟩
        replace HO_16 : Aside0 (Kd.V k58 58 w19 w.heap.size (fun k_ => (P1_ k_ ∨ w.heap.size ≤ k_) ∧ some k_ ≠ (v320 : Value).ownBlock ∧ k_ ≠ gb317 ∧ k_ ≠ gb323) (.slice (some ad322) l1.length c1) l1) := ⟨by subst hq_; refine vV_ ?_; exact Kd.V_mono (Kd.V_far (Kd.V_far (Kd.V_far (Kd.V_far (Kd.V_far (Kd.V_mono HO_16.out (fun k_ hk => (⟨hk, hk.2⟩ : _ ∧ k_ ≠ gb323))) (fun _ hk => hk.2) _) (fun _ hk => hk.2) _) (fun _ hk => hk.2) _) (fun _ hk => hk.2) _) (fun _ hk => hk.2) _) (fun _ hk => ⟨hk.1.1.1, ⟨hk.1.1.2.1, ⟨hk.1.1.2.2, hk.1.2⟩⟩⟩)⟩
        replace HL322_1 : Aside0 (Kd.V (Kd.int .u64) 80 w19 w.heap.size (fun k_ => (P1_ k_ ∨ w.heap.size ≤ k_) ∧ some k_ ≠ (v320 : Value).ownBlock ∧ k_ ≠ gb317 ∧ k_ ≠ gb323) (.slice A322_1 ((rd_T58 l1 x18_1).f1).length c322_1) ((rd_T58 l1 x18_1).f1)) := ⟨by subst hq_; refine vV_ ?_; exact Kd.V_mono (Kd.V_far (Kd.V_far (Kd.V_far (Kd.V_far (Kd.V_far (Kd.V_mono HL322_1.out (fun k_ hk => (⟨hk, hk.2⟩ : _ ∧ k_ ≠ gb323))) (fun _ hk => hk.2) _) (fun _ hk => hk.2) _) (fun _ hk => hk.2) _) (fun _ hk => hk.2) _) (fun _ hk => hk.2) _) (fun _ hk => ⟨hk.1.1.1, ⟨hk.1.1.2.1, ⟨hk.1.1.2.2, hk.1.2⟩⟩⟩)⟩
        replace BK317 : Aside0 (w19.heap[gb317]? = some (.cells #[.int .i64 a0_0, .slice A0_1 l0_1.length c0_1, .slice A0_2 l0_2.length c0_2, .slice A0_3 l0_3.length c0_3, .slice A0_4 l0_4.length c0_4, .slice A0_5 l0_5.length c0_5, .int .i64 a0_6, .slice A0_7 l0_7.length c0_7] 32 (0, 0))) := ⟨by subst hq_; refine bk_ ?_; refine blk_far ?_ NB317_323.out _; refine bk_ ?_; refine blk_far ?_ NB317_323.out _; refine bk_ ?_; refine blk_far ?_ NB317_323.out _; refine bk_ ?_; refine blk_far ?_ NB317_323.out _; refine bk_ ?_; refine blk_far ?_ NB317_323.out _; refine bk_ ?_; exact BK317.out⟩
        replace BK323 : Aside0 (w19.heap[gb323]? = some (.cells #[.int .i64 ((rd_T58 l1 x18_1).f0), .slice A322_1 ((rd_T58 l1 x18_1).f1).length c322_1, .int .i64 ((rd_T58 l1 x18_1).f2), .int .i64 ((rd_T58 l1 x18_1).f3), .int .i64 ((rd_T58 l1 x18_1).f4)] 58 (0, 0))) := ⟨by subst hq_; refine bk_ ?_; refine blk_put (cs := #[.int .i64 ((rd_T58 l1 x18_1).f0), .slice A322_1 ((rd_T58 l1 x18_1).f1).length c322_1, .int .i64 ((rd_T58 l1 x18_1).f2), .int .i64 ((rd_T58 l1 x18_1).f3), .int .i64 0]) ?_ 4 _ rfl; refine bk_ ?_; refine blk_put (cs := #[.int .i64 ((rd_T58 l1 x18_1).f0), .slice A322_1 ((rd_T58 l1 x18_1).f1).length c322_1, .int .i64 ((rd_T58 l1 x18_1).f2), .int .i64 0, .int .i64 0]) ?_ 3 _ rfl; refine bk_ ?_; refine blk_put (cs := #[.int .i64 ((rd_T58 l1 x18_1).f0), .slice A322_1 ((rd_T58 l1 x18_1).f1).length c322_1, .int .i64 0, .int .i64 0, .int .i64 0]) ?_ 2 _ rfl; refine bk_ ?_; refine blk_put (cs := #[.int .i64 ((rd_T58 l1 x18_1).f0), .slice none 0 0, .int .i64 0, .int .i64 0, .int .i64 0]) ?_ 1 _ rfl; refine bk_ ?_; refine blk_put (cs := #[.int .i64 0, .slice none 0 0, .int .i64 0, .int .i64 0, .int .i64 0]) ?_ 0 _ rfl; refine bk_ ?_; exact BK323.out⟩
        replace HB : Aside0 (Below w.heap.size w w19) := ⟨by subst hq_; exact bel_⟩
        rw [← hq_]
        clear hq_
        replace HO_1 := Aside0.mk (Kd.V_drew HO_1.out)
        replace HO_6 := Aside0.mk (Kd.N_drew HO_6.out)
        replace HO_16 := Aside0.mk (Kd.V_drew HO_16.out)
        replace HL322_1 := Aside0.mk (Kd.V_drew HL322_1.out)
        replace BK317 := Aside0.mk (blk_drew BK317.out)
        replace BK323 := Aside0.mk (blk_drew BK323.out)
        replace HB := Aside0.mk (below_drew1 HB.out)
        refine start_ (n := 6) (S := fun w' => w'.cell? ⟨gb323, 0, none⟩ = some (.int .i64 ((rd_T58 l1 x18_1).f0)) ∧ w'.cell? ⟨gb323, 1, none⟩ = some (.slice A322_1 ((rd_T58 l1 x18_1).f1).length c322_1) ∧ w'.cell? ⟨gb323, 2, none⟩ = some (.int .i64 ((rd_T58 l1 x18_1).f2)) ∧ w'.cell? ⟨gb323, 3, none⟩ = some (.int .i64 ((rd_T58 l1 x18_1).f3)) ∧ w'.cell? ⟨gb323, 4, none⟩ = some (.int .i64 ((rd_T58 l1 x18_1).f4)) ∧ w'.cell? ⟨gb317, 0, none⟩ = some (.int .i64 a0_0) ∧ w'.cell? ⟨gb317, 1, none⟩ = some (.slice A0_1 l0_1.length c0_1) ∧ w'.cell? ⟨gb317, 2, none⟩ = some (.slice A0_2 l0_2.length c0_2) ∧ w'.cell? ⟨gb317, 3, none⟩ = some (.slice A0_3 l0_3.length c0_3) ∧ w'.cell? ⟨gb317, 4, none⟩ = some (.slice A0_4 l0_4.length c0_4) ∧ w'.cell? ⟨gb317, 5, none⟩ = some (.slice A0_5 l0_5.length c0_5) ∧ w'.cell? ⟨gb317, 6, none⟩ = some (.int .i64 a0_6) ∧ w'.cell? ⟨gb317, 7, none⟩ = some (.slice A0_7 l0_7.length c0_7)) (ds := []) #[false, false, false, false, false, false] (by kernel_rfl) rfl rfl ⟨(blk_cell BK323.out 0).trans rfl, (blk_cell BK323.out 1).trans rfl, (blk_cell BK323.out 2).trans rfl, (blk_cell BK323.out 3).trans rfl, (blk_cell BK323.out 4).trans rfl, (blk_cell BK317.out 0).trans rfl, (blk_cell BK317.out 1).trans rfl, (blk_cell BK317.out 2).trans rfl, (blk_cell BK317.out 3).trans rfl, (blk_cell BK317.out 4).trans rfl, (blk_cell BK317.out 5).trans rfl, (blk_cell BK317.out 6).trans rfl, (blk_cell BK317.out 7).trans rfl⟩ (fun hHeld => ?_)
        generalize w19.drew = w20 at HO_1 HO_6 HO_16 HL322_1 BK317 BK323 HB hHeld ⊢
        refine pur_ (i := 2) (N := some 25) #[false, false, true, false, false, false] (by kernel_rfl) ?_
        refine take_ (i := 0) (N := some 23) (v := ?_) (a' := ?_) #[true, false, true, false, false, false] rfl rfl (by kernel_rfl) (fun _ _ _ h => h) (Or.inl ⟨by rfl, ?_⟩) hHeld ?_ ?_
        rotate_left
        ·
         rintro w' ⟨s0, s1, s2, s3, s4, s5, s6, s7, s8, s9, s10, s11, s12⟩
         go_simp
         with_reducible rfl
        rotate_left
        ·
         simp only [Act.put, List.setIfInBounds_toArray, List.set_cons_zero, List.set_cons_succ, i64_w, i32_w]
         rfl
        refine take_ (i := 1) (N := some 24) (v := ?_) (a' := ?_) #[true, true, true, false, false, false] rfl rfl (by kernel_rfl) (fun _ _ _ h => h) (Or.inl ⟨by rfl, ?_⟩) hHeld ?_ ?_
        rotate_left
        ·
         rintro w' ⟨s0, s1, s2, s3, s4, s5, s6, s7, s8, s9, s10, s11, s12⟩
         go_simp
         with_reducible rfl
        rotate_left
        ·
         simp only [Act.put, List.setIfInBounds_toArray, List.set_cons_zero, List.set_cons_succ, i64_w, i32_w]
         rfl
        refine one_ (i := 3) (N := some 26) #[true, true, true, true, false, false] rfl rfl (by kernel_rfl) (by decide) (fun K hK => ?_)
        refine goes_ Tryz.func28 (by kernel_rfl) rfl #[.agg #[.int .i64 a0_0, .slice A0_1 l0_1.length c0_1, .slice A0_2 l0_2.length c0_2, .slice A0_3 l0_3.length c0_3, .slice A0_4 l0_4.length c0_4, .slice A0_5 l0_5.length c0_5, .int .i64 a0_6, .slice A0_7 l0_7.length c0_7], .int .i64 x18_1] (by rfl) rfl rfl ar_ ?_
        with_reducible refine (clause_want.calls a0_0 _ _ l0_1 _ _ l0_2 _ _ l0_3 _ _ l0_4 _ _ l0_5 a0_6 _ _ l0_7 x18_1 t324 _ ?_ ?_ ?_ ?_ ?_ ?_ ?_ ?_ ?_ ?_ ?_ ?_ A17.out).mono ?_
        exact ca_ ((Kd.C_below HR0_1.out HB.out))
        exact HC0_1.out
        exact ca_ ((Kd.C_below HR0_2.out HB.out))
        exact HC0_2.out
        exact ca_ ((Kd.C_below HR0_3.out HB.out))
        exact HC0_3.out
        exact ca_ ((Kd.C_below HR0_4.out HB.out))
        exact HC0_4.out
        exact ca_ ((Kd.C_below HR0_5.out HB.out))
        exact HC0_5.out
        exact ca_ ((Kd.C_below HR0_7.out HB.out))
        exact HC0_7.out
        rintro e w21 ⟨rfl, hb⟩
        refine ⟨_, rfl, ?_⟩
        replace HO_1 := Aside0.mk (Kd.V_below (vV_ HO_1.out) hb)
        replace HO_6 := Aside0.mk (Kd.N_below (vN_ HO_6.out) hb)
        replace HO_16 := Aside0.mk (Kd.V_below (vV_ HO_16.out) hb)
        replace HL322_1 := Aside0.mk (Kd.V_below (vV_ HL322_1.out) hb)
        replace BK317 := Aside0.mk (blk_below (bk_ BK317.out) hb)
        replace BK323 := Aside0.mk (blk_below (bk_ BK323.out) hb)
        replace HB := Aside0.mk (below_step bel_ hb)
        clear hb
        refine hK.out _ _ ⟨(blk_cell BK323.out 0).trans rfl, (blk_cell BK323.out 1).trans rfl, (blk_cell BK323.out 2).trans rfl, (blk_cell BK323.out 3).trans rfl, (blk_cell BK323.out 4).trans rfl, (blk_cell BK317.out 0).trans rfl, (blk_cell BK317.out 1).trans rfl, (blk_cell BK317.out 2).trans rfl, (blk_cell BK317.out 3).trans rfl, (blk_cell BK317.out 4).trans rfl, (blk_cell BK317.out 5).trans rfl, (blk_cell BK317.out 6).trans rfl, (blk_cell BK317.out 7).trans rfl⟩ (fun hHeld => ?_)
        clear hK K
        refine nor_ (N := some 26) ?_
        refine one_ (i := 4) (N := some 27) #[true, true, true, true, true, false] rfl rfl (by kernel_rfl) (by decide) (fun K hK => ?_)
        refine goes_ Tryz.func24 (by kernel_rfl) rfl #[.agg #[.int .i64 ((rd_T58 l1 x18_1).f0), .slice A322_1 ((rd_T58 l1 x18_1).f1).length c322_1, .int .i64 ((rd_T58 l1 x18_1).f2), .int .i64 ((rd_T58 l1 x18_1).f3), .int .i64 ((rd_T58 l1 x18_1).f4)], .int .i64 t324] (by rfl) rfl rfl ar_ ?_
        with_reducible refine (dom_Dom_Has.calls ((rd_T58 l1 x18_1).f0) _ _ ((rd_T58 l1 x18_1).f1) ((rd_T58 l1 x18_1).f2) ((rd_T58 l1 x18_1).f3) ((rd_T58 l1 x18_1).f4) t324 t325 _ ?_ ?_ A18.out).mono ?_
        focus repeat (first | exact ((Kd.V_reads' (vV_ HL322_1.out)).2.2) | (with_reducible refine Kd.C_alloc ?_ _) | (with_reducible refine Kd.C_drewN ?_ _) | (with_reducible refine Kd.C_drew ?_))
        exact HC322_1.out
        rintro e w22 ⟨rfl, hb⟩
        refine ⟨_, rfl, ?_⟩
        replace HO_1 := Aside0.mk (Kd.V_below (vV_ HO_1.out) hb)
        replace HO_6 := Aside0.mk (Kd.N_below (vN_ HO_6.out) hb)
        replace HO_16 := Aside0.mk (Kd.V_below (vV_ HO_16.out) hb)
        replace BK317 := Aside0.mk (blk_below (bk_ BK317.out) hb)
        replace BK323 := Aside0.mk (blk_below (bk_ BK323.out) hb)
        replace HB := Aside0.mk (below_step bel_ hb)
        clear hb
        refine hK.out _ _ ⟨(blk_cell BK323.out 0).trans rfl, (blk_cell BK323.out 1).trans rfl, (blk_cell BK323.out 2).trans rfl, (blk_cell BK323.out 3).trans rfl, (blk_cell BK323.out 4).trans rfl, (blk_cell BK317.out 0).trans rfl, (blk_cell BK317.out 1).trans rfl, (blk_cell BK317.out 2).trans rfl, (blk_cell BK317.out 3).trans rfl, (blk_cell BK317.out 4).trans rfl, (blk_cell BK317.out 5).trans rfl, (blk_cell BK317.out 6).trans rfl, (blk_cell BK317.out 7).trans rfl⟩ (fun hHeld => ?_)
        clear hK K
        refine nor_ (N := some 27) ?_
        refine pur_ (i := 5) (N := some 28) #[true, true, true, true, true, true] (by kernel_rfl) ?_
        refine done_ (by kernel_rfl) ?_
        try go_wp2
        go_meet
        case rel => exact ⟨_, (!t325), eq_, H', ⟨by have := HK1.out; first | omega | exact Nat.le_refl _⟩, ⟨by refine vV_ ?_; exact Kd.V_mono HO_1.out (fun _ hk => ⟨hk.1, ⟨hk.2.1, hk.2.2.1⟩⟩)⟩, ⟨by refine vN_ ?_; exact Kd.N_mono HO_6.out (fun _ hk => ⟨hk.1, hk.2.1⟩)⟩, ⟨by refine vV_ ?_; exact Kd.V_mono HO_16.out (fun _ hk => ⟨hk.1, ⟨hk.2.1, hk.2.2.1⟩⟩)⟩, ⟨by refine bk_ ?_; exact BK317.out⟩, ⟨bel_⟩⟩
       case rest =>
        clear HC13
        try clear c1
        try clear c2
        try clear p2
        try clear c3
        try clear p3
        try clear q3
        try clear hx3
        try clear c4
        try clear c9
        try clear c10
        try clear c10b0
        try clear c11
        try clear c11b0
        try clear c12
        try clear c12b0
        try clear c15
        try clear hcz16_0
        try clear hcz16_1
        try clear hcz16_2
        try clear hcz16_3
        try clear hcz16_4
        try clear hcz7_0
        try clear hcz7_1
        try clear hcz7_2
        try clear hcz7_3
        try clear hcz7_4
        try clear hcz7_5
        try clear hcz7_6
        try clear hcz7_7
        try clear hfz16_0
        try clear hfz16_1
        try clear hfz16_2
        try clear hfz16_3
        try clear hfz16_4
        try clear hfz7_0
        try clear hfz7_1
        try clear hfz7_2
        try clear hfz7_3
        try clear hfz7_4
        try clear hfz7_5
        try clear hfz7_6
        try clear hfz7_7
        try clear hx322_0
        try clear hx322_1
        try clear hx322_2
        try clear hx322_3
        try clear hx322_4
        try clear p2
        try clear p322
        try clear q322
        obtain ⟨kq, x28_12, rfl, HA, HJ12, HO_1, HO_6, HO_16, BK317, HB⟩ := hcut
        cases kq with
        | zero => exact absurd HA.out (by simp [clause_Filter.j1])
        | succ kj12 =>
         have H := HA.out
         clear HA
         simp only [clause_Filter.j1] at H
         by_cases c23 : x28_12 = true
         ·
          subst c23
          have H1 : (clause_Filter.l0 kj12 l1 t319 x7_1 l1 (l1.length : Int) (wrap64 (x18_1 + 1)) a0_0 l0_1 l0_2 l0_3 l0_4 l0_5 a0_6 l0_7) = some (r1, r2) := by rw [if_pos rfl] at H; exact H
          clear H
          have H := H1
          clear H1
          have H' := Aside0.mk H
          clear H
          go_wp2
          go_roundg kj12
          case measure => have := HK1.out; have := HJ12.out; omega
          case rel => exact ⟨(x7_1), (wrap64 (x18_1 + 1)), eq_, eq_, H', ⟨by have := HK1.out; have := HJ12.out; omega⟩, ⟨by refine vV_ ?_; exact HO_1.out⟩, ⟨by refine vN_ ?_; exact HO_6.out⟩, ⟨by refine vV_ ?_; exact HO_16.out⟩, ⟨by refine bk_ ?_; exact BK317.out⟩, ⟨bel_⟩⟩
         ·
          replace c23 := Bool.eq_false_iff.mpr c23
          subst c23
          have H1 : (if x7_1 ≥ 0 then (some (t319, true)) else (clause_Filter.l0 kj12 l1 t319 x18_1 l1 (l1.length : Int) (wrap64 (x18_1 + 1)) a0_0 l0_1 l0_2 l0_3 l0_4 l0_5 a0_6 l0_7)) = some (r1, r2) := by rw [if_neg (show ¬ (false = true) by decide)] at H; exact H
          clear H
          have H := H1
          clear H1
          by_cases c24 : x7_1 ≥ 0
          ·
           rw [if_pos c24] at H
           have c24b0 : decide (0 ≤ x7_1) = true := decide_eq_true c24
           clear c24
           simp only [Option.some.injEq, Prod.mk.injEq] at H
           obtain ⟨rfl, rfl⟩ := H
           go_wp2
           go_ret2
           exact ⟨_, by first | rfl | (simp [errW_none, errW_some] <;> rfl) | (simp [*, errW_none, errW_some] <;> rfl), by refine vN_ ?_; exact Kd.N_mono HO_6.out (fun _ hk => hk.1), bel_⟩
          ·
           rw [if_neg c24] at H
           have c24b0 : decide (0 ≤ x7_1) = false := decide_eq_false c24
           clear c24
           have H' := Aside0.mk H
           clear H
           go_wp2
           go_roundg kj12
           case measure => have := HK1.out; have := HJ12.out; omega
           case rel => exact ⟨(x18_1), (wrap64 (x18_1 + 1)), eq_, eq_, H', ⟨by have := HK1.out; have := HJ12.out; omega⟩, ⟨by refine vV_ ?_; exact HO_1.out⟩, ⟨by refine vN_ ?_; exact HO_6.out⟩, ⟨by refine vV_ ?_; exact HO_16.out⟩, ⟨by refine bk_ ?_; exact BK317.out⟩, ⟨bel_⟩⟩
      ·
       rw [if_neg c12] at H
       exact absurd H (by simp)
     ·
      rw [if_neg c11] at H
      exact absurd H (by simp)
    ·
     rw [if_neg c10] at H
     have c10b0 : decide (x18_1 < (l1.length : Int)) = false := decide_eq_false c10
     clear c10
     by_cases c25 : x7_1 < 0
     ·
      rw [if_pos c25] at H
      have c25b0 : decide (x7_1 < 0) = true := decide_eq_true c25
      clear c25
      simp only [Option.some.injEq, Prod.mk.injEq] at H
      obtain ⟨rfl, rfl⟩ := H
      go_wp2
      go_ret2
      exact ⟨_, by first | rfl | (simp [errW_none, errW_some] <;> rfl) | (simp [*, errW_none, errW_some] <;> rfl), by first | exact Kd.S_nil _ _ _ _ _ | exact Kd.N_nil _ _ _ _ _ | exact Kd.V_nil _ _ _ _ _ | exact Kd.Q_nil _ _ _ _ _ | exact Kd.R_nil _ _ _ _ _, bel_⟩
     ·
      rw [if_neg c25] at H
      have c25b0 : decide (x7_1 < 0) = false := decide_eq_false c25
      clear c25
      by_cases c26 : 0 ≤ x7_1
      ·
       rw [if_pos c26] at H
       have c26b0 : decide (0 ≤ x7_1) = true := decide_eq_true c26
       clear c26
       by_cases c27 : x7_1 < (l1.length : Int)
       ·
        rw [if_pos c27] at H
        have c27b0 : decide (x7_1 < (l1.length : Int)) = true := decide_eq_true c27
        clear c27
        replace H := Option.bind_eq_some_iff.mp H
        obtain ⟨t327, A280, H⟩ := H
        replace H : ((dom_Dom_Only.f k1 ((rd_T58 l1 x7_1).f0) ((rd_T58 l1 x7_1).f1) ((rd_T58 l1 x7_1).f2) ((rd_T58 l1 x7_1).f3) ((rd_T58 l1 x7_1).f4) t327).bind fun bt328 => (if x7_1 < (t319.length : Int) then (some ((t319.set (x7_1 : Int).toNat (⟨bt328.1, bt328.2.1, bt328.2.2.1, bt328.2.2.2.1, bt328.2.2.2.2.1⟩ : S58)), true)) else (none))) = some (r1, r2) := H
        have A28 := Aside0.mk A280
        clear A280
        replace H := Option.bind_eq_some_iff.mp H
        obtain ⟨⟨t328, t329, t332, t333, t334, t335⟩, A290, H⟩ := H
        replace H : (if x7_1 < (t319.length : Int) then (some ((t319.set (x7_1 : Int).toNat (⟨t328, t329, t332, t333, t334⟩ : S58)), true)) else (none)) = some (r1, r2) := H
        have A29 := Aside0.mk A290
        clear A290
        by_cases c30 : x7_1 < (t319.length : Int)
        ·
         rw [if_pos c30] at H
         have c30b0 : decide (x7_1 < (t319.length : Int)) = true := decide_eq_true c30
         clear c30
         obtain ⟨y336, hy336⟩ : ∃ y_ : List (S58), y_ = (t319.set (x7_1 : Int).toNat (⟨t328, t329, t332, t333, t334⟩ : S58)) := ⟨_, rfl⟩
         replace H : (some (y336, true)) = some (r1, r2) := by first | (rw [hy336]; with_reducible exact H) | (have H2_ := (Option.bind_some _ _).symm.trans H; rw [hy336]; with_reducible exact H2_) | (have H2_ := (Option.bind_some _ _).symm.trans H; with_reducible exact H2_) | with_reducible exact H | (rw [hy336]; exact H) | exact H
         have Ny336 := Aside0.mk hy336
         clear hy336
         simp only [Option.some.injEq, Prod.mk.injEq] at H
         obtain ⟨rfl, rfl⟩ := H
         try go_wp2
         replace HO_1 := Aside0.mk (Kd.V_drew HO_1.out)
         replace HO_6 := Aside0.mk (Kd.N_drew HO_6.out)
         replace BK317 := Aside0.mk (blk_drew BK317.out)
         replace HB := Aside0.mk (below_drew1 HB.out)
         have p326 : 0 ≤ (x7_1 : Int) := dq_
         have q326 : x7_1 < (l1.length : Int) := dq_
         obtain ⟨ad326, A326_1, c326_1, e326, hx326_0, hx326_1, hx326_2, hx326_3, hx326_4, hl326_1, hi326_1⟩ := at_T58 (Kd.V_reads' HO_1.out).2.2 x7_1 p326 q326
         cases e326
         obtain ⟨ce326, hce326, hMe326, hcc326⟩ := Kd.V_get HO_1.out z58 x7_1 p326 (by first | exact q326 | exact dq_ | (have e_ := (Kd.V_reads' HO_1.out).1; omega))
         obtain ⟨ua326_1, uc326_1, rfl, ul326_1, ge326_1⟩ := k58_openF hMe326
         have hv326_1 := hcc326 1 _ rfl
         rw [add_field _ _ 1 (by omega)] at hv326_1
         replace hv326_1 := Option.some.inj (hv326_1.symm.trans hx326_1)
         injection hv326_1 with hva_ hvn_ hvc_
         rw [hva_] at ge326_1
         rw [hvc_] at ul326_1
         have HL326_1 := Aside0.mk (show Kd.V (Kd.int .u64) 80 _ w.heap.size _ _ ((rd_T58 l1 x7_1).f1) from Kd.V_mk ul326_1 ge326_1)
         clear hva_ hvn_ hvc_ ge326_1 ul326_1
         clear hcc326 hce326
         have HC326_1 := Aside0.mk hl326_1
         clear hi326_1 hl326_1
         replace p326 := eq_true p326
         replace q326 := eq_true q326
         refine start_ (n := 15) (S := fun w' => w'.cell? ⟨gb317, 0, none⟩ = some (.int .i64 a0_0) ∧ w'.cell? ⟨gb317, 1, none⟩ = some (.slice A0_1 l0_1.length c0_1) ∧ w'.cell? ⟨gb317, 2, none⟩ = some (.slice A0_2 l0_2.length c0_2) ∧ w'.cell? ⟨gb317, 3, none⟩ = some (.slice A0_3 l0_3.length c0_3) ∧ w'.cell? ⟨gb317, 4, none⟩ = some (.slice A0_4 l0_4.length c0_4) ∧ w'.cell? ⟨gb317, 5, none⟩ = some (.slice A0_5 l0_5.length c0_5) ∧ w'.cell? ⟨gb317, 6, none⟩ = some (.int .i64 a0_6) ∧ w'.cell? ⟨gb317, 7, none⟩ = some (.slice A0_7 l0_7.length c0_7) ∧ w'.cell? (ad326.add ((x7_1).toNat * 5)) = some (.int .i64 ((rd_T58 l1 x7_1).f0)) ∧ w'.cell? ⟨(ad326.add ((x7_1).toNat * 5)).block, (ad326.add ((x7_1).toNat * 5)).off + 1, none⟩ = some (.slice A326_1 ((rd_T58 l1 x7_1).f1).length c326_1) ∧ w'.cell? ⟨(ad326.add ((x7_1).toNat * 5)).block, (ad326.add ((x7_1).toNat * 5)).off + 2, none⟩ = some (.int .i64 ((rd_T58 l1 x7_1).f2)) ∧ w'.cell? ⟨(ad326.add ((x7_1).toNat * 5)).block, (ad326.add ((x7_1).toNat * 5)).off + 3, none⟩ = some (.int .i64 ((rd_T58 l1 x7_1).f3)) ∧ w'.cell? ⟨(ad326.add ((x7_1).toNat * 5)).block, (ad326.add ((x7_1).toNat * 5)).off + 4, none⟩ = some (.int .i64 ((rd_T58 l1 x7_1).f4))) (ds := [14]) #[false, false, false, false, false, false, false, false, false, false, false, false, false, false, false] (by kernel_rfl) rfl rfl ⟨(blk_cell BK317.out 0).trans rfl, (blk_cell BK317.out 1).trans rfl, (blk_cell BK317.out 2).trans rfl, (blk_cell BK317.out 3).trans rfl, (blk_cell BK317.out 4).trans rfl, (blk_cell BK317.out 5).trans rfl, (blk_cell BK317.out 6).trans rfl, (blk_cell BK317.out 7).trans rfl, hx326_0, hx326_1, hx326_2, hx326_3, hx326_4⟩ (fun hHeld => ?_); refine with_tabW clause_Filter.tab15 clause_Filter.bits15 (fun HT_ HW_ => ?_)
         generalize wr.drew = w32 at HO_1 HO_6 HO_16 BK317 HB HL326_1 hx326_0 hx326_1 hx326_2 hx326_3 hx326_4 hHeld ⊢
         refine pur_ (i := 0) (N := some 37) #[true, false, false, false, false, false, false, false, false, false, false, false, false, false, false] (any_of HT_.out (by kernel_rfl)) ?_
         refine pur_ (i := 1) (N := some 38) #[true, true, false, false, false, false, false, false, false, false, false, false, false, false, false] (any_of HT_.out (by kernel_rfl)) ?_
         refine pur_ (i := 2) (N := some 39) #[true, true, true, false, false, false, false, false, false, false, false, false, false, false, false] (any_of HT_.out (by kernel_rfl)) ?_
         refine pur_ (i := 3) (N := some 40) #[true, true, true, true, false, false, false, false, false, false, false, false, false, false, false] (any_of HT_.out (by kernel_rfl)) ?_
         refine pur_ (i := 4) (N := some 41) #[true, true, true, true, true, false, false, false, false, false, false, false, false, false, false] (any_of HT_.out (by kernel_rfl)) ?_
         refine pur_ (i := 7) (N := some 44) #[true, true, true, true, true, false, false, true, false, false, false, false, false, false, false] (any_of HT_.out (by kernel_rfl)) ?_
         refine take_ (i := 5) (N := some 42) (v := ?_) (a' := ?_) #[true, true, true, true, true, true, false, true, false, false, false, false, false, false, false] rfl rfl (take_ofW HT_.out HW_.out (by kernel_rfl)) (fun _ _ _ h => h) (Or.inl ⟨by rfl, ?_⟩) hHeld ?_ ?_
         rotate_left
         ·
          rintro w' ⟨s0, s1, s2, s3, s4, s5, s6, s7, s8, s9, s10, s11, s12⟩
          go_simp
          with_reducible rfl
         rotate_left
         ·
          simp only [Act.put, List.setIfInBounds_toArray, List.set_cons_zero, List.set_cons_succ, i64_w, i32_w]
          rfl
         refine take_ (i := 6) (N := some 43) (v := ?_) (a' := ?_) #[true, true, true, true, true, true, true, true, false, false, false, false, false, false, false] rfl rfl (take_ofW HT_.out HW_.out (by kernel_rfl)) (fun _ _ _ h => h) (Or.inl ⟨by rfl, ?_⟩) hHeld ?_ ?_
         rotate_left
         ·
          rintro w' ⟨s0, s1, s2, s3, s4, s5, s6, s7, s8, s9, s10, s11, s12⟩
          go_simp
          with_reducible rfl
         rotate_left
         ·
          simp only [Act.put, List.setIfInBounds_toArray, List.set_cons_zero, List.set_cons_succ, i64_w, i32_w]
          rfl
         refine one_ (i := 8) (N := some 45) #[true, true, true, true, true, true, true, true, true, false, false, false, false, false, false] rfl rfl (one_of HT_.out (by kernel_rfl)) (by decide) (fun K hK => ?_)
         refine goes_ Tryz.func28 (by kernel_rfl) rfl #[.agg #[.int .i64 a0_0, .slice A0_1 l0_1.length c0_1, .slice A0_2 l0_2.length c0_2, .slice A0_3 l0_3.length c0_3, .slice A0_4 l0_4.length c0_4, .slice A0_5 l0_5.length c0_5, .int .i64 a0_6, .slice A0_7 l0_7.length c0_7], .int .i64 x7_1] (by rfl) rfl rfl ar_ ?_
         with_reducible refine (clause_want.calls a0_0 _ _ l0_1 _ _ l0_2 _ _ l0_3 _ _ l0_4 _ _ l0_5 a0_6 _ _ l0_7 x7_1 t327 _ ?_ ?_ ?_ ?_ ?_ ?_ ?_ ?_ ?_ ?_ ?_ ?_ A28.out).mono ?_
         exact ca_ ((Kd.C_below HR0_1.out HB.out))
         exact HC0_1.out
         exact ca_ ((Kd.C_below HR0_2.out HB.out))
         exact HC0_2.out
         exact ca_ ((Kd.C_below HR0_3.out HB.out))
         exact HC0_3.out
         exact ca_ ((Kd.C_below HR0_4.out HB.out))
         exact HC0_4.out
         exact ca_ ((Kd.C_below HR0_5.out HB.out))
         exact HC0_5.out
         exact ca_ ((Kd.C_below HR0_7.out HB.out))
         exact HC0_7.out
         rintro e w33 ⟨rfl, hb⟩
         have HS8_ := (hb.cell (World.block_lt_of_cell? _ _ (hHeld.2.2.2.2.2.2.2.2.1))).trans (hHeld.2.2.2.2.2.2.2.2.1)
         have HS9_ := (hb.cell (World.block_lt_of_cell? _ _ (hHeld.2.2.2.2.2.2.2.2.2.1))).trans (hHeld.2.2.2.2.2.2.2.2.2.1)
         have HS10_ := (hb.cell (World.block_lt_of_cell? _ _ (hHeld.2.2.2.2.2.2.2.2.2.2.1))).trans (hHeld.2.2.2.2.2.2.2.2.2.2.1)
         have HS11_ := (hb.cell (World.block_lt_of_cell? _ _ (hHeld.2.2.2.2.2.2.2.2.2.2.2.1))).trans (hHeld.2.2.2.2.2.2.2.2.2.2.2.1)
         have HS12_ := (hb.cell (World.block_lt_of_cell? _ _ (hHeld.2.2.2.2.2.2.2.2.2.2.2.2))).trans (hHeld.2.2.2.2.2.2.2.2.2.2.2.2)
         refine ⟨_, rfl, ?_⟩
         replace HO_6 := Aside0.mk (Kd.N_below (vN_ HO_6.out) hb)
         replace HL326_1 := Aside0.mk (Kd.V_below (vV_ HL326_1.out) hb)
         replace BK317 := Aside0.mk (blk_below (bk_ BK317.out) hb)
         replace HB := Aside0.mk (below_step bel_ hb)
         clear hb
         refine hK.out _ _ ⟨(blk_cell BK317.out 0).trans rfl, (blk_cell BK317.out 1).trans rfl, (blk_cell BK317.out 2).trans rfl, (blk_cell BK317.out 3).trans rfl, (blk_cell BK317.out 4).trans rfl, (blk_cell BK317.out 5).trans rfl, (blk_cell BK317.out 6).trans rfl, (blk_cell BK317.out 7).trans rfl, HS8_, HS9_, HS10_, HS11_, HS12_⟩ (fun hHeld => ?_)
         clear hK K
         refine nor_ (N := some 45) ?_
         refine one_ (i := 9) (N := some 46) #[true, true, true, true, true, true, true, true, true, true, false, false, false, false, false] rfl rfl (one_of HT_.out (by kernel_rfl)) (by decide) (fun K hK => ?_)
         refine goes_ Tryz.func29 (by kernel_rfl) rfl #[.agg #[.int .i64 ((rd_T58 l1 x7_1).f0), .slice A326_1 ((rd_T58 l1 x7_1).f1).length c326_1, .int .i64 ((rd_T58 l1 x7_1).f2), .int .i64 ((rd_T58 l1 x7_1).f3), .int .i64 ((rd_T58 l1 x7_1).f4)], .int .i64 t327] (by rfl) rfl rfl ar_ ?_
         with_reducible refine (dom_Dom_Only.calls k1 ((rd_T58 l1 x7_1).f0) (fun k_ => ((P1_ k_ ∨ w.heap.size ≤ k_) ∧ (some k_ ≠ (v320 : Value).ownBlock ∧ k_ ≠ gb317))) _ _ ((rd_T58 l1 x7_1).f1) ((rd_T58 l1 x7_1).f2) ((rd_T58 l1 x7_1).f3) ((rd_T58 l1 x7_1).f4) t327 t328 t329 t332 t333 t334 t335 _ ?_ ?_ A29.out).mono ?_
         exact HL326_1.out
         exact ca_ ((Kd.C_below HRtab.out HB.out))
         rintro e w34 ⟨v330, rfl, ho0, hb⟩
         have HS8_ := (hb.cell (World.block_lt_of_cell? _ _ (hHeld.2.2.2.2.2.2.2.2.1))).trans (hHeld.2.2.2.2.2.2.2.2.1)
         have HS9_ := (hb.cell (World.block_lt_of_cell? _ _ (hHeld.2.2.2.2.2.2.2.2.2.1))).trans (hHeld.2.2.2.2.2.2.2.2.2.1)
         have HS10_ := (hb.cell (World.block_lt_of_cell? _ _ (hHeld.2.2.2.2.2.2.2.2.2.2.1))).trans (hHeld.2.2.2.2.2.2.2.2.2.2.1)
         have HS11_ := (hb.cell (World.block_lt_of_cell? _ _ (hHeld.2.2.2.2.2.2.2.2.2.2.2.1))).trans (hHeld.2.2.2.2.2.2.2.2.2.2.2.1)
         have HS12_ := (hb.cell (World.block_lt_of_cell? _ _ (hHeld.2.2.2.2.2.2.2.2.2.2.2.2))).trans (hHeld.2.2.2.2.2.2.2.2.2.2.2.2)
         refine ⟨_, rfl, ?_⟩
         have HO331 := Aside0.mk (Kd.V_lower (Kd.V_mono (ok' := fun k_ => (P1_ k_ ∨ w.heap.size ≤ k_) ∧ some k_ ≠ (v320 : Value).ownBlock ∧ k_ ≠ gb317) ho0 (fun k_ hk_ => ⟨Or.elim hk_ (fun hs_ => hs_.1) (fun hn_ => (.inr (Nat.le_trans (below_size bel_) hn_))), Or.elim hk_ (fun hs_ => hs_.2.1) (fun hn_ => (Kd.fresh' (Kd.N_lt (vN_ HO_6.out)) k_ hn_)), Or.elim hk_ (fun hs_ => hs_.2.2) (fun hn_ => (Kd.freshB (bk_ BK317.out) k_ hn_))⟩)) (below_size bel_))
         replace HO_6 := Aside0.mk (Kd.N_below (vN_ HO_6.out) hb)
         replace BK317 := Aside0.mk (blk_below (bk_ BK317.out) hb)
         replace HB := Aside0.mk (below_step bel_ hb)
         obtain ⟨Ao_v330, co_v330, eo_v330⟩ := Kd.V_slice HO331.out
         subst eo_v330
         clear hb ho0
         have p31 : 0 ≤ (x7_1 : Int) := dq_
         have q31 : (x7_1 : Int) < ((t319.length : Int) : Int) := dq_
         obtain ⟨go31, co31, eo31, gb31, gl31, cl31, HG31⟩ := Kd.N_form HO_6.out (by omega)
         (first | cases eo31 | (injection eo31 with ea_ en_ ec_; (first | subst ea_ | (injection ea_ with ea_; subst ea_)); subst ec_; clear en_))
         have GB31 := Aside0.mk gb31
         have GG31 := Aside0.mk HG31
         clear gb31 gl31 HG31
         obtain ⟨ce31, hcl31, hM31, hcc31, hfr31⟩ := Kd.N_elem HO_6.out z58 (x7_1 : Int) p31 q31
         obtain ⟨ua31_1, uc31_1, rfl, ul31_1, ge31_1⟩ := k58_openF hM31
         have hx31_0 : World.cell? _ ⟨go31, (x7_1 : Int).toNat * 5, none⟩ = some (.int .i64 ((rd_T58 t319 x7_1).f0)) := hcc31 0 _ rfl
         have hx31_1 : World.cell? _ ⟨go31, (x7_1 : Int).toNat * 5 + 1, none⟩ = some (.slice ua31_1 ((rd_T58 t319 x7_1).f1).length uc31_1) := hcc31 1 _ rfl
         have hx31_2 : World.cell? _ ⟨go31, (x7_1 : Int).toNat * 5 + 2, none⟩ = some (.int .i64 ((rd_T58 t319 x7_1).f2)) := hcc31 2 _ rfl
         have hx31_3 : World.cell? _ ⟨go31, (x7_1 : Int).toNat * 5 + 3, none⟩ = some (.int .i64 ((rd_T58 t319 x7_1).f3)) := hcc31 3 _ rfl
         have hx31_4 : World.cell? _ ⟨go31, (x7_1 : Int).toNat * 5 + 4, none⟩ = some (.int .i64 ((rd_T58 t319 x7_1).f4)) := hcc31 4 _ rfl
         have hf31_0 : World.frozen? _ ⟨go31, (x7_1 : Int).toNat * 5, none⟩ = false := hfr31 0
         have hf31_1 : World.frozen? _ ⟨go31, (x7_1 : Int).toNat * 5 + 1, none⟩ = false := hfr31 1
         have hf31_2 : World.frozen? _ ⟨go31, (x7_1 : Int).toNat * 5 + 2, none⟩ = false := hfr31 2
         have hf31_3 : World.frozen? _ ⟨go31, (x7_1 : Int).toNat * 5 + 3, none⟩ = false := hfr31 3
         have hf31_4 : World.frozen? _ ⟨go31, (x7_1 : Int).toNat * 5 + 4, none⟩ = false := hfr31 4
         clear hcl31 hcc31 hfr31 hM31
         replace p31 := eq_true p31
         replace q31 := eq_true q31
         have HX35 := Aside0.mk (show Kd.N k58 58 _ w.heap.size (fun k_ => (P1_ k_ ∨ w.heap.size ≤ k_) ∧ k_ ≠ gb317) (.slice (some ⟨go31, 0, none⟩) t319.length co31) t319 from (Kd.N_mono (HO_6.out) (fun k_ hk => ⟨hk.1, hk.2⟩)))
         obtain ⟨ce35, hcl35, hM35, hcc35, hfr35⟩ := Kd.N_elem HX35.out z58 (x7_1 : Int) (dq_) (by have h_ : (x7_1 : Int) < ((t319.length : Int) : Int) := dq_; first | exact h_ | (have e_ := (Kd.N_reads' HO_6.out).1; omega) | simpa using h_)
         obtain ⟨ua35_1, uc35_1, rfl, ul35_1, ge35_1⟩ := k58_openF hM35
         have HP35 := (Kd.N_seg HX35.out (x7_1 : Int) (dq_) (by have h_ : (x7_1 : Int) < ((t319.length : Int) : Int) := dq_; first | exact h_ | (have e_ := (Kd.N_reads' HO_6.out).1; omega) | simpa using h_) (seg := [.int .i64 t328, (.slice Ao_v330 t329.length co_v330), .int .i64 t332, .int .i64 t333, .int .i64 t334]) (j := 0) hcl35 hcc35 (show 5 ≤ 5 from by decide) (x' := (⟨t328, t329, t332, t333, t334⟩ : S58)) (k58_mkF _ _ (⟨t328, t329, t332, t333, t334⟩ : S58) (Kd.V_reads' (Kd.V_mono (ok' := (fun k_ => ((fun k_ => (P1_ k_ ∨ w.heap.size ≤ k_) ∧ k_ ≠ gb317)) k_ ∧ k_ ≠ go31)) (HO331.out) (fun k_ hk => ⟨⟨hk.1, hk.2.2⟩, fun e_ => (hk.2.1) (by rw [e_]; rfl)⟩))).2.1 (Kd.V_F (Kd.V_mono (ok' := (fun k_ => ((fun k_ => (P1_ k_ ∨ w.heap.size ≤ k_) ∧ k_ ≠ gb317)) k_ ∧ k_ ≠ go31)) (HO331.out) (fun k_ hk => ⟨⟨hk.1, hk.2.2⟩, fun e_ => (hk.2.1) (by rw [e_]; rfl)⟩)))) (fun _ hk => hk)).1
         rw [← Ny336.out] at HP35
         have HQ35 := Aside0.mk HP35
         clear hcl35 hcc35 hfr35 hM35 HP35
         refine hK.out _ _ ⟨(blk_cell BK317.out 0).trans rfl, (blk_cell BK317.out 1).trans rfl, (blk_cell BK317.out 2).trans rfl, (blk_cell BK317.out 3).trans rfl, (blk_cell BK317.out 4).trans rfl, (blk_cell BK317.out 5).trans rfl, (blk_cell BK317.out 6).trans rfl, (blk_cell BK317.out 7).trans rfl, HS8_, HS9_, HS10_, HS11_, HS12_⟩ (fun hHeld => ?_)
         clear hK K
         refine nor_ (N := some 46) ?_
         refine pur_ (i := 10) (N := some 36) #[true, true, true, true, true, true, true, true, true, true, true, false, false, false, false] (any_of HT_.out (by kernel_rfl)) ?_
         refine pur_ (i := 11) (N := some 47) #[true, true, true, true, true, true, true, true, true, true, true, true, false, false, false] (any_of HT_.out (by kernel_rfl)) ?_
         refine pur_ (i := 12) (N := some 48) #[true, true, true, true, true, true, true, true, true, true, true, true, true, false, false] (any_of HT_.out (by kernel_rfl)) ?_
         refine pur_ (i := 13) (N := some 49) #[true, true, true, true, true, true, true, true, true, true, true, true, true, true, false] (any_of HT_.out (by kernel_rfl)) ?_
         refine last_ (i := 14) (N := none) #[true, true, true, true, true, true, true, true, true, true, true, true, true, true, true] rfl rfl (one_of HT_.out (by kernel_rfl)) (by decide) (fun K hK => ?_)
         refine skip_ (w1 := ?_) (by rfl) rfl ?_ ?_
         rotate_left
         ·
          go_simp
          rfl
         refine hK.out _ _ ?_
         clear hK K
         refine done_ (done_of HT_.out (by kernel_rfl)) ?_
         try go_wp2
         go_ret2
         exact ⟨_, by first | rfl | (simp [errW_none, errW_some] <;> rfl) | (simp [*, errW_none, errW_some] <;> rfl), by refine vN_ ?_; exact Kd.N_mono HQ35.out (fun _ hk => hk.1), by repeat (first | (with_reducible first | exact HB.out | apply below_alloc | apply pw_below_drewN | apply below_drew1 | refine below_set ?_ GB31.out | refine below_set ?_ GB31.out | refine below_set ?_ GB31.out | refine below_set ?_ GB31.out | refine below_set ?_ GB31.out | refine below_set ?_ GE317.out) | exact HB.out)⟩
        ·
         rw [if_neg c30] at H
         exact absurd H (by simp)
       ·
        rw [if_neg c27] at H
        exact absurd H (by simp)
      ·
       rw [if_neg c26] at H
       exact absurd H (by simp)
 ·
  replace c4 := Bool.eq_false_iff.mpr c4
  subst c4
  have H1 : (none) = some (r1, r2) := by rw [if_neg (show ¬ (false = true) by decide)] at H; exact H
  clear H
  have H := H1
  clear H1
  exact absurd H (by simp)

end Go.Proofs.YtmhchlbbfpmdgaaGreatDoor.XClauseKeeps
