-- by xprint.py, a program of this session, over the kit's print
import Derived.Test.YtbhhbgoamomacaaGreatDoorXMUSx0
import Derived.Test.YtbhhbgoamomacaaGreatDoorXMUSx5
import Derived.Test.YtbhhbgoamomacaaGreatDoorXMUSx7
import Derived.Test.YtbhhbgoamomacaaGreatDoorXMUSx8
import Derived.Test.YtbhhbgoamomacaaGreatDoorXMUSx10
import Derived.Test.YtbhhbgoamomacaaGreatDoorSq
namespace Go.Proofs.YtbhhbgoamomacaaGreatDoor.XMulFixed
open Go.RowKit Go.Proofs.YtbhhbgoamomacaaGreatDoor.Sq Go.Proofs.YtbhhbgoamomacaaGreatDoorW.PrintWords Go.Proofs.YtbhhbgoamomacaaGreatDoorW.PrintLast Go.Proofs.YtbhhbgoamomacaaGreatDoorW.PrintMore
attribute [local go_sem] max2_int min2_int max_two min_two max_three min_three max_four min_four   -- for this text's walks alone
set_option linter.unusedVariables false
set_option linter.unusedSimpArgs false

/-! ### prop_Pairs_at_num_Rem: function 33 -/
mutual
def prop_Pairs_at_num_Rem.l0 : Nat → List Int → List Int → List Int → List Int → Int → Int → Int → List Int → Int → Int → Int → Int → List Int → Int → Int → Int → Option ((List (S61)) × Bool)
 | 0, _, _, _, _, _, _, _, _, _, _, _, _, _, _, _, _ => none
 | k + 1, x10, x11, x12, x20, x21, x22, x310000, x310001, x310002, x310003, x310004, x311000, x311001, x311002, x311003, x311004 => if x22 < x21 then (if 0 ≤ x22 then (if x22 < (x20.length : Int) then ((dom_Dom_List.f k x310000 x310001 x310002 x310003 x310004).bind fun t322 => (prop_Pairs_at_num_Rem.l1 k x10 x11 x12 (rd x20 x22) x20 x21 x22 t322 (t322.length : Int) 0 x310000 x310001 x310002 x310003 x310004 x311000 x311001 x311002 x311003 x311004)) else (none)) else (none)) else ((prop_Made.f k (([x10, x11, x12] : List (List Int)))).bind fun bt317 => (some (bt317.1, bt317.2)))
def prop_Pairs_at_num_Rem.l1 : Nat → List Int → List Int → List Int → Int → List Int → Int → Int → List Int → Int → Int → Int → List Int → Int → Int → Int → Int → List Int → Int → Int → Int → Option ((List (S61)) × Bool)
 | 0, _, _, _, _, _, _, _, _, _, _, _, _, _, _, _, _, _, _, _, _ => none
 | k + 1, x10, x11, x12, x14, x20, x21, x22, x27, x28, x29, x310000, x310001, x310002, x310003, x310004, x311000, x311001, x311002, x311003, x311004 => if x29 < x28 then (if 0 ≤ x29 then (if x29 < (x27.length : Int) then ((num_Rem.f x14 (rd x27 x29)).bind fun bt326 => (if bt326.2 = true then ((dom_Dom_Has.f x311000 x311001 x311002 x311003 x311004 bt326.1).bind fun t328 => (if t328 = true then (if x10.length < 17592186044416 then (if x11.length < 17592186044416 then (if x12.length < 17592186044416 then (prop_Pairs_at_num_Rem.l1 k (x10 ++ [x14]) (x11 ++ [rd x27 x29]) (x12 ++ [bt326.1]) x14 x20 x21 x22 x27 x28 (wrap64 (x29 + 1)) x310000 x310001 x310002 x310003 x310004 x311000 x311001 x311002 x311003 x311004) else (none)) else (none)) else (none)) else (prop_Pairs_at_num_Rem.l1 k x10 x11 x12 x14 x20 x21 x22 x27 x28 (wrap64 (x29 + 1)) x310000 x310001 x310002 x310003 x310004 x311000 x311001 x311002 x311003 x311004))) else (prop_Pairs_at_num_Rem.l1 k x10 x11 x12 x14 x20 x21 x22 x27 x28 (wrap64 (x29 + 1)) x310000 x310001 x310002 x310003 x310004 x311000 x311001 x311002 x311003 x311004))) else (none)) else (none)) else (prop_Pairs_at_num_Rem.l0 k x10 x11 x12 x20 x21 (wrap64 (x22 + 1)) x310000 x310001 x310002 x310003 x310004 x311000 x311001 x311002 x311003 x311004)
end
def prop_Pairs_at_num_Rem.f (k : Nat) (a0_0 : Int) (l0_1 : List Int) (a0_2 : Int) (a0_3 : Int) (a0_4 : Int) (a1_0 : Int) (l1_1 : List Int) (a1_2 : Int) (a1_3 : Int) (a1_4 : Int) (a2_0 : Int) (l2_1 : List Int) (a2_2 : Int) (a2_3 : Int) (a2_4 : Int)  : Option ((List (S61)) × Bool) := (dom_Dom_List.f k a0_0 l0_1 a0_2 a0_3 a0_4).bind fun t311 => (prop_Pairs_at_num_Rem.l0 k ([] : List Int) ([] : List Int) ([] : List Int) t311 (t311.length : Int) 0 a1_0 l1_1 a1_2 a1_3 a1_4 a2_0 l2_1 a2_2 a2_3 a2_4)
theorem prop_Pairs_at_num_Rem.mono_l : ∀ k, (∀ y0 y1 y2 y3 y4 y5 y6 y7 y8 y9 y10 y11 y12 y13 y14 y15, LeO (prop_Pairs_at_num_Rem.l0 k y0 y1 y2 y3 y4 y5 y6 y7 y8 y9 y10 y11 y12 y13 y14 y15) (prop_Pairs_at_num_Rem.l0 (k + 1) y0 y1 y2 y3 y4 y5 y6 y7 y8 y9 y10 y11 y12 y13 y14 y15)) ∧ (∀ y0 y1 y2 y3 y4 y5 y6 y7 y8 y9 y10 y11 y12 y13 y14 y15 y16 y17 y18 y19, LeO (prop_Pairs_at_num_Rem.l1 k y0 y1 y2 y3 y4 y5 y6 y7 y8 y9 y10 y11 y12 y13 y14 y15 y16 y17 y18 y19) (prop_Pairs_at_num_Rem.l1 (k + 1) y0 y1 y2 y3 y4 y5 y6 y7 y8 y9 y10 y11 y12 y13 y14 y15 y16 y17 y18 y19))
 | 0 => ⟨fun _ _ _ _ _ _ _ _ _ _ _ _ _ _ _ _ r h => by simp [prop_Pairs_at_num_Rem.l0] at h, fun _ _ _ _ _ _ _ _ _ _ _ _ _ _ _ _ _ _ _ _ r h => by simp [prop_Pairs_at_num_Rem.l1] at h⟩
 | k + 1 => by
  obtain ⟨ih0, ih1⟩ := prop_Pairs_at_num_Rem.mono_l k
  refine ⟨?_, ?_⟩
  ·
   intro y0 y1 y2 y3 y4 y5 y6 y7 y8 y9 y10 y11 y12 y13 y14 y15
   unfold prop_Pairs_at_num_Rem.l0
   have m0 := @dom_Dom_List.mono
   have m1 := @prop_Made.mono
   exact leo_
  ·
   intro y0 y1 y2 y3 y4 y5 y6 y7 y8 y9 y10 y11 y12 y13 y14 y15 y16 y17 y18 y19
   unfold prop_Pairs_at_num_Rem.l1
   have m0 := @dom_Dom_List.mono
   have m1 := @prop_Made.mono
   exact leo_
theorem prop_Pairs_at_num_Rem.mono : ∀ a0 a1 a2 a3 a4 a5 a6 a7 a8 a9 a10 a11 a12 a13 a14 k, LeO (prop_Pairs_at_num_Rem.f k a0 a1 a2 a3 a4 a5 a6 a7 a8 a9 a10 a11 a12 a13 a14) (prop_Pairs_at_num_Rem.f (k + 1) a0 a1 a2 a3 a4 a5 a6 a7 a8 a9 a10 a11 a12 a13 a14) := by
 intro a0 a1 a2 a3 a4 a5 a6 a7 a8 a9 a10 a11 a12 a13 a14 k
 obtain ⟨ih0, ih1⟩ := prop_Pairs_at_num_Rem.mono_l k
 unfold prop_Pairs_at_num_Rem.f
 have m0 := @dom_Dom_List.mono
 have m1 := @prop_Made.mono
 exact leo_
set_option maxHeartbeats 8000000 in
set_option maxRecDepth 100000 in
theorem prop_Pairs_at_num_Rem.calls (k : Nat) (a0_0 : Int) (A0_1 : Option Addr) (c0_1 : Nat) (l0_1 : List Int) (a0_2 : Int) (a0_3 : Int) (a0_4 : Int) (a1_0 : Int) (A1_1 : Option Addr) (c1_1 : Nat) (l1_1 : List Int) (a1_2 : Int) (a1_3 : Int) (a1_4 : Int) (a2_0 : Int) (A2_1 : Option Addr) (c2_1 : Nat) (l2_1 : List Int) (a2_2 : Int) (a2_3 : Int) (a2_4 : Int)  (r1 : List (S61)) (r2 : Bool) (w : World) (hr0_1 : Kd.C (Kd.int .u64) w A0_1 l0_1.length l0_1) (hc0_1 : l0_1.length ≤ c0_1) (hr1_1 : Kd.C (Kd.int .u64) w A1_1 l1_1.length l1_1) (hc1_1 : l1_1.length ≤ c1_1) (hr2_1 : Kd.C (Kd.int .u64) w A2_1 l2_1.length l2_1) (hc2_1 : l2_1.length ≤ c2_1) (hrtab : Kd.C (Kd.int .u8) w (some ⟨0, 0, none⟩) tabL.length tabL) (h : prop_Pairs_at_num_Rem.f k a0_0 l0_1 a0_2 a0_3 a0_4 a1_0 l1_1 a1_2 a1_3 a1_4 a2_0 l2_1 a2_2 a2_3 a2_4 = some (r1, r2)) :
  Calls Tryz.prog 33 #[.agg #[.int .i64 a0_0, .slice A0_1 l0_1.length c0_1, .int .i64 a0_2, .int .i64 a0_3, .int .i64 a0_4], .agg #[.int .i64 a1_0, .slice A1_1 l1_1.length c1_1, .int .i64 a1_2, .int .i64 a1_3, .int .i64 a1_4], .agg #[.int .i64 a2_0, .slice A2_1 l2_1.length c2_1, .int .i64 a2_2, .int .i64 a2_3, .int .i64 a2_4], .func (.func 32) #[] #[]] w fun e w' => ∃ v0_ : Value, e = .returned (.tuple #[v0_, .bool r2]) ∧ Kd.N k61 61 w' w.heap.size (fun k_ => (w.heap.size ≤ k_)) v0_ r1 ∧ Below w.heap.size w w' := by
 have hu61 := Tryz.underlying61
 have HR0_1 := Aside0.mk hr0_1
 have HC0_1 := Aside0.mk hc0_1
 clear hr0_1 hc0_1
 have HR1_1 := Aside0.mk hr1_1
 have HC1_1 := Aside0.mk hc1_1
 clear hr1_1 hc1_1
 have HR2_1 := Aside0.mk hr2_1
 have HC2_1 := Aside0.mk hc2_1
 clear hr2_1 hc2_1
 have HRtab := Aside0.mk hrtab
 clear hrtab
 have HB := Aside0.mk (Below.refl w.heap.size w)
 have H : ((dom_Dom_List.f k a0_0 l0_1 a0_2 a0_3 a0_4).bind fun t311 => (prop_Pairs_at_num_Rem.l0 k ([] : List Int) ([] : List Int) ([] : List Int) t311 (t311.length : Int) 0 a1_0 l1_1 a1_2 a1_3 a1_4 a2_0 l2_1 a2_2 a2_3 a2_4)) = some (r1, r2) := h
 clear h
 replace H := Option.bind_eq_some_iff.mp H
 obtain ⟨t311, A50, H⟩ := H
 replace H : (prop_Pairs_at_num_Rem.l0 k ([] : List Int) ([] : List Int) ([] : List Int) t311 (t311.length : Int) 0 a1_0 l1_1 a1_2 a1_3 a1_4 a2_0 l2_1 a2_2 a2_3 a2_4) = some (r1, r2) := H
 have A5 := Aside0.mk A50
 clear A50
 have H' := Aside0.mk H
 clear H
 go_enter Tryz.func33, Tryz.ntmps33
 go_wp2_with (first | ((with_reducible refine gate_dst (N := 4) rfl ?_); refine bxe_ (N := 4) (cs := #[.int .i64 a0_0, .slice A0_1 l0_1.length c0_1, .int .i64 a0_2, .int .i64 a0_3, .int .i64 a0_4]) (t := 61) ?_; intro gb308 hg w6 hbox hb; have BK308 := Aside0.mk (hbox); have GW308 := Aside0.mk (by rw [hg]; exact (below_size bel_) : w.heap.size ≤ gb308); have GE308 := GW308; replace HB := Aside0.mk (below_step bel_ hb); clear hb hbox hg) | ((with_reducible refine gate_dst (N := 5) rfl ?_); refine bxe_ (N := 5) (cs := #[.int .i64 a1_0, .slice A1_1 l1_1.length c1_1, .int .i64 a1_2, .int .i64 a1_3, .int .i64 a1_4]) (t := 61) ?_; intro gb309 hg w7 hbox hb; have BK309 := Aside0.mk (hbox); have GW309 := Aside0.mk (by rw [hg]; exact (below_size bel_) : w.heap.size ≤ gb309); have GE309 := GW309; replace HB := Aside0.mk (below_step bel_ hb); have NB308_309 := Aside0.mk ((by rw [hg]; exact Nat.ne_of_lt (blk_lt (bk_ BK308.out)) : gb308 ≠ gb309)); have NB309_308 := Aside0.mk ((by rw [hg]; exact Nat.ne_of_gt (blk_lt (bk_ BK308.out)) : gb309 ≠ gb308)); replace BK308 := Aside0.mk (blk_below (bk_ BK308.out) hb); clear hb hbox hg) | ((with_reducible refine gate_dst (N := 6) rfl ?_); refine bxe_ (N := 6) (cs := #[.int .i64 a2_0, .slice A2_1 l2_1.length c2_1, .int .i64 a2_2, .int .i64 a2_3, .int .i64 a2_4]) (t := 61) ?_; intro gb310 hg w8 hbox hb; have BK310 := Aside0.mk (hbox); have GW310 := Aside0.mk (by rw [hg]; exact (below_size bel_) : w.heap.size ≤ gb310); have GE310 := GW310; replace HB := Aside0.mk (below_step bel_ hb); have NB308_310 := Aside0.mk ((by rw [hg]; exact Nat.ne_of_lt (blk_lt (bk_ BK308.out)) : gb308 ≠ gb310)); have NB310_308 := Aside0.mk ((by rw [hg]; exact Nat.ne_of_gt (blk_lt (bk_ BK308.out)) : gb310 ≠ gb308)); replace BK308 := Aside0.mk (blk_below (bk_ BK308.out) hb); have NB309_310 := Aside0.mk ((by rw [hg]; exact Nat.ne_of_lt (blk_lt (bk_ BK309.out)) : gb309 ≠ gb310)); have NB310_309 := Aside0.mk ((by rw [hg]; exact Nat.ne_of_gt (blk_lt (bk_ BK309.out)) : gb310 ≠ gb309)); replace BK309 := Aside0.mk (blk_below (bk_ BK309.out) hb); clear hb hbox hg; have hnb9 := NB308_309.out; have hnc9 := NB309_308.out; have hnb10 := NB308_310.out; have hnc10 := NB310_308.out; obtain ⟨hcz11_0, hcz11_1, hcz11_2, hcz11_3, hcz11_4, hfz11_0, hfz11_1, hfz11_2, hfz11_3, hfz11_4⟩ := cel5_ BK308.out) | ((with_reducible refine gate_callee (f := 23) rfl ?_); refine goesL_ (some 20) rfl rfl Tryz.func23 (by kernel_rfl) rfl #[.agg #[.int .i64 a0_0, .slice A0_1 l0_1.length c0_1, .int .i64 a0_2, .int .i64 a0_3, .int .i64 a0_4]] rfl ar_ ?_; (with_reducible refine (dom_Dom_List.calls k a0_0 _ _ l0_1 a0_2 a0_3 a0_4 t311 _ ?_ ?_ ?_ A5.out).mono ?_); exact ca_ ((Kd.C_below HR0_1.out HB.out)); exact HC0_1.out; exact ca_ ((Kd.C_below HRtab.out HB.out)); rintro e w12 ⟨v312, rfl, ho0, hb⟩; refine ⟨_, rfl, ?_⟩; have HO313 := Aside0.mk (Kd.R_lower (Kd.R_newM (M := fun k_ => (w.heap.size ≤ k_)) ho0 (below_size bel_) (fun k_ h_ => h_)) (below_size bel_)); replace BK308 := Aside0.mk (blk_below (bk_ BK308.out) hb); replace BK309 := Aside0.mk (blk_below (bk_ BK309.out) hb); replace BK310 := Aside0.mk (blk_below (bk_ BK310.out) hb); replace HB := Aside0.mk (below_step bel_ hb); clear hb ho0; obtain ⟨Ao13, co13, eo13⟩ := Kd.R_slice HO313.out; subst eo13))
 go_loopg [10, 11, 12, 22] k (fun kq v10 v11 v12 v22 w' => ∃ (x10_1 : List Int) (x11_1 : List Int) (x12_1 : List Int) (x22_1 : Int), v22 = .int .i64 x22_1 ∧ Aside0 (prop_Pairs_at_num_Rem.l0 kq x10_1 x11_1 x12_1 t311 (t311.length : Int) x22_1 a1_0 l1_1 a1_2 a1_3 a1_4 a2_0 l2_1 a2_2 a2_3 a2_4 = some (r1, r2)) ∧ Aside0 (kq ≤ k) ∧ Aside0 (Kd.R (Kd.int .i64) 3 w' w.heap.size (fun k_ => (w.heap.size ≤ k_) ∧ some k_ ≠ (v11 : Value).ownBlock ∧ some k_ ≠ (v12 : Value).ownBlock ∧ some k_ ≠ ((.slice Ao13 t311.length co13) : Value).ownBlock) v10 x10_1) ∧ Aside0 (Kd.R (Kd.int .i64) 3 w' w.heap.size (fun k_ => (w.heap.size ≤ k_) ∧ some k_ ≠ (v10 : Value).ownBlock ∧ some k_ ≠ (v12 : Value).ownBlock ∧ some k_ ≠ ((.slice Ao13 t311.length co13) : Value).ownBlock) v11 x11_1) ∧ Aside0 (Kd.R (Kd.int .i64) 3 w' w.heap.size (fun k_ => (w.heap.size ≤ k_) ∧ some k_ ≠ (v10 : Value).ownBlock ∧ some k_ ≠ (v11 : Value).ownBlock ∧ some k_ ≠ ((.slice Ao13 t311.length co13) : Value).ownBlock) v12 x12_1) ∧ Aside0 (Kd.R (Kd.int .i64) 3 w' w.heap.size (fun k_ => (w.heap.size ≤ k_) ∧ some k_ ≠ (v10 : Value).ownBlock ∧ some k_ ≠ (v11 : Value).ownBlock ∧ some k_ ≠ (v12 : Value).ownBlock) (.slice Ao13 t311.length co13) t311) ∧ Aside0 (w'.heap[gb308]? = some (.cells #[.int .i64 a0_0, (.slice A0_1 l0_1.length c0_1), .int .i64 a0_2, .int .i64 a0_3, .int .i64 a0_4] 61 (0, 0))) ∧ Aside0 (w'.heap[gb309]? = some (.cells #[.int .i64 a1_0, (.slice A1_1 l1_1.length c1_1), .int .i64 a1_2, .int .i64 a1_3, .int .i64 a1_4] 61 (0, 0))) ∧ Aside0 (w'.heap[gb310]? = some (.cells #[.int .i64 a2_0, (.slice A2_1 l2_1.length c2_1), .int .i64 a2_2, .int .i64 a2_3, .int .i64 a2_4] 61 (0, 0))) ∧ Aside0 (Below w.heap.size w w'))
 case atStart => exact ⟨(([] : List Int)), (([] : List Int)), (([] : List Int)), (0), eq_, H', ⟨Nat.le_refl _⟩, ⟨nil_⟩, ⟨nil_⟩, ⟨nil_⟩, ⟨by refine vR_ ?_; exact Kd.R_mono HO313.out (fun _ hk => ⟨hk.1, ⟨(by simp [Value.ownBlock]), ⟨(by simp [Value.ownBlock]), (by simp [Value.ownBlock])⟩⟩⟩)⟩, ⟨by refine bk_ ?_; exact BK308.out⟩, ⟨by refine bk_ ?_; exact BK309.out⟩, ⟨by refine bk_ ?_; exact BK310.out⟩, ⟨bel_⟩⟩
 case round =>
  clear H'
  try clear c1
  try clear c2
  try clear p2
  try clear c9
  try clear c10
  try clear hcz11_0
  try clear hcz11_1
  try clear hcz11_2
  try clear hcz11_3
  try clear hcz11_4
  try clear hfz11_0
  try clear hfz11_1
  try clear hfz11_2
  try clear hfz11_3
  try clear hfz11_4
  obtain ⟨x10_1, x11_1, x12_1, x22_1, rfl, HA, HK1, HO_10, HO_11, HO_12, HO_20, BK308, BK309, BK310, HB⟩ := hrel
  cases gk with
  | zero => exact absurd HA.out (by simp [prop_Pairs_at_num_Rem.l0])
  | succ k1 =>
   have H := HA.out
   clear HA
   simp only [prop_Pairs_at_num_Rem.l0] at H
   by_cases c14 : x22_1 < (t311.length : Int)
   ·
    rw [if_pos c14] at H
    have c14b0 : decide (x22_1 < (t311.length : Int)) = true := decide_eq_true c14
    clear c14
    by_cases c15 : 0 ≤ x22_1
    ·
     rw [if_pos c15] at H
     have c15b0 : decide (0 ≤ x22_1) = true := decide_eq_true c15
     clear c15
     by_cases c16 : x22_1 < (t311.length : Int)
     ·
      rw [if_pos c16] at H
      have c16b0 : decide (x22_1 < (t311.length : Int)) = true := decide_eq_true c16
      clear c16
      replace H := Option.bind_eq_some_iff.mp H
      obtain ⟨t322, A170, H⟩ := H
      replace H : (prop_Pairs_at_num_Rem.l1 k1 x10_1 x11_1 x12_1 (rd t311 x22_1) t311 (t311.length : Int) x22_1 t322 (t322.length : Int) 0 a1_0 l1_1 a1_2 a1_3 a1_4 a2_0 l2_1 a2_2 a2_3 a2_4) = some (r1, r2) := H
      have A17 := Aside0.mk A170
      clear A170
      have H' := Aside0.mk H
      clear H
      have p321 : 0 ≤ (x22_1 : Int) := dq_
      have q321 : x22_1 < (t311.length : Int) := dq_
      obtain ⟨ad321, e321, hx321_0⟩ := Kd.at_int (Kd.R_reads' HO_20.out).2.2 x22_1 p321 q321
      cases e321
      replace p321 := eq_true p321
      replace q321 := eq_true q321
      have hnb18 := NB309_308.out
      have hnc18 := NB308_309.out
      have hnb19 := NB309_310.out
      have hnc19 := NB310_309.out
      obtain ⟨hcz20_0, hcz20_1, hcz20_2, hcz20_3, hcz20_4, hfz20_0, hfz20_1, hfz20_2, hfz20_3, hfz20_4⟩ := cel5_ BK309.out
      go_wp2_with (first | ((with_reducible refine gate_callee (f := 23) rfl ?_); refine goesL_ (some 27) rfl rfl Tryz.func23 (by kernel_rfl) rfl #[.agg #[.int .i64 a1_0, .slice A1_1 l1_1.length c1_1, .int .i64 a1_2, .int .i64 a1_3, .int .i64 a1_4]] rfl ar_ ?_; (with_reducible refine (dom_Dom_List.calls k1 a1_0 _ _ l1_1 a1_2 a1_3 a1_4 t322 _ ?_ ?_ ?_ A17.out).mono ?_); exact ca_ ((Kd.C_below HR1_1.out HB.out)); exact HC1_1.out; exact ca_ ((Kd.C_below HRtab.out HB.out)); rintro e w21 ⟨v323, rfl, ho0, hb⟩; refine ⟨_, rfl, ?_⟩; have HO324 := Aside0.mk (Kd.R_lower (Kd.R_new' (Kd.R_new' (Kd.R_new' (Kd.R_new' (Kd.R_newM (M := fun k_ => (w.heap.size ≤ k_)) ho0 (below_size bel_) (fun k_ h_ => h_)) (Kd.R_lt (vR_ HO_10.out))) (Kd.R_lt (vR_ HO_11.out))) (Kd.R_lt (vR_ HO_12.out))) (Kd.R_lt (vR_ HO_20.out))) (below_size bel_)); replace HO_10 := Aside0.mk (Kd.R_elder' (vR_ HO_10.out) (Kd.R_base ho0) hb); replace HO_11 := Aside0.mk (Kd.R_elder' (vR_ HO_11.out) (Kd.R_base ho0) hb); replace HO_12 := Aside0.mk (Kd.R_elder' (vR_ HO_12.out) (Kd.R_base ho0) hb); replace HO_20 := Aside0.mk (Kd.R_elder' (vR_ HO_20.out) (Kd.R_base ho0) hb); replace BK308 := Aside0.mk (blk_below (bk_ BK308.out) hb); replace BK309 := Aside0.mk (blk_below (bk_ BK309.out) hb); replace BK310 := Aside0.mk (blk_below (bk_ BK310.out) hb); replace HB := Aside0.mk (below_step bel_ hb); clear hb ho0; obtain ⟨Ao22, co22, eo22⟩ := Kd.R_slice HO324.out; subst eo22))
      go_loopg [10, 11, 12, 29] k1 (fun kq v10 v11 v12 v29 w' => ∃ (x10_2 : List Int) (x11_2 : List Int) (x12_2 : List Int) (x29_2 : Int), v29 = .int .i64 x29_2 ∧ Aside0 (prop_Pairs_at_num_Rem.l1 kq x10_2 x11_2 x12_2 (rd t311 x22_1) t311 (t311.length : Int) x22_1 t322 (t322.length : Int) x29_2 a1_0 l1_1 a1_2 a1_3 a1_4 a2_0 l2_1 a2_2 a2_3 a2_4 = some (r1, r2)) ∧ Aside0 (kq ≤ k1) ∧ Aside0 (Kd.R (Kd.int .i64) 3 w' w.heap.size (fun k_ => (w.heap.size ≤ k_) ∧ some k_ ≠ (v11 : Value).ownBlock ∧ some k_ ≠ (v12 : Value).ownBlock ∧ some k_ ≠ ((.slice (some ad321) t311.length co13) : Value).ownBlock ∧ some k_ ≠ ((.slice Ao22 t322.length co22) : Value).ownBlock) v10 x10_2) ∧ Aside0 (Kd.R (Kd.int .i64) 3 w' w.heap.size (fun k_ => (w.heap.size ≤ k_) ∧ some k_ ≠ (v10 : Value).ownBlock ∧ some k_ ≠ (v12 : Value).ownBlock ∧ some k_ ≠ ((.slice (some ad321) t311.length co13) : Value).ownBlock ∧ some k_ ≠ ((.slice Ao22 t322.length co22) : Value).ownBlock) v11 x11_2) ∧ Aside0 (Kd.R (Kd.int .i64) 3 w' w.heap.size (fun k_ => (w.heap.size ≤ k_) ∧ some k_ ≠ (v10 : Value).ownBlock ∧ some k_ ≠ (v11 : Value).ownBlock ∧ some k_ ≠ ((.slice (some ad321) t311.length co13) : Value).ownBlock ∧ some k_ ≠ ((.slice Ao22 t322.length co22) : Value).ownBlock) v12 x12_2) ∧ Aside0 (Kd.R (Kd.int .i64) 3 w' w.heap.size (fun k_ => (w.heap.size ≤ k_) ∧ some k_ ≠ (v10 : Value).ownBlock ∧ some k_ ≠ (v11 : Value).ownBlock ∧ some k_ ≠ (v12 : Value).ownBlock ∧ some k_ ≠ ((.slice Ao22 t322.length co22) : Value).ownBlock) (.slice (some ad321) t311.length co13) t311) ∧ Aside0 (Kd.R (Kd.int .i64) 3 w' w.heap.size (fun k_ => (w.heap.size ≤ k_) ∧ some k_ ≠ (v10 : Value).ownBlock ∧ some k_ ≠ (v11 : Value).ownBlock ∧ some k_ ≠ (v12 : Value).ownBlock ∧ some k_ ≠ ((.slice (some ad321) t311.length co13) : Value).ownBlock) (.slice Ao22 t322.length co22) t322) ∧ Aside0 (w'.heap[gb308]? = some (.cells #[.int .i64 a0_0, (.slice A0_1 l0_1.length c0_1), .int .i64 a0_2, .int .i64 a0_3, .int .i64 a0_4] 61 (0, 0))) ∧ Aside0 (w'.heap[gb309]? = some (.cells #[.int .i64 a1_0, (.slice A1_1 l1_1.length c1_1), .int .i64 a1_2, .int .i64 a1_3, .int .i64 a1_4] 61 (0, 0))) ∧ Aside0 (w'.heap[gb310]? = some (.cells #[.int .i64 a2_0, (.slice A2_1 l2_1.length c2_1), .int .i64 a2_2, .int .i64 a2_3, .int .i64 a2_4] 61 (0, 0))) ∧ Aside0 (Below w.heap.size w w'))
      case atStart => exact ⟨(x10_1), (x11_1), (x12_1), (0), eq_, H', ⟨Nat.le_refl _⟩, ⟨by refine vR_ ?_; exact Kd.R_mono HO_10.out (fun _ hk => ⟨hk.1.1, ⟨hk.1.2.1, ⟨hk.1.2.2.1, ⟨hk.1.2.2.2, hk.2⟩⟩⟩⟩)⟩, ⟨by refine vR_ ?_; exact Kd.R_mono HO_11.out (fun _ hk => ⟨hk.1.1, ⟨hk.1.2.1, ⟨hk.1.2.2.1, ⟨hk.1.2.2.2, hk.2⟩⟩⟩⟩)⟩, ⟨by refine vR_ ?_; exact Kd.R_mono HO_12.out (fun _ hk => ⟨hk.1.1, ⟨hk.1.2.1, ⟨hk.1.2.2.1, ⟨hk.1.2.2.2, hk.2⟩⟩⟩⟩)⟩, ⟨by refine vR_ ?_; exact Kd.R_mono HO_20.out (fun _ hk => ⟨hk.1.1, ⟨hk.1.2.1, ⟨hk.1.2.2.1, ⟨hk.1.2.2.2, hk.2⟩⟩⟩⟩)⟩, ⟨by refine vR_ ?_; exact Kd.R_mono HO324.out (fun _ hk => ⟨hk.1.1.1.1.1, ⟨hk.1.1.1.2, ⟨hk.1.1.2, ⟨hk.1.2, hk.2⟩⟩⟩⟩)⟩, ⟨by refine bk_ ?_; exact BK308.out⟩, ⟨by refine bk_ ?_; exact BK309.out⟩, ⟨by refine bk_ ?_; exact BK310.out⟩, ⟨bel_⟩⟩
      case round =>
       clear H'
       try clear c1
       try clear c2
       try clear p2
       try clear p3
       try clear q3
       try clear hx3
       try clear c9
       try clear c10
       try clear c14
       try clear c14b0
       try clear c15
       try clear c15b0
       try clear c16
       try clear c16b0
       try clear c18
       try clear c19
       try clear hcz11_0
       try clear hcz11_1
       try clear hcz11_2
       try clear hcz11_3
       try clear hcz11_4
       try clear hcz20_0
       try clear hcz20_1
       try clear hcz20_2
       try clear hcz20_3
       try clear hcz20_4
       try clear hfz11_0
       try clear hfz11_1
       try clear hfz11_2
       try clear hfz11_3
       try clear hfz11_4
       try clear hfz20_0
       try clear hfz20_1
       try clear hfz20_2
       try clear hfz20_3
       try clear hfz20_4
       try clear hx321_0
       try clear p2
       try clear p321
       try clear q321
       obtain ⟨x10_2, x11_2, x12_2, x29_2, rfl, HA, HK2, HO_10, HO_11, HO_12, HO_20, HO_27, BK308, BK309, BK310, HB⟩ := hrel
       cases gk with
       | zero => exact absurd HA.out (by simp [prop_Pairs_at_num_Rem.l1])
       | succ k2 =>
        have H := HA.out
        clear HA
        simp only [prop_Pairs_at_num_Rem.l1] at H
        by_cases c23 : x29_2 < (t322.length : Int)
        ·
         rw [if_pos c23] at H
         have c23b0 : decide (x29_2 < (t322.length : Int)) = true := decide_eq_true c23
         clear c23
         by_cases c24 : 0 ≤ x29_2
         ·
          rw [if_pos c24] at H
          have c24b0 : decide (0 ≤ x29_2) = true := decide_eq_true c24
          clear c24
          by_cases c25 : x29_2 < (t322.length : Int)
          ·
           rw [if_pos c25] at H
           have c25b0 : decide (x29_2 < (t322.length : Int)) = true := decide_eq_true c25
           clear c25
           replace H := Option.bind_eq_some_iff.mp H
           obtain ⟨⟨t326, t327⟩, A260, H⟩ := H
           replace H : (if t327 = true then ((dom_Dom_Has.f a2_0 l2_1 a2_2 a2_3 a2_4 t326).bind fun t328 => (if t328 = true then (if x10_2.length < 17592186044416 then (if x11_2.length < 17592186044416 then (if x12_2.length < 17592186044416 then (prop_Pairs_at_num_Rem.l1 k2 (x10_2 ++ [(rd t311 x22_1)]) (x11_2 ++ [rd t322 x29_2]) (x12_2 ++ [t326]) (rd t311 x22_1) t311 (t311.length : Int) x22_1 t322 (t322.length : Int) (wrap64 (x29_2 + 1)) a1_0 l1_1 a1_2 a1_3 a1_4 a2_0 l2_1 a2_2 a2_3 a2_4) else (none)) else (none)) else (none)) else (prop_Pairs_at_num_Rem.l1 k2 x10_2 x11_2 x12_2 (rd t311 x22_1) t311 (t311.length : Int) x22_1 t322 (t322.length : Int) (wrap64 (x29_2 + 1)) a1_0 l1_1 a1_2 a1_3 a1_4 a2_0 l2_1 a2_2 a2_3 a2_4))) else (prop_Pairs_at_num_Rem.l1 k2 x10_2 x11_2 x12_2 (rd t311 x22_1) t311 (t311.length : Int) x22_1 t322 (t322.length : Int) (wrap64 (x29_2 + 1)) a1_0 l1_1 a1_2 a1_3 a1_4 a2_0 l2_1 a2_2 a2_3 a2_4)) = some (r1, r2) := H
           have A26 := Aside0.mk A260
           clear A260
           by_cases c27 : t327 = true
           ·
            subst c27
            have H1 : ((dom_Dom_Has.f a2_0 l2_1 a2_2 a2_3 a2_4 t326).bind fun t328 => (if t328 = true then (if x10_2.length < 17592186044416 then (if x11_2.length < 17592186044416 then (if x12_2.length < 17592186044416 then (prop_Pairs_at_num_Rem.l1 k2 (x10_2 ++ [(rd t311 x22_1)]) (x11_2 ++ [rd t322 x29_2]) (x12_2 ++ [t326]) (rd t311 x22_1) t311 (t311.length : Int) x22_1 t322 (t322.length : Int) (wrap64 (x29_2 + 1)) a1_0 l1_1 a1_2 a1_3 a1_4 a2_0 l2_1 a2_2 a2_3 a2_4) else (none)) else (none)) else (none)) else (prop_Pairs_at_num_Rem.l1 k2 x10_2 x11_2 x12_2 (rd t311 x22_1) t311 (t311.length : Int) x22_1 t322 (t322.length : Int) (wrap64 (x29_2 + 1)) a1_0 l1_1 a1_2 a1_3 a1_4 a2_0 l2_1 a2_2 a2_3 a2_4))) = some (r1, r2) := by rw [if_pos rfl] at H; exact H
            clear H
            have H := H1
            clear H1
            replace H := Option.bind_eq_some_iff.mp H
            obtain ⟨t328, A280, H⟩ := H
            replace H : (if t328 = true then (if x10_2.length < 17592186044416 then (if x11_2.length < 17592186044416 then (if x12_2.length < 17592186044416 then (prop_Pairs_at_num_Rem.l1 k2 (x10_2 ++ [(rd t311 x22_1)]) (x11_2 ++ [rd t322 x29_2]) (x12_2 ++ [t326]) (rd t311 x22_1) t311 (t311.length : Int) x22_1 t322 (t322.length : Int) (wrap64 (x29_2 + 1)) a1_0 l1_1 a1_2 a1_3 a1_4 a2_0 l2_1 a2_2 a2_3 a2_4) else (none)) else (none)) else (none)) else (prop_Pairs_at_num_Rem.l1 k2 x10_2 x11_2 x12_2 (rd t311 x22_1) t311 (t311.length : Int) x22_1 t322 (t322.length : Int) (wrap64 (x29_2 + 1)) a1_0 l1_1 a1_2 a1_3 a1_4 a2_0 l2_1 a2_2 a2_3 a2_4)) = some (r1, r2) := H
            have A28 := Aside0.mk A280
            clear A280
            by_cases c29 : t328 = true
            ·
             subst c29
             have H1 : (if x10_2.length < 17592186044416 then (if x11_2.length < 17592186044416 then (if x12_2.length < 17592186044416 then (prop_Pairs_at_num_Rem.l1 k2 (x10_2 ++ [(rd t311 x22_1)]) (x11_2 ++ [rd t322 x29_2]) (x12_2 ++ [t326]) (rd t311 x22_1) t311 (t311.length : Int) x22_1 t322 (t322.length : Int) (wrap64 (x29_2 + 1)) a1_0 l1_1 a1_2 a1_3 a1_4 a2_0 l2_1 a2_2 a2_3 a2_4) else (none)) else (none)) else (none)) = some (r1, r2) := by rw [if_pos rfl] at H; exact H
             clear H
             have H := H1
             clear H1
             by_cases c30 : x10_2.length < 17592186044416
             ·
              rw [if_pos c30] at H
              have LMc30 := Aside0.mk c30
              clear c30
              obtain ⟨y329, hy329⟩ : ∃ y_ : List Int, y_ = (x10_2 ++ [(rd t311 x22_1)]) := ⟨_, rfl⟩
              replace H : (if x11_2.length < 17592186044416 then (if x12_2.length < 17592186044416 then (prop_Pairs_at_num_Rem.l1 k2 y329 (x11_2 ++ [rd t322 x29_2]) (x12_2 ++ [t326]) (rd t311 x22_1) t311 (t311.length : Int) x22_1 t322 (t322.length : Int) (wrap64 (x29_2 + 1)) a1_0 l1_1 a1_2 a1_3 a1_4 a2_0 l2_1 a2_2 a2_3 a2_4) else (none)) else (none)) = some (r1, r2) := by first | (rw [hy329]; with_reducible exact H) | (have H2_ := (Option.bind_some _ _).symm.trans H; rw [hy329]; with_reducible exact H2_) | (have H2_ := (Option.bind_some _ _).symm.trans H; with_reducible exact H2_) | with_reducible exact H | (rw [hy329]; exact H) | exact H
              have Ny329 := Aside0.mk hy329
              clear hy329
              by_cases c31 : x11_2.length < 17592186044416
              ·
               rw [if_pos c31] at H
               have LMc31 := Aside0.mk c31
               clear c31
               obtain ⟨y332, hy332⟩ : ∃ y_ : List Int, y_ = (x11_2 ++ [rd t322 x29_2]) := ⟨_, rfl⟩
               replace H : (if x12_2.length < 17592186044416 then (prop_Pairs_at_num_Rem.l1 k2 y329 y332 (x12_2 ++ [t326]) (rd t311 x22_1) t311 (t311.length : Int) x22_1 t322 (t322.length : Int) (wrap64 (x29_2 + 1)) a1_0 l1_1 a1_2 a1_3 a1_4 a2_0 l2_1 a2_2 a2_3 a2_4) else (none)) = some (r1, r2) := by first | (rw [hy332]; with_reducible exact H) | (have H2_ := (Option.bind_some _ _).symm.trans H; rw [hy332]; with_reducible exact H2_) | (have H2_ := (Option.bind_some _ _).symm.trans H; with_reducible exact H2_) | with_reducible exact H | (rw [hy332]; exact H) | exact H
               have Ny332 := Aside0.mk hy332
               clear hy332
               by_cases c32 : x12_2.length < 17592186044416
               ·
                rw [if_pos c32] at H
                have LMc32 := Aside0.mk c32
                clear c32
                obtain ⟨y335, hy335⟩ : ∃ y_ : List Int, y_ = (x12_2 ++ [t326]) := ⟨_, rfl⟩
                replace H : (prop_Pairs_at_num_Rem.l1 k2 y329 y332 y335 (rd t311 x22_1) t311 (t311.length : Int) x22_1 t322 (t322.length : Int) (wrap64 (x29_2 + 1)) a1_0 l1_1 a1_2 a1_3 a1_4 a2_0 l2_1 a2_2 a2_3 a2_4) = some (r1, r2) := by first | (rw [hy335]; with_reducible exact H) | (have H2_ := (Option.bind_some _ _).symm.trans H; rw [hy335]; with_reducible exact H2_) | (have H2_ := (Option.bind_some _ _).symm.trans H; with_reducible exact H2_) | with_reducible exact H | (rw [hy335]; exact H) | exact H
                have Ny335 := Aside0.mk hy335
                clear hy335
                have H' := Aside0.mk H
                clear H
                have p325 : 0 ≤ (x29_2 : Int) := dq_
                have q325 : x29_2 < (t322.length : Int) := dq_
                obtain ⟨ad325, e325, hx325_0⟩ := Kd.at_int (Kd.R_reads' HO_27.out).2.2 x29_2 p325 q325
                cases e325
                replace p325 := eq_true p325
                replace q325 := eq_true q325
                go_wp2_with (first | (go_at_call 32; (with_reducible refine (num_Rem.calls (rd t311 x22_1) (rd t322 x29_2) t326 true _ A26.out).mono ?_); rintro e w' ⟨rfl, ⟨nd, rfl⟩⟩; have hnb33 := NB310_308.out; have hnc33 := NB308_310.out; have hnb34 := NB310_309.out; have hnc34 := NB309_310.out; obtain ⟨_, _, _, _, _, _, _, _, _, _⟩ := cel5_ BK310.out) | (go_at_call 25; (with_reducible refine (dom_Dom_Has.calls a2_0 _ _ l2_1 a2_2 a2_3 a2_4 t326 true _ ?side1 ?side2 A28.out).mono ?_); (case side1 => repeat (first | exact (Kd.C_below HR2_1.out bel_) | (with_reducible refine Kd.C_alloc ?_ _) | (with_reducible refine Kd.C_drewN ?_ _) | (with_reducible refine Kd.C_drew ?_))); (case side2 => exact HC2_1.out); rintro e w36 ⟨rfl, hb⟩; replace HO_10 := Aside0.mk (Kd.R_below (vR_ HO_10.out) hb); replace HO_11 := Aside0.mk (Kd.R_below (vR_ HO_11.out) hb); replace HO_12 := Aside0.mk (Kd.R_below (vR_ HO_12.out) hb); replace HO_20 := Aside0.mk (Kd.R_below (vR_ HO_20.out) hb); replace HO_27 := Aside0.mk (Kd.R_below (vR_ HO_27.out) hb); replace BK308 := Aside0.mk (blk_below (bk_ BK308.out) hb); replace BK309 := Aside0.mk (blk_below (bk_ BK309.out) hb); replace BK310 := Aside0.mk (blk_below (bk_ BK310.out) hb); replace HB := Aside0.mk (below_step bel_ hb); clear hb) | ((with_reducible refine gate_builtin (b := .append) (xs := #[.tmp 46, .tmp 48]) rfl ?_); at_builtin; refine Kd.R_append (Kd.int .i64) (w0 := w) w.heap.size rfl (.tmp 46) (.tmp 48) 30 3 (.int .i64 0) 8 rfl Tryz.underlying30 info3 rfl (by decide) (by omega) u10 x10_2 (rd t311 x22_1) [.int .i64 (rd t311 x22_1)] (fun k_ => (w.heap.size ≤ k_) ∧ some k_ ≠ (u11 : Value).ownBlock ∧ some k_ ≠ (u12 : Value).ownBlock ∧ some k_ ≠ (.slice (some ad321) t311.length co13 : Value).ownBlock ∧ some k_ ≠ (.slice (some ad325) t322.length co22 : Value).ownBlock) (fun _ => False) rfl rfl ?aP (fun _ hk => hk.elim) ?aF ?aO ?aB ?aS ?aL ?_; (case aP => exact rfl); (case aB => exact bel_); (case aF => exact (fun k_ hk => ⟨(Nat.le_trans (below_size bel_) hk), Kd.fresh' (Kd.R_lt (vR_ HO_11.out)) k_ hk, Kd.fresh' (Kd.R_lt (vR_ HO_12.out)) k_ hk, Kd.fresh' (Kd.R_lt (vR_ HO_20.out)) k_ hk, Kd.fresh' (Kd.R_lt (vR_ HO_27.out)) k_ hk⟩)); (case aO => exact (vR_ HO_10.out)); (case aS => exact (below_size bel_)); (case aL => have := LMc30.out; omega); intro v330 w37 ho hb hg hat; rw [← Ny329.out] at ho; replace HO_11 := Aside0.mk (Kd.R_after (ok := (fun k_ => (w.heap.size ≤ k_) ∧ some k_ ≠ (u12 : Value).ownBlock ∧ some k_ ≠ (.slice (some ad321) t311.length co13 : Value).ownBlock ∧ some k_ ≠ (.slice (some ad325) t322.length co22 : Value).ownBlock)) (by refine vR_ ?_; exact Kd.R_mono HO_11.out (fun _ hk => ⟨⟨hk.1, ⟨hk.2.2.1, ⟨hk.2.2.2.1, hk.2.2.2.2⟩⟩⟩, hk.2.1⟩)) hg hat); replace HO_12 := Aside0.mk (Kd.R_after (ok := (fun k_ => (w.heap.size ≤ k_) ∧ some k_ ≠ (u11 : Value).ownBlock ∧ some k_ ≠ (.slice (some ad321) t311.length co13 : Value).ownBlock ∧ some k_ ≠ (.slice (some ad325) t322.length co22 : Value).ownBlock)) (by refine vR_ ?_; exact Kd.R_mono HO_12.out (fun _ hk => ⟨⟨hk.1, ⟨hk.2.2.1, ⟨hk.2.2.2.1, hk.2.2.2.2⟩⟩⟩, hk.2.1⟩)) hg hat); replace HO_20 := Aside0.mk (Kd.R_after (ok := (fun k_ => (w.heap.size ≤ k_) ∧ some k_ ≠ (u11 : Value).ownBlock ∧ some k_ ≠ (u12 : Value).ownBlock ∧ some k_ ≠ (.slice (some ad325) t322.length co22 : Value).ownBlock)) (by refine vR_ ?_; exact Kd.R_mono HO_20.out (fun _ hk => ⟨⟨hk.1, ⟨hk.2.2.1, ⟨hk.2.2.2.1, hk.2.2.2.2⟩⟩⟩, hk.2.1⟩)) hg hat); replace HO_27 := Aside0.mk (Kd.R_after (ok := (fun k_ => (w.heap.size ≤ k_) ∧ some k_ ≠ (u11 : Value).ownBlock ∧ some k_ ≠ (u12 : Value).ownBlock ∧ some k_ ≠ (.slice (some ad321) t311.length co13 : Value).ownBlock)) (by refine vR_ ?_; exact Kd.R_mono HO_27.out (fun _ hk => ⟨⟨hk.1, ⟨hk.2.2.1, ⟨hk.2.2.2.1, hk.2.2.2.2⟩⟩⟩, hk.2.1⟩)) hg hat); replace BK308 := Aside0.mk (blk_grown (bk_ BK308.out) hg (Kd.R_ne HO_10.out BK308.out (by decide))); replace BK309 := Aside0.mk (blk_grown (bk_ BK309.out) hg (Kd.R_ne HO_10.out BK309.out (by decide))); replace BK310 := Aside0.mk (blk_grown (bk_ BK310.out) hg (Kd.R_ne HO_10.out BK310.out (by decide))); replace HB := Aside0.mk (hb); have HO331 := Aside0.mk (ho); clear HO_10; clear ho hb hg hat) | ((with_reducible refine gate_builtin (b := .append) (xs := #[.tmp 50, .tmp 52]) rfl ?_); at_builtin; refine Kd.R_append (Kd.int .i64) (w0 := w) w.heap.size rfl (.tmp 50) (.tmp 52) 30 3 (.int .i64 0) 8 rfl Tryz.underlying30 info3 rfl (by decide) (by omega) u11 x11_2 (rd t322 x29_2) [.int .i64 (rd t322 x29_2)] (fun k_ => (w.heap.size ≤ k_) ∧ some k_ ≠ (u12 : Value).ownBlock ∧ some k_ ≠ (.slice (some ad321) t311.length co13 : Value).ownBlock ∧ some k_ ≠ (.slice (some ad325) t322.length co22 : Value).ownBlock ∧ some k_ ≠ (v330 : Value).ownBlock) (fun _ => False) rfl rfl ?aP (fun _ hk => hk.elim) ?aF ?aO ?aB ?aS ?aL ?_; (case aP => exact rfl); (case aB => exact bel_); (case aF => exact (fun k_ hk => ⟨(Nat.le_trans (below_size bel_) hk), Kd.fresh' (Kd.R_lt (vR_ HO_12.out)) k_ hk, Kd.fresh' (Kd.R_lt (vR_ HO_20.out)) k_ hk, Kd.fresh' (Kd.R_lt (vR_ HO_27.out)) k_ hk, Kd.fresh' (Kd.R_lt (vR_ HO331.out)) k_ hk⟩)); (case aO => exact (by refine vR_ ?_; exact Kd.R_mono HO_11.out (fun _ hk => ⟨hk.1.1, ⟨hk.1.2.1, ⟨hk.1.2.2.1, ⟨hk.1.2.2.2, hk.2⟩⟩⟩⟩))); (case aS => exact (below_size bel_)); (case aL => have := LMc31.out; omega); intro v333 w38 ho hb hg hat; rw [← Ny332.out] at ho; replace HO_12 := Aside0.mk (Kd.R_after (ok := (fun k_ => (w.heap.size ≤ k_) ∧ some k_ ≠ (.slice (some ad321) t311.length co13 : Value).ownBlock ∧ some k_ ≠ (.slice (some ad325) t322.length co22 : Value).ownBlock ∧ some k_ ≠ (v330 : Value).ownBlock)) (by refine vR_ ?_; exact Kd.R_mono HO_12.out (fun _ hk => ⟨⟨hk.1.1, ⟨hk.1.2.2.1, ⟨hk.1.2.2.2, hk.2⟩⟩⟩, hk.1.2.1⟩)) hg hat); replace HO_20 := Aside0.mk (Kd.R_after (ok := (fun k_ => (w.heap.size ≤ k_) ∧ some k_ ≠ (u12 : Value).ownBlock ∧ some k_ ≠ (.slice (some ad325) t322.length co22 : Value).ownBlock ∧ some k_ ≠ (v330 : Value).ownBlock)) (by refine vR_ ?_; exact Kd.R_mono HO_20.out (fun _ hk => ⟨⟨hk.1.1, ⟨hk.1.2.2.1, ⟨hk.1.2.2.2, hk.2⟩⟩⟩, hk.1.2.1⟩)) hg hat); replace HO_27 := Aside0.mk (Kd.R_after (ok := (fun k_ => (w.heap.size ≤ k_) ∧ some k_ ≠ (u12 : Value).ownBlock ∧ some k_ ≠ (.slice (some ad321) t311.length co13 : Value).ownBlock ∧ some k_ ≠ (v330 : Value).ownBlock)) (by refine vR_ ?_; exact Kd.R_mono HO_27.out (fun _ hk => ⟨⟨hk.1.1, ⟨hk.1.2.2.1, ⟨hk.1.2.2.2, hk.2⟩⟩⟩, hk.1.2.1⟩)) hg hat); replace BK308 := Aside0.mk (blk_grown (bk_ BK308.out) hg (Kd.R_ne HO_11.out BK308.out (by decide))); replace BK309 := Aside0.mk (blk_grown (bk_ BK309.out) hg (Kd.R_ne HO_11.out BK309.out (by decide))); replace BK310 := Aside0.mk (blk_grown (bk_ BK310.out) hg (Kd.R_ne HO_11.out BK310.out (by decide))); replace HO331 := Aside0.mk (Kd.R_after (ok := (fun k_ => (w.heap.size ≤ k_) ∧ some k_ ≠ (u12 : Value).ownBlock ∧ some k_ ≠ (.slice (some ad321) t311.length co13 : Value).ownBlock ∧ some k_ ≠ (.slice (some ad325) t322.length co22 : Value).ownBlock)) (by refine vR_ ?_; exact Kd.R_mono HO331.out (fun _ hk => ⟨⟨hk.1, ⟨hk.2.2.1, ⟨hk.2.2.2.1, hk.2.2.2.2⟩⟩⟩, hk.2.1⟩)) hg hat); replace HB := Aside0.mk (hb); have HO334 := Aside0.mk (ho); clear HO_11; clear ho hb hg hat) | ((with_reducible refine gate_builtin (b := .append) (xs := #[.tmp 54, .tmp 56]) rfl ?_); at_builtin; refine Kd.R_append (Kd.int .i64) (w0 := w) w.heap.size rfl (.tmp 54) (.tmp 56) 30 3 (.int .i64 0) 8 rfl Tryz.underlying30 info3 rfl (by decide) (by omega) u12 x12_2 t326 [.int .i64 t326] (fun k_ => (w.heap.size ≤ k_) ∧ some k_ ≠ (.slice (some ad321) t311.length co13 : Value).ownBlock ∧ some k_ ≠ (.slice (some ad325) t322.length co22 : Value).ownBlock ∧ some k_ ≠ (v330 : Value).ownBlock ∧ some k_ ≠ (v333 : Value).ownBlock) (fun _ => False) rfl rfl ?aP (fun _ hk => hk.elim) ?aF ?aO ?aB ?aS ?aL ?_; (case aP => exact rfl); (case aB => exact bel_); (case aF => exact (fun k_ hk => ⟨(Nat.le_trans (below_size bel_) hk), Kd.fresh' (Kd.R_lt (vR_ HO_20.out)) k_ hk, Kd.fresh' (Kd.R_lt (vR_ HO_27.out)) k_ hk, Kd.fresh' (Kd.R_lt (vR_ HO331.out)) k_ hk, Kd.fresh' (Kd.R_lt (vR_ HO334.out)) k_ hk⟩)); (case aO => exact (by refine vR_ ?_; exact Kd.R_mono HO_12.out (fun _ hk => ⟨hk.1.1, ⟨hk.1.2.1, ⟨hk.1.2.2.1, ⟨hk.1.2.2.2, hk.2⟩⟩⟩⟩))); (case aS => exact (below_size bel_)); (case aL => have := LMc32.out; omega); intro v336 w39 ho hb hg hat; rw [← Ny335.out] at ho; replace HO_20 := Aside0.mk (Kd.R_after (ok := (fun k_ => (w.heap.size ≤ k_) ∧ some k_ ≠ (.slice (some ad325) t322.length co22 : Value).ownBlock ∧ some k_ ≠ (v330 : Value).ownBlock ∧ some k_ ≠ (v333 : Value).ownBlock)) (by refine vR_ ?_; exact Kd.R_mono HO_20.out (fun _ hk => ⟨⟨hk.1.1, ⟨hk.1.2.2.1, ⟨hk.1.2.2.2, hk.2⟩⟩⟩, hk.1.2.1⟩)) hg hat); replace HO_27 := Aside0.mk (Kd.R_after (ok := (fun k_ => (w.heap.size ≤ k_) ∧ some k_ ≠ (.slice (some ad321) t311.length co13 : Value).ownBlock ∧ some k_ ≠ (v330 : Value).ownBlock ∧ some k_ ≠ (v333 : Value).ownBlock)) (by refine vR_ ?_; exact Kd.R_mono HO_27.out (fun _ hk => ⟨⟨hk.1.1, ⟨hk.1.2.2.1, ⟨hk.1.2.2.2, hk.2⟩⟩⟩, hk.1.2.1⟩)) hg hat); replace BK308 := Aside0.mk (blk_grown (bk_ BK308.out) hg (Kd.R_ne HO_12.out BK308.out (by decide))); replace BK309 := Aside0.mk (blk_grown (bk_ BK309.out) hg (Kd.R_ne HO_12.out BK309.out (by decide))); replace BK310 := Aside0.mk (blk_grown (bk_ BK310.out) hg (Kd.R_ne HO_12.out BK310.out (by decide))); replace HO331 := Aside0.mk (Kd.R_after (ok := (fun k_ => (w.heap.size ≤ k_) ∧ some k_ ≠ (.slice (some ad321) t311.length co13 : Value).ownBlock ∧ some k_ ≠ (.slice (some ad325) t322.length co22 : Value).ownBlock ∧ some k_ ≠ (v333 : Value).ownBlock)) (by refine vR_ ?_; exact Kd.R_mono HO331.out (fun _ hk => ⟨⟨hk.1.1, ⟨hk.1.2.2.1, ⟨hk.1.2.2.2, hk.2⟩⟩⟩, hk.1.2.1⟩)) hg hat); replace HO334 := Aside0.mk (Kd.R_after (ok := (fun k_ => (w.heap.size ≤ k_) ∧ some k_ ≠ (.slice (some ad321) t311.length co13 : Value).ownBlock ∧ some k_ ≠ (.slice (some ad325) t322.length co22 : Value).ownBlock ∧ some k_ ≠ (v330 : Value).ownBlock)) (by refine vR_ ?_; exact Kd.R_mono HO334.out (fun _ hk => ⟨⟨hk.1, ⟨hk.2.2.1, ⟨hk.2.2.2.1, hk.2.2.2.2⟩⟩⟩, hk.2.1⟩)) hg hat); replace HB := Aside0.mk (hb); have HO337 := Aside0.mk (ho); clear HO_12; clear ho hb hg hat))
                go_roundg k2
                case measure => have := HK1.out; have := HK2.out; omega
                case rel => exact ⟨(y329), (y332), (y335), (wrap64 (x29_2 + 1)), eq_, H', ⟨by have := HK1.out; have := HK2.out; omega⟩, ⟨by refine vR_ ?_; exact Kd.R_mono HO331.out (fun _ hk => ⟨hk.1.1, ⟨hk.1.2.2.2, ⟨hk.2, ⟨hk.1.2.1, hk.1.2.2.1⟩⟩⟩⟩)⟩, ⟨by refine vR_ ?_; exact Kd.R_mono HO334.out (fun _ hk => ⟨hk.1.1, ⟨hk.1.2.2.2, ⟨hk.2, ⟨hk.1.2.1, hk.1.2.2.1⟩⟩⟩⟩)⟩, ⟨by refine vR_ ?_; exact Kd.R_mono HO337.out (fun _ hk => ⟨hk.1, ⟨hk.2.2.2.1, ⟨hk.2.2.2.2, ⟨hk.2.1, hk.2.2.1⟩⟩⟩⟩)⟩, ⟨by refine vR_ ?_; exact Kd.R_mono HO_20.out (fun _ hk => ⟨hk.1.1, ⟨hk.1.2.2.1, ⟨hk.1.2.2.2, ⟨hk.2, hk.1.2.1⟩⟩⟩⟩)⟩, ⟨by refine vR_ ?_; exact Kd.R_mono HO_27.out (fun _ hk => ⟨hk.1.1, ⟨hk.1.2.2.1, ⟨hk.1.2.2.2, ⟨hk.2, hk.1.2.1⟩⟩⟩⟩)⟩, ⟨by refine bk_ ?_; exact BK308.out⟩, ⟨by refine bk_ ?_; exact BK309.out⟩, ⟨by refine bk_ ?_; exact BK310.out⟩, ⟨bel_⟩⟩
               ·
                rw [if_neg c32] at H
                exact absurd H (by simp)
              ·
               rw [if_neg c31] at H
               exact absurd H (by simp)
             ·
              rw [if_neg c30] at H
              exact absurd H (by simp)
            ·
             replace c29 := Bool.eq_false_iff.mpr c29
             subst c29
             have H1 : (prop_Pairs_at_num_Rem.l1 k2 x10_2 x11_2 x12_2 (rd t311 x22_1) t311 (t311.length : Int) x22_1 t322 (t322.length : Int) (wrap64 (x29_2 + 1)) a1_0 l1_1 a1_2 a1_3 a1_4 a2_0 l2_1 a2_2 a2_3 a2_4) = some (r1, r2) := by rw [if_neg (show ¬ (false = true) by decide)] at H; exact H
             clear H
             have H := H1
             clear H1
             have H' := Aside0.mk H
             clear H
             have p325 : 0 ≤ (x29_2 : Int) := dq_
             have q325 : x29_2 < (t322.length : Int) := dq_
             obtain ⟨ad325, e325, hx325_0⟩ := Kd.at_int (Kd.R_reads' HO_27.out).2.2 x29_2 p325 q325
             cases e325
             replace p325 := eq_true p325
             replace q325 := eq_true q325
             go_wp2_with (first | (go_at_call 32; (with_reducible refine (num_Rem.calls (rd t311 x22_1) (rd t322 x29_2) t326 true _ A26.out).mono ?_); rintro e w' ⟨rfl, ⟨nd, rfl⟩⟩; have hnb40 := NB310_308.out; have hnc40 := NB308_310.out; have hnb41 := NB310_309.out; have hnc41 := NB309_310.out; obtain ⟨_, _, _, _, _, _, _, _, _, _⟩ := cel5_ BK310.out) | (go_at_call 25; (with_reducible refine (dom_Dom_Has.calls a2_0 _ _ l2_1 a2_2 a2_3 a2_4 t326 false _ ?side1 ?side2 A28.out).mono ?_); (case side1 => repeat (first | exact (Kd.C_below HR2_1.out bel_) | (with_reducible refine Kd.C_alloc ?_ _) | (with_reducible refine Kd.C_drewN ?_ _) | (with_reducible refine Kd.C_drew ?_))); (case side2 => exact HC2_1.out); rintro e w43 ⟨rfl, hb⟩; replace HO_10 := Aside0.mk (Kd.R_below (vR_ HO_10.out) hb); replace HO_11 := Aside0.mk (Kd.R_below (vR_ HO_11.out) hb); replace HO_12 := Aside0.mk (Kd.R_below (vR_ HO_12.out) hb); replace HO_20 := Aside0.mk (Kd.R_below (vR_ HO_20.out) hb); replace HO_27 := Aside0.mk (Kd.R_below (vR_ HO_27.out) hb); replace BK308 := Aside0.mk (blk_below (bk_ BK308.out) hb); replace BK309 := Aside0.mk (blk_below (bk_ BK309.out) hb); replace BK310 := Aside0.mk (blk_below (bk_ BK310.out) hb); replace HB := Aside0.mk (below_step bel_ hb); clear hb))
             go_roundg k2
             case measure => have := HK1.out; have := HK2.out; omega
             case rel => exact ⟨(x10_2), (x11_2), (x12_2), (wrap64 (x29_2 + 1)), eq_, H', ⟨by have := HK1.out; have := HK2.out; omega⟩, ⟨by refine vR_ ?_; exact HO_10.out⟩, ⟨by refine vR_ ?_; exact HO_11.out⟩, ⟨by refine vR_ ?_; exact HO_12.out⟩, ⟨by refine vR_ ?_; exact HO_20.out⟩, ⟨by refine vR_ ?_; exact HO_27.out⟩, ⟨by refine bk_ ?_; exact BK308.out⟩, ⟨by refine bk_ ?_; exact BK309.out⟩, ⟨by refine bk_ ?_; exact BK310.out⟩, ⟨bel_⟩⟩
           ·
            replace c27 := Bool.eq_false_iff.mpr c27
            subst c27
            have H1 : (prop_Pairs_at_num_Rem.l1 k2 x10_2 x11_2 x12_2 (rd t311 x22_1) t311 (t311.length : Int) x22_1 t322 (t322.length : Int) (wrap64 (x29_2 + 1)) a1_0 l1_1 a1_2 a1_3 a1_4 a2_0 l2_1 a2_2 a2_3 a2_4) = some (r1, r2) := by rw [if_neg (show ¬ (false = true) by decide)] at H; exact H
            clear H
            have H := H1
            clear H1
            have H' := Aside0.mk H
            clear H
            have p325 : 0 ≤ (x29_2 : Int) := dq_
            have q325 : x29_2 < (t322.length : Int) := dq_
            obtain ⟨ad325, e325, hx325_0⟩ := Kd.at_int (Kd.R_reads' HO_27.out).2.2 x29_2 p325 q325
            cases e325
            replace p325 := eq_true p325
            replace q325 := eq_true q325
            go_wp2_with (first | (go_at_call 32; (with_reducible refine (num_Rem.calls (rd t311 x22_1) (rd t322 x29_2) t326 false _ A26.out).mono ?_); rintro e w' ⟨rfl, ⟨nd, rfl⟩⟩))
            go_roundg k2
            case measure => have := HK1.out; have := HK2.out; omega
            case rel => exact ⟨(x10_2), (x11_2), (x12_2), (wrap64 (x29_2 + 1)), eq_, H', ⟨by have := HK1.out; have := HK2.out; omega⟩, ⟨by refine vR_ ?_; exact HO_10.out⟩, ⟨by refine vR_ ?_; exact HO_11.out⟩, ⟨by refine vR_ ?_; exact HO_12.out⟩, ⟨by refine vR_ ?_; exact HO_20.out⟩, ⟨by refine vR_ ?_; exact HO_27.out⟩, ⟨by refine bk_ ?_; exact BK308.out⟩, ⟨by refine bk_ ?_; exact BK309.out⟩, ⟨by refine bk_ ?_; exact BK310.out⟩, ⟨bel_⟩⟩
          ·
           rw [if_neg c25] at H
           exact absurd H (by simp)
         ·
          rw [if_neg c24] at H
          exact absurd H (by simp)
        ·
         rw [if_neg c23] at H
         have c23b0 : decide (x29_2 < (t322.length : Int)) = false := decide_eq_false c23
         clear c23
         have H' := Aside0.mk H
         clear H
         go_wp2
         go_roundg k2
         case measure => have := HK1.out; have := HK2.out; omega
         case rel => exact ⟨(x10_2), (x11_2), (x12_2), (wrap64 (x22_1 + 1)), eq_, H', ⟨by have := HK1.out; have := HK2.out; omega⟩, ⟨by refine vR_ ?_; exact Kd.R_mono HO_10.out (fun _ hk => ⟨hk.1, ⟨hk.2.1, ⟨hk.2.2.1, hk.2.2.2.1⟩⟩⟩)⟩, ⟨by refine vR_ ?_; exact Kd.R_mono HO_11.out (fun _ hk => ⟨hk.1, ⟨hk.2.1, ⟨hk.2.2.1, hk.2.2.2.1⟩⟩⟩)⟩, ⟨by refine vR_ ?_; exact Kd.R_mono HO_12.out (fun _ hk => ⟨hk.1, ⟨hk.2.1, ⟨hk.2.2.1, hk.2.2.2.1⟩⟩⟩)⟩, ⟨by refine vR_ ?_; exact Kd.R_mono HO_20.out (fun _ hk => ⟨hk.1, ⟨hk.2.1, ⟨hk.2.2.1, hk.2.2.2.1⟩⟩⟩)⟩, ⟨by refine bk_ ?_; exact BK308.out⟩, ⟨by refine bk_ ?_; exact BK309.out⟩, ⟨by refine bk_ ?_; exact BK310.out⟩, ⟨bel_⟩⟩
     ·
      rw [if_neg c16] at H
      exact absurd H (by simp)
    ·
     rw [if_neg c15] at H
     exact absurd H (by simp)
   ·
    rw [if_neg c14] at H
    have c14b0 : decide (x22_1 < (t311.length : Int)) = false := decide_eq_false c14
    clear c14
    obtain ⟨y314, hy314⟩ : ∃ y_ : List (List Int), y_ = (([x10_1, x11_1, x12_1] : List (List Int))) := ⟨_, rfl⟩
    replace H : ((prop_Made.f k1 y314).bind fun bt317 => (some (bt317.1, bt317.2))) = some (r1, r2) := by first | (rw [hy314]; with_reducible exact H) | (have H2_ := (Option.bind_some _ _).symm.trans H; rw [hy314]; with_reducible exact H2_) | (have H2_ := (Option.bind_some _ _).symm.trans H; with_reducible exact H2_) | with_reducible exact H | (rw [hy314]; exact H) | exact H
    have Ny314 := Aside0.mk hy314
    clear hy314
    replace H := Option.bind_eq_some_iff.mp H
    obtain ⟨⟨t317, t320⟩, A440, H⟩ := H
    replace H : (some (t317, t320)) = some (r1, r2) := H
    have A44 := Aside0.mk A440
    clear A440
    simp only [Option.some.injEq, Prod.mk.injEq] at H
    obtain ⟨rfl, rfl⟩ := H
    obtain ⟨Ao45, co45, eo45⟩ := Kd.R_slice HO_10.out
    subst eo45
    obtain ⟨Ao46, co46, eo46⟩ := Kd.R_slice HO_11.out
    subst eo46
    obtain ⟨Ao47, co47, eo47⟩ := Kd.R_slice HO_12.out
    subst eo47
    go_wp2_with (first | ((with_reducible refine gate_dst (N := 63) rfl ?_); refine Kd.N_lit (Kd.slice 3 (Kd.int .i64)) _ 30 ?hg (N' := 63) ?hd (xs := ([x10_1, x11_1, x12_1] : List (List Int))) (inner := [.slice Ao45 x10_1.length co45, .slice Ao46 x11_1.length co46, .slice Ao47 x12_1.length co47]) (ok := (fun k_ => (w.heap.size ≤ k_) ∧ some k_ ≠ (.slice Ao13 t311.length co13 : Value).ownBlock ∧ k_ ≠ gb308 ∧ k_ ≠ gb309 ∧ k_ ≠ gb310)) (okp := (fun k_ => (w.heap.size ≤ k_) ∧ some k_ ≠ (.slice Ao13 t311.length co13 : Value).ownBlock ∧ k_ ≠ gb308 ∧ k_ ≠ gb309 ∧ k_ ≠ gb310)) ?hr ?hp (fun _ hk => hk) ((show ∀ k_, wr.heap.size ≤ k_ → (fun k_ => (w.heap.size ≤ k_) ∧ some k_ ≠ (.slice Ao13 t311.length co13 : Value).ownBlock ∧ k_ ≠ gb308 ∧ k_ ≠ gb309 ∧ k_ ≠ gb310) k_ from fun k_ hk => ⟨(Nat.le_trans (below_size bel_) hk), Kd.fresh' (Kd.R_lt (vR_ HO_20.out)) k_ hk, Kd.freshB (bk_ BK308.out) k_ hk, Kd.freshB (bk_ BK309.out) k_ hk, Kd.freshB (bk_ BK310.out) k_ hk⟩) _ (Nat.le_refl _)) (Below.refl _ _) (Nat.le_refl _) (by simp) ?_; (case hd => rfl); (case hg => rfl); (case hr => first | (go_simp; done) | (go_simp; rfl)); (case hp => exact (Reps.one (show Kd.FK (Kd.slice 3 (Kd.int .i64)) _ _ x10_1 [.slice Ao45 x10_1.length co45] from (Kd.FK_slice_mk (Kd.R_reads' (Kd.R_mono (ok' := (fun k_ => (w.heap.size ≤ k_) ∧ some k_ ≠ (.slice Ao13 t311.length co13 : Value).ownBlock ∧ k_ ≠ gb308 ∧ k_ ≠ gb309 ∧ k_ ≠ gb310)) (Kd.R_types (Kd.R_types (Kd.R_types (HO_10.out) BK308.out (by decide)) BK309.out (by decide)) BK310.out (by decide)) (fun k_ hk => ⟨hk.1.1.1.1, ⟨hk.1.1.1.2.2.2, ⟨hk.1.1.2, ⟨hk.1.2, hk.2⟩⟩⟩⟩))).2.1 (Kd.R_F (Kd.R_mono (ok' := (fun k_ => (w.heap.size ≤ k_) ∧ some k_ ≠ (.slice Ao13 t311.length co13 : Value).ownBlock ∧ k_ ≠ gb308 ∧ k_ ≠ gb309 ∧ k_ ≠ gb310)) (Kd.R_types (Kd.R_types (Kd.R_types (HO_10.out) BK308.out (by decide)) BK309.out (by decide)) BK310.out (by decide)) (fun k_ hk => ⟨hk.1.1.1.1, ⟨hk.1.1.1.2.2.2, ⟨hk.1.1.2, ⟨hk.1.2, hk.2⟩⟩⟩⟩))))) (Reps.one (show Kd.FK (Kd.slice 3 (Kd.int .i64)) _ _ x11_1 [.slice Ao46 x11_1.length co46] from (Kd.FK_slice_mk (Kd.R_reads' (Kd.R_mono (ok' := (fun k_ => (w.heap.size ≤ k_) ∧ some k_ ≠ (.slice Ao13 t311.length co13 : Value).ownBlock ∧ k_ ≠ gb308 ∧ k_ ≠ gb309 ∧ k_ ≠ gb310)) (Kd.R_types (Kd.R_types (Kd.R_types (HO_11.out) BK308.out (by decide)) BK309.out (by decide)) BK310.out (by decide)) (fun k_ hk => ⟨hk.1.1.1.1, ⟨hk.1.1.1.2.2.2, ⟨hk.1.1.2, ⟨hk.1.2, hk.2⟩⟩⟩⟩))).2.1 (Kd.R_F (Kd.R_mono (ok' := (fun k_ => (w.heap.size ≤ k_) ∧ some k_ ≠ (.slice Ao13 t311.length co13 : Value).ownBlock ∧ k_ ≠ gb308 ∧ k_ ≠ gb309 ∧ k_ ≠ gb310)) (Kd.R_types (Kd.R_types (Kd.R_types (HO_11.out) BK308.out (by decide)) BK309.out (by decide)) BK310.out (by decide)) (fun k_ hk => ⟨hk.1.1.1.1, ⟨hk.1.1.1.2.2.2, ⟨hk.1.1.2, ⟨hk.1.2, hk.2⟩⟩⟩⟩))))) (Reps.one (show Kd.FK (Kd.slice 3 (Kd.int .i64)) _ _ x12_1 [.slice Ao47 x12_1.length co47] from (Kd.FK_slice_mk (Kd.R_reads' (Kd.R_mono (ok' := (fun k_ => (w.heap.size ≤ k_) ∧ some k_ ≠ (.slice Ao13 t311.length co13 : Value).ownBlock ∧ k_ ≠ gb308 ∧ k_ ≠ gb309 ∧ k_ ≠ gb310)) (Kd.R_types (Kd.R_types (Kd.R_types (HO_12.out) BK308.out (by decide)) BK309.out (by decide)) BK310.out (by decide)) (fun k_ hk => ⟨hk.1.1.1.1, ⟨hk.1.1.1.2.2.2, ⟨hk.1.1.2, ⟨hk.1.2, hk.2⟩⟩⟩⟩))).2.1 (Kd.R_F (Kd.R_mono (ok' := (fun k_ => (w.heap.size ≤ k_) ∧ some k_ ≠ (.slice Ao13 t311.length co13 : Value).ownBlock ∧ k_ ≠ gb308 ∧ k_ ≠ gb309 ∧ k_ ≠ gb310)) (Kd.R_types (Kd.R_types (Kd.R_types (HO_12.out) BK308.out (by decide)) BK309.out (by decide)) BK310.out (by decide)) (fun k_ hk => ⟨hk.1.1.1.1, ⟨hk.1.1.1.2.2.2, ⟨hk.1.1.2, ⟨hk.1.2, hk.2⟩⟩⟩⟩))))) (Reps.none _ _))))); intro v315 w48 ho49 hb hg_ hnew_; clear hg_ hnew_; (first | rw [← Ny314.out] at ho49 | (simp only [Int.reduceToNat] at ho49; rw [← Ny314.out] at ho49)); replace HO_20 := Aside0.mk (Kd.R_below (vR_ HO_20.out) hb); have HO316 := Aside0.mk (Kd.N_lower ho49 (below_size bel_)); replace BK308 := Aside0.mk (blk_below (bk_ BK308.out) hb); replace BK309 := Aside0.mk (blk_below (bk_ BK309.out) hb); replace BK310 := Aside0.mk (blk_below (bk_ BK310.out) hb); replace HB := Aside0.mk (below_step bel_ hb); clear HO_10 HO_11 HO_12; clear hb ho49; obtain ⟨Ao50, co50, eo50⟩ := Kd.N_slice HO316.out; subst eo50) | ((with_reducible refine gate_callee (f := 69) rfl ?_); refine goesL_ (some 64) rfl rfl Tryz.func69 (by kernel_rfl) rfl #[.slice Ao50 y314.length co50] rfl ar_ ?_; (with_reducible refine (prop_Made.calls k1 _ _ y314 t317 t320 _ ?_ ?_ ?_ A44.out).mono ?_); exact ca_ ((Kd.N_reads' HO316.out).2.2); exact (Kd.N_reads' HO316.out).2.1; exact ca_ ((Kd.C_below HRtab.out HB.out)); rintro e w51 ⟨v318, rfl, ho0, hb⟩; refine ⟨_, rfl, ?_⟩; have HO319 := Aside0.mk (Kd.N_lower (Kd.N_mono (ok' := fun k_ => (w.heap.size ≤ k_) ∧ some k_ ≠ (.slice Ao13 t311.length co13 : Value).ownBlock ∧ some k_ ≠ (.slice Ao50 y314.length co50 : Value).ownBlock ∧ k_ ≠ gb308 ∧ k_ ≠ gb309 ∧ k_ ≠ gb310) ho0 (fun k_ hk_ => ⟨(Nat.le_trans (below_size bel_) hk_), (Kd.fresh' (Kd.R_lt (vR_ HO_20.out)) k_ hk_), (Kd.fresh' (Kd.N_lt (vN_ HO316.out)) k_ hk_), (Kd.freshB (bk_ BK308.out) k_ hk_), (Kd.freshB (bk_ BK309.out) k_ hk_), (Kd.freshB (bk_ BK310.out) k_ hk_)⟩)) (below_size bel_)); replace HB := Aside0.mk (below_step bel_ hb); clear hb ho0))
    go_ret2
    exact ⟨_, by first | rfl | (simp [errW_none, errW_some] <;> rfl) | (simp [*, errW_none, errW_some] <;> rfl), by refine vN_ ?_; exact Kd.N_mono HO319.out (fun _ hk => hk.1), bel_⟩

end Go.Proofs.YtbhhbgoamomacaaGreatDoor.XMulFixed
