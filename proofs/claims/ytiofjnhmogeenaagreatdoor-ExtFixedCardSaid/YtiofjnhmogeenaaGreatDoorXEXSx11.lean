-- by xprint.py, a program of this session, over the kit's print
import Derived.Test.YtiofjnhmogeenaaGreatDoorXEXSx0
import Derived.Test.YtiofjnhmogeenaaGreatDoorXEXSx5
import Derived.Test.YtiofjnhmogeenaaGreatDoorXEXSx6
import Derived.Test.YtiofjnhmogeenaaGreatDoorXEXSx9
import Derived.Test.YtiofjnhmogeenaaGreatDoorXEXSx10
import Derived.Test.YtiofjnhmogeenaaGreatDoorSq
namespace Go.Proofs.YtiofjnhmogeenaaGreatDoor.XExtFixed
open Go.RowKit Go.Proofs.YtiofjnhmogeenaaGreatDoor.Sq Go.Proofs.YtiofjnhmogeenaaGreatDoorW.PrintWords Go.Proofs.YtiofjnhmogeenaaGreatDoorW.PrintLast Go.Proofs.YtiofjnhmogeenaaGreatDoorW.PrintMore
attribute [local go_sem] max2_int min2_int max_two min_two max_three min_three max_four min_four   -- for this text's walks alone
set_option linter.unusedVariables false
set_option linter.unusedSimpArgs false

/-! ### prop_Pairs_at_ext_Filter_1: function 32 -/
mutual
def prop_Pairs_at_ext_Filter_1.l0 : Nat → List Int → List Int → List Int → List Int → Int → Int → Int → List Int → Int → Int → Int → Int → List Int → Int → Int → Int → Option ((List (S61)) × Bool)
 | 0, _, _, _, _, _, _, _, _, _, _, _, _, _, _, _, _ => none
 | k + 1, x10, x11, x12, x20, x21, x22, x266000, x266001, x266002, x266003, x266004, x267000, x267001, x267002, x267003, x267004 => if x22 < x21 then (if 0 ≤ x22 then (if x22 < (x20.length : Int) then ((dom_Dom_List.f k x266000 x266001 x266002 x266003 x266004).bind fun t278 => (prop_Pairs_at_ext_Filter_1.l1 k x10 x11 x12 (rd x20 x22) x20 x21 x22 t278 (t278.length : Int) 0 x266000 x266001 x266002 x266003 x266004 x267000 x267001 x267002 x267003 x267004)) else (none)) else (none)) else ((prop_Made.f k (([x10, x11, x12] : List (List Int)))).bind fun bt273 => (some (bt273.1, bt273.2)))
def prop_Pairs_at_ext_Filter_1.l1 : Nat → List Int → List Int → List Int → Int → List Int → Int → Int → List Int → Int → Int → Int → List Int → Int → Int → Int → Int → List Int → Int → Int → Int → Option ((List (S61)) × Bool)
 | 0, _, _, _, _, _, _, _, _, _, _, _, _, _, _, _, _, _, _, _, _ => none
 | k + 1, x10, x11, x12, x14, x20, x21, x22, x27, x28, x29, x266000, x266001, x266002, x266003, x266004, x267000, x267001, x267002, x267003, x267004 => if x29 < x28 then (if 0 ≤ x29 then (if x29 < (x27.length : Int) then ((ext_Filter_1.f x14 (rd x27 x29)).bind fun bt282 => (if bt282.2 = true then ((dom_Dom_Has.f x267000 x267001 x267002 x267003 x267004 bt282.1).bind fun t284 => (if t284 = true then (if x10.length < 17592186044416 then (if x11.length < 17592186044416 then (if x12.length < 17592186044416 then (prop_Pairs_at_ext_Filter_1.l1 k (x10 ++ [x14]) (x11 ++ [rd x27 x29]) (x12 ++ [bt282.1]) x14 x20 x21 x22 x27 x28 (wrap64 (x29 + 1)) x266000 x266001 x266002 x266003 x266004 x267000 x267001 x267002 x267003 x267004) else (none)) else (none)) else (none)) else (prop_Pairs_at_ext_Filter_1.l1 k x10 x11 x12 x14 x20 x21 x22 x27 x28 (wrap64 (x29 + 1)) x266000 x266001 x266002 x266003 x266004 x267000 x267001 x267002 x267003 x267004))) else (prop_Pairs_at_ext_Filter_1.l1 k x10 x11 x12 x14 x20 x21 x22 x27 x28 (wrap64 (x29 + 1)) x266000 x266001 x266002 x266003 x266004 x267000 x267001 x267002 x267003 x267004))) else (none)) else (none)) else (prop_Pairs_at_ext_Filter_1.l0 k x10 x11 x12 x20 x21 (wrap64 (x22 + 1)) x266000 x266001 x266002 x266003 x266004 x267000 x267001 x267002 x267003 x267004)
end
def prop_Pairs_at_ext_Filter_1.f (k : Nat) (a0_0 : Int) (l0_1 : List Int) (a0_2 : Int) (a0_3 : Int) (a0_4 : Int) (a1_0 : Int) (l1_1 : List Int) (a1_2 : Int) (a1_3 : Int) (a1_4 : Int) (a2_0 : Int) (l2_1 : List Int) (a2_2 : Int) (a2_3 : Int) (a2_4 : Int)  : Option ((List (S61)) × Bool) := (dom_Dom_List.f k a0_0 l0_1 a0_2 a0_3 a0_4).bind fun t267 => (prop_Pairs_at_ext_Filter_1.l0 k ([] : List Int) ([] : List Int) ([] : List Int) t267 (t267.length : Int) 0 a1_0 l1_1 a1_2 a1_3 a1_4 a2_0 l2_1 a2_2 a2_3 a2_4)
theorem prop_Pairs_at_ext_Filter_1.mono_l : ∀ k, (∀ y0 y1 y2 y3 y4 y5 y6 y7 y8 y9 y10 y11 y12 y13 y14 y15, LeO (prop_Pairs_at_ext_Filter_1.l0 k y0 y1 y2 y3 y4 y5 y6 y7 y8 y9 y10 y11 y12 y13 y14 y15) (prop_Pairs_at_ext_Filter_1.l0 (k + 1) y0 y1 y2 y3 y4 y5 y6 y7 y8 y9 y10 y11 y12 y13 y14 y15)) ∧ (∀ y0 y1 y2 y3 y4 y5 y6 y7 y8 y9 y10 y11 y12 y13 y14 y15 y16 y17 y18 y19, LeO (prop_Pairs_at_ext_Filter_1.l1 k y0 y1 y2 y3 y4 y5 y6 y7 y8 y9 y10 y11 y12 y13 y14 y15 y16 y17 y18 y19) (prop_Pairs_at_ext_Filter_1.l1 (k + 1) y0 y1 y2 y3 y4 y5 y6 y7 y8 y9 y10 y11 y12 y13 y14 y15 y16 y17 y18 y19))
 | 0 => ⟨fun _ _ _ _ _ _ _ _ _ _ _ _ _ _ _ _ r h => by simp [prop_Pairs_at_ext_Filter_1.l0] at h, fun _ _ _ _ _ _ _ _ _ _ _ _ _ _ _ _ _ _ _ _ r h => by simp [prop_Pairs_at_ext_Filter_1.l1] at h⟩
 | k + 1 => by
  obtain ⟨ih0, ih1⟩ := prop_Pairs_at_ext_Filter_1.mono_l k
  refine ⟨?_, ?_⟩
  ·
   intro y0 y1 y2 y3 y4 y5 y6 y7 y8 y9 y10 y11 y12 y13 y14 y15
   unfold prop_Pairs_at_ext_Filter_1.l0
   have m0 := @dom_Dom_List.mono
   have m1 := @prop_Made.mono
   exact leo_
  ·
   intro y0 y1 y2 y3 y4 y5 y6 y7 y8 y9 y10 y11 y12 y13 y14 y15 y16 y17 y18 y19
   unfold prop_Pairs_at_ext_Filter_1.l1
   have m0 := @dom_Dom_List.mono
   have m1 := @prop_Made.mono
   exact leo_
theorem prop_Pairs_at_ext_Filter_1.mono : ∀ a0 a1 a2 a3 a4 a5 a6 a7 a8 a9 a10 a11 a12 a13 a14 k, LeO (prop_Pairs_at_ext_Filter_1.f k a0 a1 a2 a3 a4 a5 a6 a7 a8 a9 a10 a11 a12 a13 a14) (prop_Pairs_at_ext_Filter_1.f (k + 1) a0 a1 a2 a3 a4 a5 a6 a7 a8 a9 a10 a11 a12 a13 a14) := by
 intro a0 a1 a2 a3 a4 a5 a6 a7 a8 a9 a10 a11 a12 a13 a14 k
 obtain ⟨ih0, ih1⟩ := prop_Pairs_at_ext_Filter_1.mono_l k
 unfold prop_Pairs_at_ext_Filter_1.f
 have m0 := @dom_Dom_List.mono
 have m1 := @prop_Made.mono
 exact leo_
set_option maxHeartbeats 8000000 in
set_option maxRecDepth 100000 in
theorem prop_Pairs_at_ext_Filter_1.calls (k : Nat) (a0_0 : Int) (A0_1 : Option Addr) (c0_1 : Nat) (l0_1 : List Int) (a0_2 : Int) (a0_3 : Int) (a0_4 : Int) (a1_0 : Int) (A1_1 : Option Addr) (c1_1 : Nat) (l1_1 : List Int) (a1_2 : Int) (a1_3 : Int) (a1_4 : Int) (a2_0 : Int) (A2_1 : Option Addr) (c2_1 : Nat) (l2_1 : List Int) (a2_2 : Int) (a2_3 : Int) (a2_4 : Int)  (r1 : List (S61)) (r2 : Bool) (w : World) (hr0_1 : Kd.C (Kd.int .u64) w A0_1 l0_1.length l0_1) (hc0_1 : l0_1.length ≤ c0_1) (hr1_1 : Kd.C (Kd.int .u64) w A1_1 l1_1.length l1_1) (hc1_1 : l1_1.length ≤ c1_1) (hr2_1 : Kd.C (Kd.int .u64) w A2_1 l2_1.length l2_1) (hc2_1 : l2_1.length ≤ c2_1) (hrtab : Kd.C (Kd.int .u8) w (some ⟨0, 0, none⟩) tabL.length tabL) (h : prop_Pairs_at_ext_Filter_1.f k a0_0 l0_1 a0_2 a0_3 a0_4 a1_0 l1_1 a1_2 a1_3 a1_4 a2_0 l2_1 a2_2 a2_3 a2_4 = some (r1, r2)) :
  Calls Tryz.prog 32 #[.agg #[.int .i64 a0_0, .slice A0_1 l0_1.length c0_1, .int .i64 a0_2, .int .i64 a0_3, .int .i64 a0_4], .agg #[.int .i64 a1_0, .slice A1_1 l1_1.length c1_1, .int .i64 a1_2, .int .i64 a1_3, .int .i64 a1_4], .agg #[.int .i64 a2_0, .slice A2_1 l2_1.length c2_1, .int .i64 a2_2, .int .i64 a2_3, .int .i64 a2_4], .func (.func 33) #[] #[]] w fun e w' => ∃ v0_ : Value, e = .returned (.tuple #[v0_, .bool r2]) ∧ Kd.N k61 61 w' w.heap.size (fun k_ => (w.heap.size ≤ k_)) v0_ r1 ∧ Below w.heap.size w w' := by
 have hu61 := Tryz.underlying61
 have HR0_1 := Aside0.mk hr0_1
 have HC0_1 := Aside0.mk hc0_1
 clear hr0_1 hc0_1
 have HR1_1 := Aside0.mk hr1_1
 have HC1_1 := Aside0.mk hc1_1
 clear hr1_1 hc1_1
 have HR2_1 := Aside0.mk hr2_1
 have HC2_1 := Aside0.mk hc2_1
 clear hr2_1 hc2_1
 have HRtab := Aside0.mk hrtab
 clear hrtab
 have HB := Aside0.mk (Below.refl w.heap.size w)
 have H : ((dom_Dom_List.f k a0_0 l0_1 a0_2 a0_3 a0_4).bind fun t267 => (prop_Pairs_at_ext_Filter_1.l0 k ([] : List Int) ([] : List Int) ([] : List Int) t267 (t267.length : Int) 0 a1_0 l1_1 a1_2 a1_3 a1_4 a2_0 l2_1 a2_2 a2_3 a2_4)) = some (r1, r2) := h
 clear h
 replace H := Option.bind_eq_some_iff.mp H
 obtain ⟨t267, A50, H⟩ := H
 replace H : (prop_Pairs_at_ext_Filter_1.l0 k ([] : List Int) ([] : List Int) ([] : List Int) t267 (t267.length : Int) 0 a1_0 l1_1 a1_2 a1_3 a1_4 a2_0 l2_1 a2_2 a2_3 a2_4) = some (r1, r2) := H
 have A5 := Aside0.mk A50
 clear A50
 have H' := Aside0.mk H
 clear H
 go_enter Tryz.func32, Tryz.ntmps32
 go_wp2_with (first | ((with_reducible refine gate_dst (N := 4) rfl ?_); refine bxe_ (N := 4) (cs := #[.int .i64 a0_0, .slice A0_1 l0_1.length c0_1, .int .i64 a0_2, .int .i64 a0_3, .int .i64 a0_4]) (t := 61) ?_; intro gb264 hg w6 hbox hb; have BK264 := Aside0.mk (hbox); have GW264 := Aside0.mk (by rw [hg]; exact (below_size bel_) : w.heap.size ≤ gb264); have GE264 := GW264; replace HB := Aside0.mk (below_step bel_ hb); clear hb hbox hg) | ((with_reducible refine gate_dst (N := 5) rfl ?_); refine bxe_ (N := 5) (cs := #[.int .i64 a1_0, .slice A1_1 l1_1.length c1_1, .int .i64 a1_2, .int .i64 a1_3, .int .i64 a1_4]) (t := 61) ?_; intro gb265 hg w7 hbox hb; have BK265 := Aside0.mk (hbox); have GW265 := Aside0.mk (by rw [hg]; exact (below_size bel_) : w.heap.size ≤ gb265); have GE265 := GW265; replace HB := Aside0.mk (below_step bel_ hb); have NB264_265 := Aside0.mk ((by rw [hg]; exact Nat.ne_of_lt (blk_lt (bk_ BK264.out)) : gb264 ≠ gb265)); have NB265_264 := Aside0.mk ((by rw [hg]; exact Nat.ne_of_gt (blk_lt (bk_ BK264.out)) : gb265 ≠ gb264)); replace BK264 := Aside0.mk (blk_below (bk_ BK264.out) hb); clear hb hbox hg) | ((with_reducible refine gate_dst (N := 6) rfl ?_); refine bxe_ (N := 6) (cs := #[.int .i64 a2_0, .slice A2_1 l2_1.length c2_1, .int .i64 a2_2, .int .i64 a2_3, .int .i64 a2_4]) (t := 61) ?_; intro gb266 hg w8 hbox hb; have BK266 := Aside0.mk (hbox); have GW266 := Aside0.mk (by rw [hg]; exact (below_size bel_) : w.heap.size ≤ gb266); have GE266 := GW266; replace HB := Aside0.mk (below_step bel_ hb); have NB264_266 := Aside0.mk ((by rw [hg]; exact Nat.ne_of_lt (blk_lt (bk_ BK264.out)) : gb264 ≠ gb266)); have NB266_264 := Aside0.mk ((by rw [hg]; exact Nat.ne_of_gt (blk_lt (bk_ BK264.out)) : gb266 ≠ gb264)); replace BK264 := Aside0.mk (blk_below (bk_ BK264.out) hb); have NB265_266 := Aside0.mk ((by rw [hg]; exact Nat.ne_of_lt (blk_lt (bk_ BK265.out)) : gb265 ≠ gb266)); have NB266_265 := Aside0.mk ((by rw [hg]; exact Nat.ne_of_gt (blk_lt (bk_ BK265.out)) : gb266 ≠ gb265)); replace BK265 := Aside0.mk (blk_below (bk_ BK265.out) hb); clear hb hbox hg; have hnb9 := NB264_265.out; have hnc9 := NB265_264.out; have hnb10 := NB264_266.out; have hnc10 := NB266_264.out; obtain ⟨hcz11_0, hcz11_1, hcz11_2, hcz11_3, hcz11_4, hfz11_0, hfz11_1, hfz11_2, hfz11_3, hfz11_4⟩ := cel5_ BK264.out) | ((with_reducible refine gate_callee (f := 23) rfl ?_); refine goesL_ (some 20) rfl rfl Tryz.func23 (by kernel_rfl) rfl #[.agg #[.int .i64 a0_0, .slice A0_1 l0_1.length c0_1, .int .i64 a0_2, .int .i64 a0_3, .int .i64 a0_4]] rfl ar_ ?_; (with_reducible refine (dom_Dom_List.calls k a0_0 _ _ l0_1 a0_2 a0_3 a0_4 t267 _ ?_ ?_ ?_ A5.out).mono ?_); exact ca_ ((Kd.C_below HR0_1.out HB.out)); exact HC0_1.out; exact ca_ ((Kd.C_below HRtab.out HB.out)); rintro e w12 ⟨v268, rfl, ho0, hb⟩; refine ⟨_, rfl, ?_⟩; have HO269 := Aside0.mk (Kd.R_lower (Kd.R_newM (M := fun k_ => (w.heap.size ≤ k_)) ho0 (below_size bel_) (fun k_ h_ => h_)) (below_size bel_)); replace BK264 := Aside0.mk (blk_below (bk_ BK264.out) hb); replace BK265 := Aside0.mk (blk_below (bk_ BK265.out) hb); replace BK266 := Aside0.mk (blk_below (bk_ BK266.out) hb); replace HB := Aside0.mk (below_step bel_ hb); clear hb ho0; obtain ⟨Ao13, co13, eo13⟩ := Kd.R_slice HO269.out; subst eo13))
 go_loopg [10, 11, 12, 22] k (fun kq v10 v11 v12 v22 w' => ∃ (x10_1 : List Int) (x11_1 : List Int) (x12_1 : List Int) (x22_1 : Int), v22 = .int .i64 x22_1 ∧ Aside0 (prop_Pairs_at_ext_Filter_1.l0 kq x10_1 x11_1 x12_1 t267 (t267.length : Int) x22_1 a1_0 l1_1 a1_2 a1_3 a1_4 a2_0 l2_1 a2_2 a2_3 a2_4 = some (r1, r2)) ∧ Aside0 (kq ≤ k) ∧ Aside0 (Kd.R (Kd.int .i64) 3 w' w.heap.size (fun k_ => (w.heap.size ≤ k_) ∧ some k_ ≠ (v11 : Value).ownBlock ∧ some k_ ≠ (v12 : Value).ownBlock ∧ some k_ ≠ ((.slice Ao13 t267.length co13) : Value).ownBlock) v10 x10_1) ∧ Aside0 (Kd.R (Kd.int .i64) 3 w' w.heap.size (fun k_ => (w.heap.size ≤ k_) ∧ some k_ ≠ (v10 : Value).ownBlock ∧ some k_ ≠ (v12 : Value).ownBlock ∧ some k_ ≠ ((.slice Ao13 t267.length co13) : Value).ownBlock) v11 x11_1) ∧ Aside0 (Kd.R (Kd.int .i64) 3 w' w.heap.size (fun k_ => (w.heap.size ≤ k_) ∧ some k_ ≠ (v10 : Value).ownBlock ∧ some k_ ≠ (v11 : Value).ownBlock ∧ some k_ ≠ ((.slice Ao13 t267.length co13) : Value).ownBlock) v12 x12_1) ∧ Aside0 (Kd.R (Kd.int .i64) 3 w' w.heap.size (fun k_ => (w.heap.size ≤ k_) ∧ some k_ ≠ (v10 : Value).ownBlock ∧ some k_ ≠ (v11 : Value).ownBlock ∧ some k_ ≠ (v12 : Value).ownBlock) (.slice Ao13 t267.length co13) t267) ∧ Aside0 (w'.heap[gb264]? = some (.cells #[.int .i64 a0_0, (.slice A0_1 l0_1.length c0_1), .int .i64 a0_2, .int .i64 a0_3, .int .i64 a0_4] 61 (0, 0))) ∧ Aside0 (w'.heap[gb265]? = some (.cells #[.int .i64 a1_0, (.slice A1_1 l1_1.length c1_1), .int .i64 a1_2, .int .i64 a1_3, .int .i64 a1_4] 61 (0, 0))) ∧ Aside0 (w'.heap[gb266]? = some (.cells #[.int .i64 a2_0, (.slice A2_1 l2_1.length c2_1), .int .i64 a2_2, .int .i64 a2_3, .int .i64 a2_4] 61 (0, 0))) ∧ Aside0 (Below w.heap.size w w'))
 case atStart => exact ⟨(([] : List Int)), (([] : List Int)), (([] : List Int)), (0), eq_, H', ⟨Nat.le_refl _⟩, ⟨nil_⟩, ⟨nil_⟩, ⟨nil_⟩, ⟨by refine vR_ ?_; exact Kd.R_mono HO269.out (fun _ hk => ⟨hk.1, ⟨(by simp [Value.ownBlock]), ⟨(by simp [Value.ownBlock]), (by simp [Value.ownBlock])⟩⟩⟩)⟩, ⟨by refine bk_ ?_; exact BK264.out⟩, ⟨by refine bk_ ?_; exact BK265.out⟩, ⟨by refine bk_ ?_; exact BK266.out⟩, ⟨bel_⟩⟩
 case round =>
  clear H'
  try clear c1
  try clear c2
  try clear p2
  try clear c9
  try clear c10
  try clear hcz11_0
  try clear hcz11_1
  try clear hcz11_2
  try clear hcz11_3
  try clear hcz11_4
  try clear hfz11_0
  try clear hfz11_1
  try clear hfz11_2
  try clear hfz11_3
  try clear hfz11_4
  obtain ⟨x10_1, x11_1, x12_1, x22_1, rfl, HA, HK1, HO_10, HO_11, HO_12, HO_20, BK264, BK265, BK266, HB⟩ := hrel
  cases gk with
  | zero => exact absurd HA.out (by simp [prop_Pairs_at_ext_Filter_1.l0])
  | succ k1 =>
   have H := HA.out
   clear HA
   simp only [prop_Pairs_at_ext_Filter_1.l0] at H
   by_cases c14 : x22_1 < (t267.length : Int)
   ·
    rw [if_pos c14] at H
    have c14b0 : decide (x22_1 < (t267.length : Int)) = true := decide_eq_true c14
    clear c14
    by_cases c15 : 0 ≤ x22_1
    ·
     rw [if_pos c15] at H
     have c15b0 : decide (0 ≤ x22_1) = true := decide_eq_true c15
     clear c15
     by_cases c16 : x22_1 < (t267.length : Int)
     ·
      rw [if_pos c16] at H
      have c16b0 : decide (x22_1 < (t267.length : Int)) = true := decide_eq_true c16
      clear c16
      replace H := Option.bind_eq_some_iff.mp H
      obtain ⟨t278, A170, H⟩ := H
      replace H : (prop_Pairs_at_ext_Filter_1.l1 k1 x10_1 x11_1 x12_1 (rd t267 x22_1) t267 (t267.length : Int) x22_1 t278 (t278.length : Int) 0 a1_0 l1_1 a1_2 a1_3 a1_4 a2_0 l2_1 a2_2 a2_3 a2_4) = some (r1, r2) := H
      have A17 := Aside0.mk A170
      clear A170
      have H' := Aside0.mk H
      clear H
      have p277 : 0 ≤ (x22_1 : Int) := dq_
      have q277 : x22_1 < (t267.length : Int) := dq_
      obtain ⟨ad277, e277, hx277_0⟩ := Kd.at_int (Kd.R_reads' HO_20.out).2.2 x22_1 p277 q277
      cases e277
      replace p277 := eq_true p277
      replace q277 := eq_true q277
      have hnb18 := NB265_264.out
      have hnc18 := NB264_265.out
      have hnb19 := NB265_266.out
      have hnc19 := NB266_265.out
      obtain ⟨hcz20_0, hcz20_1, hcz20_2, hcz20_3, hcz20_4, hfz20_0, hfz20_1, hfz20_2, hfz20_3, hfz20_4⟩ := cel5_ BK265.out
      go_wp2_with (first | ((with_reducible refine gate_callee (f := 23) rfl ?_); refine goesL_ (some 27) rfl rfl Tryz.func23 (by kernel_rfl) rfl #[.agg #[.int .i64 a1_0, .slice A1_1 l1_1.length c1_1, .int .i64 a1_2, .int .i64 a1_3, .int .i64 a1_4]] rfl ar_ ?_; (with_reducible refine (dom_Dom_List.calls k1 a1_0 _ _ l1_1 a1_2 a1_3 a1_4 t278 _ ?_ ?_ ?_ A17.out).mono ?_); exact ca_ ((Kd.C_below HR1_1.out HB.out)); exact HC1_1.out; exact ca_ ((Kd.C_below HRtab.out HB.out)); rintro e w21 ⟨v279, rfl, ho0, hb⟩; refine ⟨_, rfl, ?_⟩; have HO280 := Aside0.mk (Kd.R_lower (Kd.R_new' (Kd.R_new' (Kd.R_new' (Kd.R_new' (Kd.R_newM (M := fun k_ => (w.heap.size ≤ k_)) ho0 (below_size bel_) (fun k_ h_ => h_)) (Kd.R_lt (vR_ HO_10.out))) (Kd.R_lt (vR_ HO_11.out))) (Kd.R_lt (vR_ HO_12.out))) (Kd.R_lt (vR_ HO_20.out))) (below_size bel_)); replace HO_10 := Aside0.mk (Kd.R_elder' (vR_ HO_10.out) (Kd.R_base ho0) hb); replace HO_11 := Aside0.mk (Kd.R_elder' (vR_ HO_11.out) (Kd.R_base ho0) hb); replace HO_12 := Aside0.mk (Kd.R_elder' (vR_ HO_12.out) (Kd.R_base ho0) hb); replace HO_20 := Aside0.mk (Kd.R_elder' (vR_ HO_20.out) (Kd.R_base ho0) hb); replace BK264 := Aside0.mk (blk_below (bk_ BK264.out) hb); replace BK265 := Aside0.mk (blk_below (bk_ BK265.out) hb); replace BK266 := Aside0.mk (blk_below (bk_ BK266.out) hb); replace HB := Aside0.mk (below_step bel_ hb); clear hb ho0; obtain ⟨Ao22, co22, eo22⟩ := Kd.R_slice HO280.out; subst eo22))
      go_loopg [10, 11, 12, 29] k1 (fun kq v10 v11 v12 v29 w' => ∃ (x10_2 : List Int) (x11_2 : List Int) (x12_2 : List Int) (x29_2 : Int), v29 = .int .i64 x29_2 ∧ Aside0 (prop_Pairs_at_ext_Filter_1.l1 kq x10_2 x11_2 x12_2 (rd t267 x22_1) t267 (t267.length : Int) x22_1 t278 (t278.length : Int) x29_2 a1_0 l1_1 a1_2 a1_3 a1_4 a2_0 l2_1 a2_2 a2_3 a2_4 = some (r1, r2)) ∧ Aside0 (kq ≤ k1) ∧ Aside0 (Kd.R (Kd.int .i64) 3 w' w.heap.size (fun k_ => (w.heap.size ≤ k_) ∧ some k_ ≠ (v11 : Value).ownBlock ∧ some k_ ≠ (v12 : Value).ownBlock ∧ some k_ ≠ ((.slice (some ad277) t267.length co13) : Value).ownBlock ∧ some k_ ≠ ((.slice Ao22 t278.length co22) : Value).ownBlock) v10 x10_2) ∧ Aside0 (Kd.R (Kd.int .i64) 3 w' w.heap.size (fun k_ => (w.heap.size ≤ k_) ∧ some k_ ≠ (v10 : Value).ownBlock ∧ some k_ ≠ (v12 : Value).ownBlock ∧ some k_ ≠ ((.slice (some ad277) t267.length co13) : Value).ownBlock ∧ some k_ ≠ ((.slice Ao22 t278.length co22) : Value).ownBlock) v11 x11_2) ∧ Aside0 (Kd.R (Kd.int .i64) 3 w' w.heap.size (fun k_ => (w.heap.size ≤ k_) ∧ some k_ ≠ (v10 : Value).ownBlock ∧ some k_ ≠ (v11 : Value).ownBlock ∧ some k_ ≠ ((.slice (some ad277) t267.length co13) : Value).ownBlock ∧ some k_ ≠ ((.slice Ao22 t278.length co22) : Value).ownBlock) v12 x12_2) ∧ Aside0 (Kd.R (Kd.int .i64) 3 w' w.heap.size (fun k_ => (w.heap.size ≤ k_) ∧ some k_ ≠ (v10 : Value).ownBlock ∧ some k_ ≠ (v11 : Value).ownBlock ∧ some k_ ≠ (v12 : Value).ownBlock ∧ some k_ ≠ ((.slice Ao22 t278.length co22) : Value).ownBlock) (.slice (some ad277) t267.length co13) t267) ∧ Aside0 (Kd.R (Kd.int .i64) 3 w' w.heap.size (fun k_ => (w.heap.size ≤ k_) ∧ some k_ ≠ (v10 : Value).ownBlock ∧ some k_ ≠ (v11 : Value).ownBlock ∧ some k_ ≠ (v12 : Value).ownBlock ∧ some k_ ≠ ((.slice (some ad277) t267.length co13) : Value).ownBlock) (.slice Ao22 t278.length co22) t278) ∧ Aside0 (w'.heap[gb264]? = some (.cells #[.int .i64 a0_0, (.slice A0_1 l0_1.length c0_1), .int .i64 a0_2, .int .i64 a0_3, .int .i64 a0_4] 61 (0, 0))) ∧ Aside0 (w'.heap[gb265]? = some (.cells #[.int .i64 a1_0, (.slice A1_1 l1_1.length c1_1), .int .i64 a1_2, .int .i64 a1_3, .int .i64 a1_4] 61 (0, 0))) ∧ Aside0 (w'.heap[gb266]? = some (.cells #[.int .i64 a2_0, (.slice A2_1 l2_1.length c2_1), .int .i64 a2_2, .int .i64 a2_3, .int .i64 a2_4] 61 (0, 0))) ∧ Aside0 (Below w.heap.size w w'))
      case atStart => exact ⟨(x10_1), (x11_1), (x12_1), (0), eq_, H', ⟨Nat.le_refl _⟩, ⟨by refine vR_ ?_; exact Kd.R_mono HO_10.out (fun _ hk => ⟨hk.1.1, ⟨hk.1.2.1, ⟨hk.1.2.2.1, ⟨hk.1.2.2.2, hk.2⟩⟩⟩⟩)⟩, ⟨by refine vR_ ?_; exact Kd.R_mono HO_11.out (fun _ hk => ⟨hk.1.1, ⟨hk.1.2.1, ⟨hk.1.2.2.1, ⟨hk.1.2.2.2, hk.2⟩⟩⟩⟩)⟩, ⟨by refine vR_ ?_; exact Kd.R_mono HO_12.out (fun _ hk => ⟨hk.1.1, ⟨hk.1.2.1, ⟨hk.1.2.2.1, ⟨hk.1.2.2.2, hk.2⟩⟩⟩⟩)⟩, ⟨by refine vR_ ?_; exact Kd.R_mono HO_20.out (fun _ hk => ⟨hk.1.1, ⟨hk.1.2.1, ⟨hk.1.2.2.1, ⟨hk.1.2.2.2, hk.2⟩⟩⟩⟩)⟩, ⟨by refine vR_ ?_; exact Kd.R_mono HO280.out (fun _ hk => ⟨hk.1.1.1.1.1, ⟨hk.1.1.1.2, ⟨hk.1.1.2, ⟨hk.1.2, hk.2⟩⟩⟩⟩)⟩, ⟨by refine bk_ ?_; exact BK264.out⟩, ⟨by refine bk_ ?_; exact BK265.out⟩, ⟨by refine bk_ ?_; exact BK266.out⟩, ⟨bel_⟩⟩
      case round =>
       clear H'
       try clear c1
       try clear c2
       try clear p2
       try clear q2
       try clear hx2
       try clear c9
       try clear c10
       try clear c14
       try clear c14b0
       try clear c15
       try clear c15b0
       try clear c16
       try clear c16b0
       try clear c18
       try clear c19
       try clear hcz11_0
       try clear hcz11_1
       try clear hcz11_2
       try clear hcz11_3
       try clear hcz11_4
       try clear hcz20_0
       try clear hcz20_1
       try clear hcz20_2
       try clear hcz20_3
       try clear hcz20_4
       try clear hfz11_0
       try clear hfz11_1
       try clear hfz11_2
       try clear hfz11_3
       try clear hfz11_4
       try clear hfz20_0
       try clear hfz20_1
       try clear hfz20_2
       try clear hfz20_3
       try clear hfz20_4
       try clear hx277_0
       try clear p2
       try clear p277
       try clear q277
       obtain ⟨x10_2, x11_2, x12_2, x29_2, rfl, HA, HK2, HO_10, HO_11, HO_12, HO_20, HO_27, BK264, BK265, BK266, HB⟩ := hrel
       cases gk with
       | zero => exact absurd HA.out (by simp [prop_Pairs_at_ext_Filter_1.l1])
       | succ k2 =>
        have H := HA.out
        clear HA
        simp only [prop_Pairs_at_ext_Filter_1.l1] at H
        by_cases c23 : x29_2 < (t278.length : Int)
        ·
         rw [if_pos c23] at H
         have c23b0 : decide (x29_2 < (t278.length : Int)) = true := decide_eq_true c23
         clear c23
         by_cases c24 : 0 ≤ x29_2
         ·
          rw [if_pos c24] at H
          have c24b0 : decide (0 ≤ x29_2) = true := decide_eq_true c24
          clear c24
          by_cases c25 : x29_2 < (t278.length : Int)
          ·
           rw [if_pos c25] at H
           have c25b0 : decide (x29_2 < (t278.length : Int)) = true := decide_eq_true c25
           clear c25
           replace H := Option.bind_eq_some_iff.mp H
           obtain ⟨⟨t282, t283⟩, A260, H⟩ := H
           replace H : (if t283 = true then ((dom_Dom_Has.f a2_0 l2_1 a2_2 a2_3 a2_4 t282).bind fun t284 => (if t284 = true then (if x10_2.length < 17592186044416 then (if x11_2.length < 17592186044416 then (if x12_2.length < 17592186044416 then (prop_Pairs_at_ext_Filter_1.l1 k2 (x10_2 ++ [(rd t267 x22_1)]) (x11_2 ++ [rd t278 x29_2]) (x12_2 ++ [t282]) (rd t267 x22_1) t267 (t267.length : Int) x22_1 t278 (t278.length : Int) (wrap64 (x29_2 + 1)) a1_0 l1_1 a1_2 a1_3 a1_4 a2_0 l2_1 a2_2 a2_3 a2_4) else (none)) else (none)) else (none)) else (prop_Pairs_at_ext_Filter_1.l1 k2 x10_2 x11_2 x12_2 (rd t267 x22_1) t267 (t267.length : Int) x22_1 t278 (t278.length : Int) (wrap64 (x29_2 + 1)) a1_0 l1_1 a1_2 a1_3 a1_4 a2_0 l2_1 a2_2 a2_3 a2_4))) else (prop_Pairs_at_ext_Filter_1.l1 k2 x10_2 x11_2 x12_2 (rd t267 x22_1) t267 (t267.length : Int) x22_1 t278 (t278.length : Int) (wrap64 (x29_2 + 1)) a1_0 l1_1 a1_2 a1_3 a1_4 a2_0 l2_1 a2_2 a2_3 a2_4)) = some (r1, r2) := H
           have A26 := Aside0.mk A260
           clear A260
           by_cases c27 : t283 = true
           ·
            subst c27
            have H1 : ((dom_Dom_Has.f a2_0 l2_1 a2_2 a2_3 a2_4 t282).bind fun t284 => (if t284 = true then (if x10_2.length < 17592186044416 then (if x11_2.length < 17592186044416 then (if x12_2.length < 17592186044416 then (prop_Pairs_at_ext_Filter_1.l1 k2 (x10_2 ++ [(rd t267 x22_1)]) (x11_2 ++ [rd t278 x29_2]) (x12_2 ++ [t282]) (rd t267 x22_1) t267 (t267.length : Int) x22_1 t278 (t278.length : Int) (wrap64 (x29_2 + 1)) a1_0 l1_1 a1_2 a1_3 a1_4 a2_0 l2_1 a2_2 a2_3 a2_4) else (none)) else (none)) else (none)) else (prop_Pairs_at_ext_Filter_1.l1 k2 x10_2 x11_2 x12_2 (rd t267 x22_1) t267 (t267.length : Int) x22_1 t278 (t278.length : Int) (wrap64 (x29_2 + 1)) a1_0 l1_1 a1_2 a1_3 a1_4 a2_0 l2_1 a2_2 a2_3 a2_4))) = some (r1, r2) := by rw [if_pos rfl] at H; exact H
            clear H
            have H := H1
            clear H1
            replace H := Option.bind_eq_some_iff.mp H
            obtain ⟨t284, A280, H⟩ := H
            replace H : (if t284 = true then (if x10_2.length < 17592186044416 then (if x11_2.length < 17592186044416 then (if x12_2.length < 17592186044416 then (prop_Pairs_at_ext_Filter_1.l1 k2 (x10_2 ++ [(rd t267 x22_1)]) (x11_2 ++ [rd t278 x29_2]) (x12_2 ++ [t282]) (rd t267 x22_1) t267 (t267.length : Int) x22_1 t278 (t278.length : Int) (wrap64 (x29_2 + 1)) a1_0 l1_1 a1_2 a1_3 a1_4 a2_0 l2_1 a2_2 a2_3 a2_4) else (none)) else (none)) else (none)) else (prop_Pairs_at_ext_Filter_1.l1 k2 x10_2 x11_2 x12_2 (rd t267 x22_1) t267 (t267.length : Int) x22_1 t278 (t278.length : Int) (wrap64 (x29_2 + 1)) a1_0 l1_1 a1_2 a1_3 a1_4 a2_0 l2_1 a2_2 a2_3 a2_4)) = some (r1, r2) := H
            have A28 := Aside0.mk A280
            clear A280
            by_cases c29 : t284 = true
            ·
             subst c29
             have H1 : (if x10_2.length < 17592186044416 then (if x11_2.length < 17592186044416 then (if x12_2.length < 17592186044416 then (prop_Pairs_at_ext_Filter_1.l1 k2 (x10_2 ++ [(rd t267 x22_1)]) (x11_2 ++ [rd t278 x29_2]) (x12_2 ++ [t282]) (rd t267 x22_1) t267 (t267.length : Int) x22_1 t278 (t278.length : Int) (wrap64 (x29_2 + 1)) a1_0 l1_1 a1_2 a1_3 a1_4 a2_0 l2_1 a2_2 a2_3 a2_4) else (none)) else (none)) else (none)) = some (r1, r2) := by rw [if_pos rfl] at H; exact H
             clear H
             have H := H1
             clear H1
             by_cases c30 : x10_2.length < 17592186044416
             ·
              rw [if_pos c30] at H
              have LMc30 := Aside0.mk c30
              clear c30
              obtain ⟨y285, hy285⟩ : ∃ y_ : List Int, y_ = (x10_2 ++ [(rd t267 x22_1)]) := ⟨_, rfl⟩
              replace H : (if x11_2.length < 17592186044416 then (if x12_2.length < 17592186044416 then (prop_Pairs_at_ext_Filter_1.l1 k2 y285 (x11_2 ++ [rd t278 x29_2]) (x12_2 ++ [t282]) (rd t267 x22_1) t267 (t267.length : Int) x22_1 t278 (t278.length : Int) (wrap64 (x29_2 + 1)) a1_0 l1_1 a1_2 a1_3 a1_4 a2_0 l2_1 a2_2 a2_3 a2_4) else (none)) else (none)) = some (r1, r2) := by first | (rw [hy285]; with_reducible exact H) | (have H2_ := (Option.bind_some _ _).symm.trans H; rw [hy285]; with_reducible exact H2_) | (have H2_ := (Option.bind_some _ _).symm.trans H; with_reducible exact H2_) | with_reducible exact H | (rw [hy285]; exact H) | exact H
              have Ny285 := Aside0.mk hy285
              clear hy285
              by_cases c31 : x11_2.length < 17592186044416
              ·
               rw [if_pos c31] at H
               have LMc31 := Aside0.mk c31
               clear c31
               obtain ⟨y288, hy288⟩ : ∃ y_ : List Int, y_ = (x11_2 ++ [rd t278 x29_2]) := ⟨_, rfl⟩
               replace H : (if x12_2.length < 17592186044416 then (prop_Pairs_at_ext_Filter_1.l1 k2 y285 y288 (x12_2 ++ [t282]) (rd t267 x22_1) t267 (t267.length : Int) x22_1 t278 (t278.length : Int) (wrap64 (x29_2 + 1)) a1_0 l1_1 a1_2 a1_3 a1_4 a2_0 l2_1 a2_2 a2_3 a2_4) else (none)) = some (r1, r2) := by first | (rw [hy288]; with_reducible exact H) | (have H2_ := (Option.bind_some _ _).symm.trans H; rw [hy288]; with_reducible exact H2_) | (have H2_ := (Option.bind_some _ _).symm.trans H; with_reducible exact H2_) | with_reducible exact H | (rw [hy288]; exact H) | exact H
               have Ny288 := Aside0.mk hy288
               clear hy288
               by_cases c32 : x12_2.length < 17592186044416
               ·
                rw [if_pos c32] at H
                have LMc32 := Aside0.mk c32
                clear c32
                obtain ⟨y291, hy291⟩ : ∃ y_ : List Int, y_ = (x12_2 ++ [t282]) := ⟨_, rfl⟩
                replace H : (prop_Pairs_at_ext_Filter_1.l1 k2 y285 y288 y291 (rd t267 x22_1) t267 (t267.length : Int) x22_1 t278 (t278.length : Int) (wrap64 (x29_2 + 1)) a1_0 l1_1 a1_2 a1_3 a1_4 a2_0 l2_1 a2_2 a2_3 a2_4) = some (r1, r2) := by first | (rw [hy291]; with_reducible exact H) | (have H2_ := (Option.bind_some _ _).symm.trans H; rw [hy291]; with_reducible exact H2_) | (have H2_ := (Option.bind_some _ _).symm.trans H; with_reducible exact H2_) | with_reducible exact H | (rw [hy291]; exact H) | exact H
                have Ny291 := Aside0.mk hy291
                clear hy291
                have H' := Aside0.mk H
                clear H
                have p281 : 0 ≤ (x29_2 : Int) := dq_
                have q281 : x29_2 < (t278.length : Int) := dq_
                obtain ⟨ad281, e281, hx281_0⟩ := Kd.at_int (Kd.R_reads' HO_27.out).2.2 x29_2 p281 q281
                cases e281
                replace p281 := eq_true p281
                replace q281 := eq_true q281
                go_wp2_with (first | (go_at_call 33; (with_reducible refine (ext_Filter_1.calls (rd t267 x22_1) (rd t278 x29_2) t282 true _ A26.out).mono ?_); rintro e w33 ⟨rfl, hb⟩; replace HO_10 := Aside0.mk (Kd.R_below (vR_ HO_10.out) hb); replace HO_11 := Aside0.mk (Kd.R_below (vR_ HO_11.out) hb); replace HO_12 := Aside0.mk (Kd.R_below (vR_ HO_12.out) hb); replace HO_20 := Aside0.mk (Kd.R_below (vR_ HO_20.out) hb); replace HO_27 := Aside0.mk (Kd.R_below (vR_ HO_27.out) hb); replace BK264 := Aside0.mk (blk_below (bk_ BK264.out) hb); replace BK265 := Aside0.mk (blk_below (bk_ BK265.out) hb); replace BK266 := Aside0.mk (blk_below (bk_ BK266.out) hb); replace HB := Aside0.mk (below_step bel_ hb); clear hb; have hnb34 := NB266_264.out; have hnc34 := NB264_266.out; have hnb35 := NB266_265.out; have hnc35 := NB265_266.out; obtain ⟨_, _, _, _, _, _, _, _, _, _⟩ := cel5_ BK266.out) | (go_at_call 25; (with_reducible refine (dom_Dom_Has.calls a2_0 _ _ l2_1 a2_2 a2_3 a2_4 t282 true _ ?_ ?_ A28.out).mono ?_); exact ca_ ((Kd.C_below HR2_1.out HB.out)); exact HC2_1.out; rintro e w37 ⟨rfl, hb⟩; replace HO_10 := Aside0.mk (Kd.R_below (vR_ HO_10.out) hb); replace HO_11 := Aside0.mk (Kd.R_below (vR_ HO_11.out) hb); replace HO_12 := Aside0.mk (Kd.R_below (vR_ HO_12.out) hb); replace HO_20 := Aside0.mk (Kd.R_below (vR_ HO_20.out) hb); replace HO_27 := Aside0.mk (Kd.R_below (vR_ HO_27.out) hb); replace BK264 := Aside0.mk (blk_below (bk_ BK264.out) hb); replace BK265 := Aside0.mk (blk_below (bk_ BK265.out) hb); replace BK266 := Aside0.mk (blk_below (bk_ BK266.out) hb); replace HB := Aside0.mk (below_step bel_ hb); clear hb) | ((with_reducible refine gate_builtin (b := .append) (xs := #[.tmp 46, .tmp 48]) rfl ?_); at_builtin; refine Kd.R_append (Kd.int .i64) (w0 := w) w.heap.size rfl (.tmp 46) (.tmp 48) 30 3 (.int .i64 0) 8 rfl Tryz.underlying30 info3 rfl (by decide) (by omega) u10 x10_2 (rd t267 x22_1) [.int .i64 (rd t267 x22_1)] (fun k_ => (w.heap.size ≤ k_) ∧ some k_ ≠ (u11 : Value).ownBlock ∧ some k_ ≠ (u12 : Value).ownBlock ∧ some k_ ≠ (.slice (some ad277) t267.length co13 : Value).ownBlock ∧ some k_ ≠ (.slice (some ad281) t278.length co22 : Value).ownBlock) (fun _ => False) rfl rfl ?aP (fun _ hk => hk.elim) ?aF ?aO ?aB ?aS ?aL ?_; (case aP => exact rfl); (case aB => exact bel_); (case aF => exact (fun k_ hk => ⟨(Nat.le_trans (below_size bel_) hk), Kd.fresh' (Kd.R_lt (vR_ HO_11.out)) k_ hk, Kd.fresh' (Kd.R_lt (vR_ HO_12.out)) k_ hk, Kd.fresh' (Kd.R_lt (vR_ HO_20.out)) k_ hk, Kd.fresh' (Kd.R_lt (vR_ HO_27.out)) k_ hk⟩)); (case aO => exact (vR_ HO_10.out)); (case aS => exact (below_size bel_)); (case aL => have := LMc30.out; omega); intro v286 w38 ho hb hg hat; rw [← Ny285.out] at ho; replace HO_11 := Aside0.mk (Kd.R_after (ok := (fun k_ => (w.heap.size ≤ k_) ∧ some k_ ≠ (u12 : Value).ownBlock ∧ some k_ ≠ (.slice (some ad277) t267.length co13 : Value).ownBlock ∧ some k_ ≠ (.slice (some ad281) t278.length co22 : Value).ownBlock)) (by refine vR_ ?_; exact Kd.R_mono HO_11.out (fun _ hk => ⟨⟨hk.1, ⟨hk.2.2.1, ⟨hk.2.2.2.1, hk.2.2.2.2⟩⟩⟩, hk.2.1⟩)) hg hat); replace HO_12 := Aside0.mk (Kd.R_after (ok := (fun k_ => (w.heap.size ≤ k_) ∧ some k_ ≠ (u11 : Value).ownBlock ∧ some k_ ≠ (.slice (some ad277) t267.length co13 : Value).ownBlock ∧ some k_ ≠ (.slice (some ad281) t278.length co22 : Value).ownBlock)) (by refine vR_ ?_; exact Kd.R_mono HO_12.out (fun _ hk => ⟨⟨hk.1, ⟨hk.2.2.1, ⟨hk.2.2.2.1, hk.2.2.2.2⟩⟩⟩, hk.2.1⟩)) hg hat); replace HO_20 := Aside0.mk (Kd.R_after (ok := (fun k_ => (w.heap.size ≤ k_) ∧ some k_ ≠ (u11 : Value).ownBlock ∧ some k_ ≠ (u12 : Value).ownBlock ∧ some k_ ≠ (.slice (some ad281) t278.length co22 : Value).ownBlock)) (by refine vR_ ?_; exact Kd.R_mono HO_20.out (fun _ hk => ⟨⟨hk.1, ⟨hk.2.2.1, ⟨hk.2.2.2.1, hk.2.2.2.2⟩⟩⟩, hk.2.1⟩)) hg hat); replace HO_27 := Aside0.mk (Kd.R_after (ok := (fun k_ => (w.heap.size ≤ k_) ∧ some k_ ≠ (u11 : Value).ownBlock ∧ some k_ ≠ (u12 : Value).ownBlock ∧ some k_ ≠ (.slice (some ad277) t267.length co13 : Value).ownBlock)) (by refine vR_ ?_; exact Kd.R_mono HO_27.out (fun _ hk => ⟨⟨hk.1, ⟨hk.2.2.1, ⟨hk.2.2.2.1, hk.2.2.2.2⟩⟩⟩, hk.2.1⟩)) hg hat); replace BK264 := Aside0.mk (blk_grown (bk_ BK264.out) hg (Kd.R_ne HO_10.out BK264.out (by decide))); replace BK265 := Aside0.mk (blk_grown (bk_ BK265.out) hg (Kd.R_ne HO_10.out BK265.out (by decide))); replace BK266 := Aside0.mk (blk_grown (bk_ BK266.out) hg (Kd.R_ne HO_10.out BK266.out (by decide))); replace HB := Aside0.mk (hb); have HO287 := Aside0.mk (ho); clear HO_10; clear ho hb hg hat) | ((with_reducible refine gate_builtin (b := .append) (xs := #[.tmp 50, .tmp 52]) rfl ?_); at_builtin; refine Kd.R_append (Kd.int .i64) (w0 := w) w.heap.size rfl (.tmp 50) (.tmp 52) 30 3 (.int .i64 0) 8 rfl Tryz.underlying30 info3 rfl (by decide) (by omega) u11 x11_2 (rd t278 x29_2) [.int .i64 (rd t278 x29_2)] (fun k_ => (w.heap.size ≤ k_) ∧ some k_ ≠ (u12 : Value).ownBlock ∧ some k_ ≠ (.slice (some ad277) t267.length co13 : Value).ownBlock ∧ some k_ ≠ (.slice (some ad281) t278.length co22 : Value).ownBlock ∧ some k_ ≠ (v286 : Value).ownBlock) (fun _ => False) rfl rfl ?aP (fun _ hk => hk.elim) ?aF ?aO ?aB ?aS ?aL ?_; (case aP => exact rfl); (case aB => exact bel_); (case aF => exact (fun k_ hk => ⟨(Nat.le_trans (below_size bel_) hk), Kd.fresh' (Kd.R_lt (vR_ HO_12.out)) k_ hk, Kd.fresh' (Kd.R_lt (vR_ HO_20.out)) k_ hk, Kd.fresh' (Kd.R_lt (vR_ HO_27.out)) k_ hk, Kd.fresh' (Kd.R_lt (vR_ HO287.out)) k_ hk⟩)); (case aO => exact (by refine vR_ ?_; exact Kd.R_mono HO_11.out (fun _ hk => ⟨hk.1.1, ⟨hk.1.2.1, ⟨hk.1.2.2.1, ⟨hk.1.2.2.2, hk.2⟩⟩⟩⟩))); (case aS => exact (below_size bel_)); (case aL => have := LMc31.out; omega); intro v289 w39 ho hb hg hat; rw [← Ny288.out] at ho; replace HO_12 := Aside0.mk (Kd.R_after (ok := (fun k_ => (w.heap.size ≤ k_) ∧ some k_ ≠ (.slice (some ad277) t267.length co13 : Value).ownBlock ∧ some k_ ≠ (.slice (some ad281) t278.length co22 : Value).ownBlock ∧ some k_ ≠ (v286 : Value).ownBlock)) (by refine vR_ ?_; exact Kd.R_mono HO_12.out (fun _ hk => ⟨⟨hk.1.1, ⟨hk.1.2.2.1, ⟨hk.1.2.2.2, hk.2⟩⟩⟩, hk.1.2.1⟩)) hg hat); replace HO_20 := Aside0.mk (Kd.R_after (ok := (fun k_ => (w.heap.size ≤ k_) ∧ some k_ ≠ (u12 : Value).ownBlock ∧ some k_ ≠ (.slice (some ad281) t278.length co22 : Value).ownBlock ∧ some k_ ≠ (v286 : Value).ownBlock)) (by refine vR_ ?_; exact Kd.R_mono HO_20.out (fun _ hk => ⟨⟨hk.1.1, ⟨hk.1.2.2.1, ⟨hk.1.2.2.2, hk.2⟩⟩⟩, hk.1.2.1⟩)) hg hat); replace HO_27 := Aside0.mk (Kd.R_after (ok := (fun k_ => (w.heap.size ≤ k_) ∧ some k_ ≠ (u12 : Value).ownBlock ∧ some k_ ≠ (.slice (some ad277) t267.length co13 : Value).ownBlock ∧ some k_ ≠ (v286 : Value).ownBlock)) (by refine vR_ ?_; exact Kd.R_mono HO_27.out (fun _ hk => ⟨⟨hk.1.1, ⟨hk.1.2.2.1, ⟨hk.1.2.2.2, hk.2⟩⟩⟩, hk.1.2.1⟩)) hg hat); replace BK264 := Aside0.mk (blk_grown (bk_ BK264.out) hg (Kd.R_ne HO_11.out BK264.out (by decide))); replace BK265 := Aside0.mk (blk_grown (bk_ BK265.out) hg (Kd.R_ne HO_11.out BK265.out (by decide))); replace BK266 := Aside0.mk (blk_grown (bk_ BK266.out) hg (Kd.R_ne HO_11.out BK266.out (by decide))); replace HO287 := Aside0.mk (Kd.R_after (ok := (fun k_ => (w.heap.size ≤ k_) ∧ some k_ ≠ (u12 : Value).ownBlock ∧ some k_ ≠ (.slice (some ad277) t267.length co13 : Value).ownBlock ∧ some k_ ≠ (.slice (some ad281) t278.length co22 : Value).ownBlock)) (by refine vR_ ?_; exact Kd.R_mono HO287.out (fun _ hk => ⟨⟨hk.1, ⟨hk.2.2.1, ⟨hk.2.2.2.1, hk.2.2.2.2⟩⟩⟩, hk.2.1⟩)) hg hat); replace HB := Aside0.mk (hb); have HO290 := Aside0.mk (ho); clear HO_11; clear ho hb hg hat) | ((with_reducible refine gate_builtin (b := .append) (xs := #[.tmp 54, .tmp 56]) rfl ?_); at_builtin; refine Kd.R_append (Kd.int .i64) (w0 := w) w.heap.size rfl (.tmp 54) (.tmp 56) 30 3 (.int .i64 0) 8 rfl Tryz.underlying30 info3 rfl (by decide) (by omega) u12 x12_2 t282 [.int .i64 t282] (fun k_ => (w.heap.size ≤ k_) ∧ some k_ ≠ (.slice (some ad277) t267.length co13 : Value).ownBlock ∧ some k_ ≠ (.slice (some ad281) t278.length co22 : Value).ownBlock ∧ some k_ ≠ (v286 : Value).ownBlock ∧ some k_ ≠ (v289 : Value).ownBlock) (fun _ => False) rfl rfl ?aP (fun _ hk => hk.elim) ?aF ?aO ?aB ?aS ?aL ?_; (case aP => exact rfl); (case aB => exact bel_); (case aF => exact (fun k_ hk => ⟨(Nat.le_trans (below_size bel_) hk), Kd.fresh' (Kd.R_lt (vR_ HO_20.out)) k_ hk, Kd.fresh' (Kd.R_lt (vR_ HO_27.out)) k_ hk, Kd.fresh' (Kd.R_lt (vR_ HO287.out)) k_ hk, Kd.fresh' (Kd.R_lt (vR_ HO290.out)) k_ hk⟩)); (case aO => exact (by refine vR_ ?_; exact Kd.R_mono HO_12.out (fun _ hk => ⟨hk.1.1, ⟨hk.1.2.1, ⟨hk.1.2.2.1, ⟨hk.1.2.2.2, hk.2⟩⟩⟩⟩))); (case aS => exact (below_size bel_)); (case aL => have := LMc32.out; omega); intro v292 w40 ho hb hg hat; rw [← Ny291.out] at ho; replace HO_20 := Aside0.mk (Kd.R_after (ok := (fun k_ => (w.heap.size ≤ k_) ∧ some k_ ≠ (.slice (some ad281) t278.length co22 : Value).ownBlock ∧ some k_ ≠ (v286 : Value).ownBlock ∧ some k_ ≠ (v289 : Value).ownBlock)) (by refine vR_ ?_; exact Kd.R_mono HO_20.out (fun _ hk => ⟨⟨hk.1.1, ⟨hk.1.2.2.1, ⟨hk.1.2.2.2, hk.2⟩⟩⟩, hk.1.2.1⟩)) hg hat); replace HO_27 := Aside0.mk (Kd.R_after (ok := (fun k_ => (w.heap.size ≤ k_) ∧ some k_ ≠ (.slice (some ad277) t267.length co13 : Value).ownBlock ∧ some k_ ≠ (v286 : Value).ownBlock ∧ some k_ ≠ (v289 : Value).ownBlock)) (by refine vR_ ?_; exact Kd.R_mono HO_27.out (fun _ hk => ⟨⟨hk.1.1, ⟨hk.1.2.2.1, ⟨hk.1.2.2.2, hk.2⟩⟩⟩, hk.1.2.1⟩)) hg hat); replace BK264 := Aside0.mk (blk_grown (bk_ BK264.out) hg (Kd.R_ne HO_12.out BK264.out (by decide))); replace BK265 := Aside0.mk (blk_grown (bk_ BK265.out) hg (Kd.R_ne HO_12.out BK265.out (by decide))); replace BK266 := Aside0.mk (blk_grown (bk_ BK266.out) hg (Kd.R_ne HO_12.out BK266.out (by decide))); replace HO287 := Aside0.mk (Kd.R_after (ok := (fun k_ => (w.heap.size ≤ k_) ∧ some k_ ≠ (.slice (some ad277) t267.length co13 : Value).ownBlock ∧ some k_ ≠ (.slice (some ad281) t278.length co22 : Value).ownBlock ∧ some k_ ≠ (v289 : Value).ownBlock)) (by refine vR_ ?_; exact Kd.R_mono HO287.out (fun _ hk => ⟨⟨hk.1.1, ⟨hk.1.2.2.1, ⟨hk.1.2.2.2, hk.2⟩⟩⟩, hk.1.2.1⟩)) hg hat); replace HO290 := Aside0.mk (Kd.R_after (ok := (fun k_ => (w.heap.size ≤ k_) ∧ some k_ ≠ (.slice (some ad277) t267.length co13 : Value).ownBlock ∧ some k_ ≠ (.slice (some ad281) t278.length co22 : Value).ownBlock ∧ some k_ ≠ (v286 : Value).ownBlock)) (by refine vR_ ?_; exact Kd.R_mono HO290.out (fun _ hk => ⟨⟨hk.1, ⟨hk.2.2.1, ⟨hk.2.2.2.1, hk.2.2.2.2⟩⟩⟩, hk.2.1⟩)) hg hat); replace HB := Aside0.mk (hb); have HO293 := Aside0.mk (ho); clear HO_12; clear ho hb hg hat))
                go_roundg k2
                case measure => have := HK1.out; have := HK2.out; omega
                case rel => exact ⟨(y285), (y288), (y291), (wrap64 (x29_2 + 1)), eq_, H', ⟨by have := HK1.out; have := HK2.out; omega⟩, ⟨by refine vR_ ?_; exact Kd.R_mono HO287.out (fun _ hk => ⟨hk.1.1, ⟨hk.1.2.2.2, ⟨hk.2, ⟨hk.1.2.1, hk.1.2.2.1⟩⟩⟩⟩)⟩, ⟨by refine vR_ ?_; exact Kd.R_mono HO290.out (fun _ hk => ⟨hk.1.1, ⟨hk.1.2.2.2, ⟨hk.2, ⟨hk.1.2.1, hk.1.2.2.1⟩⟩⟩⟩)⟩, ⟨by refine vR_ ?_; exact Kd.R_mono HO293.out (fun _ hk => ⟨hk.1, ⟨hk.2.2.2.1, ⟨hk.2.2.2.2, ⟨hk.2.1, hk.2.2.1⟩⟩⟩⟩)⟩, ⟨by refine vR_ ?_; exact Kd.R_mono HO_20.out (fun _ hk => ⟨hk.1.1, ⟨hk.1.2.2.1, ⟨hk.1.2.2.2, ⟨hk.2, hk.1.2.1⟩⟩⟩⟩)⟩, ⟨by refine vR_ ?_; exact Kd.R_mono HO_27.out (fun _ hk => ⟨hk.1.1, ⟨hk.1.2.2.1, ⟨hk.1.2.2.2, ⟨hk.2, hk.1.2.1⟩⟩⟩⟩)⟩, ⟨by refine bk_ ?_; exact BK264.out⟩, ⟨by refine bk_ ?_; exact BK265.out⟩, ⟨by refine bk_ ?_; exact BK266.out⟩, ⟨bel_⟩⟩
               ·
                rw [if_neg c32] at H
                exact absurd H (by simp)
              ·
               rw [if_neg c31] at H
               exact absurd H (by simp)
             ·
              rw [if_neg c30] at H
              exact absurd H (by simp)
            ·
             replace c29 := Bool.eq_false_iff.mpr c29
             subst c29
             have H1 : (prop_Pairs_at_ext_Filter_1.l1 k2 x10_2 x11_2 x12_2 (rd t267 x22_1) t267 (t267.length : Int) x22_1 t278 (t278.length : Int) (wrap64 (x29_2 + 1)) a1_0 l1_1 a1_2 a1_3 a1_4 a2_0 l2_1 a2_2 a2_3 a2_4) = some (r1, r2) := by rw [if_neg (show ¬ (false = true) by decide)] at H; exact H
             clear H
             have H := H1
             clear H1
             have H' := Aside0.mk H
             clear H
             have p281 : 0 ≤ (x29_2 : Int) := dq_
             have q281 : x29_2 < (t278.length : Int) := dq_
             obtain ⟨ad281, e281, hx281_0⟩ := Kd.at_int (Kd.R_reads' HO_27.out).2.2 x29_2 p281 q281
             cases e281
             replace p281 := eq_true p281
             replace q281 := eq_true q281
             go_wp2_with (first | (go_at_call 33; (with_reducible refine (ext_Filter_1.calls (rd t267 x22_1) (rd t278 x29_2) t282 true _ A26.out).mono ?_); rintro e w41 ⟨rfl, hb⟩; replace HO_10 := Aside0.mk (Kd.R_below (vR_ HO_10.out) hb); replace HO_11 := Aside0.mk (Kd.R_below (vR_ HO_11.out) hb); replace HO_12 := Aside0.mk (Kd.R_below (vR_ HO_12.out) hb); replace HO_20 := Aside0.mk (Kd.R_below (vR_ HO_20.out) hb); replace HO_27 := Aside0.mk (Kd.R_below (vR_ HO_27.out) hb); replace BK264 := Aside0.mk (blk_below (bk_ BK264.out) hb); replace BK265 := Aside0.mk (blk_below (bk_ BK265.out) hb); replace BK266 := Aside0.mk (blk_below (bk_ BK266.out) hb); replace HB := Aside0.mk (below_step bel_ hb); clear hb; have hnb42 := NB266_264.out; have hnc42 := NB264_266.out; have hnb43 := NB266_265.out; have hnc43 := NB265_266.out; obtain ⟨_, _, _, _, _, _, _, _, _, _⟩ := cel5_ BK266.out) | (go_at_call 25; (with_reducible refine (dom_Dom_Has.calls a2_0 _ _ l2_1 a2_2 a2_3 a2_4 t282 false _ ?_ ?_ A28.out).mono ?_); exact ca_ ((Kd.C_below HR2_1.out HB.out)); exact HC2_1.out; rintro e w45 ⟨rfl, hb⟩; replace HO_10 := Aside0.mk (Kd.R_below (vR_ HO_10.out) hb); replace HO_11 := Aside0.mk (Kd.R_below (vR_ HO_11.out) hb); replace HO_12 := Aside0.mk (Kd.R_below (vR_ HO_12.out) hb); replace HO_20 := Aside0.mk (Kd.R_below (vR_ HO_20.out) hb); replace HO_27 := Aside0.mk (Kd.R_below (vR_ HO_27.out) hb); replace BK264 := Aside0.mk (blk_below (bk_ BK264.out) hb); replace BK265 := Aside0.mk (blk_below (bk_ BK265.out) hb); replace BK266 := Aside0.mk (blk_below (bk_ BK266.out) hb); replace HB := Aside0.mk (below_step bel_ hb); clear hb))
             go_roundg k2
             case measure => have := HK1.out; have := HK2.out; omega
             case rel => exact ⟨(x10_2), (x11_2), (x12_2), (wrap64 (x29_2 + 1)), eq_, H', ⟨by have := HK1.out; have := HK2.out; omega⟩, ⟨by refine vR_ ?_; exact HO_10.out⟩, ⟨by refine vR_ ?_; exact HO_11.out⟩, ⟨by refine vR_ ?_; exact HO_12.out⟩, ⟨by refine vR_ ?_; exact HO_20.out⟩, ⟨by refine vR_ ?_; exact HO_27.out⟩, ⟨by refine bk_ ?_; exact BK264.out⟩, ⟨by refine bk_ ?_; exact BK265.out⟩, ⟨by refine bk_ ?_; exact BK266.out⟩, ⟨bel_⟩⟩
           ·
            replace c27 := Bool.eq_false_iff.mpr c27
            subst c27
            have H1 : (prop_Pairs_at_ext_Filter_1.l1 k2 x10_2 x11_2 x12_2 (rd t267 x22_1) t267 (t267.length : Int) x22_1 t278 (t278.length : Int) (wrap64 (x29_2 + 1)) a1_0 l1_1 a1_2 a1_3 a1_4 a2_0 l2_1 a2_2 a2_3 a2_4) = some (r1, r2) := by rw [if_neg (show ¬ (false = true) by decide)] at H; exact H
            clear H
            have H := H1
            clear H1
            have H' := Aside0.mk H
            clear H
            have p281 : 0 ≤ (x29_2 : Int) := dq_
            have q281 : x29_2 < (t278.length : Int) := dq_
            obtain ⟨ad281, e281, hx281_0⟩ := Kd.at_int (Kd.R_reads' HO_27.out).2.2 x29_2 p281 q281
            cases e281
            replace p281 := eq_true p281
            replace q281 := eq_true q281
            go_wp2_with (first | (go_at_call 33; (with_reducible refine (ext_Filter_1.calls (rd t267 x22_1) (rd t278 x29_2) t282 false _ A26.out).mono ?_); rintro e w46 ⟨rfl, hb⟩; replace HO_10 := Aside0.mk (Kd.R_below (vR_ HO_10.out) hb); replace HO_11 := Aside0.mk (Kd.R_below (vR_ HO_11.out) hb); replace HO_12 := Aside0.mk (Kd.R_below (vR_ HO_12.out) hb); replace HO_20 := Aside0.mk (Kd.R_below (vR_ HO_20.out) hb); replace HO_27 := Aside0.mk (Kd.R_below (vR_ HO_27.out) hb); replace BK264 := Aside0.mk (blk_below (bk_ BK264.out) hb); replace BK265 := Aside0.mk (blk_below (bk_ BK265.out) hb); replace BK266 := Aside0.mk (blk_below (bk_ BK266.out) hb); replace HB := Aside0.mk (below_step bel_ hb); clear hb))
            go_roundg k2
            case measure => have := HK1.out; have := HK2.out; omega
            case rel => exact ⟨(x10_2), (x11_2), (x12_2), (wrap64 (x29_2 + 1)), eq_, H', ⟨by have := HK1.out; have := HK2.out; omega⟩, ⟨by refine vR_ ?_; exact HO_10.out⟩, ⟨by refine vR_ ?_; exact HO_11.out⟩, ⟨by refine vR_ ?_; exact HO_12.out⟩, ⟨by refine vR_ ?_; exact HO_20.out⟩, ⟨by refine vR_ ?_; exact HO_27.out⟩, ⟨by refine bk_ ?_; exact BK264.out⟩, ⟨by refine bk_ ?_; exact BK265.out⟩, ⟨by refine bk_ ?_; exact BK266.out⟩, ⟨bel_⟩⟩
          ·
           rw [if_neg c25] at H
           exact absurd H (by simp)
         ·
          rw [if_neg c24] at H
          exact absurd H (by simp)
        ·
         rw [if_neg c23] at H
         have c23b0 : decide (x29_2 < (t278.length : Int)) = false := decide_eq_false c23
         clear c23
         have H' := Aside0.mk H
         clear H
         go_wp2
         go_roundg k2
         case measure => have := HK1.out; have := HK2.out; omega
         case rel => exact ⟨(x10_2), (x11_2), (x12_2), (wrap64 (x22_1 + 1)), eq_, H', ⟨by have := HK1.out; have := HK2.out; omega⟩, ⟨by refine vR_ ?_; exact Kd.R_mono HO_10.out (fun _ hk => ⟨hk.1, ⟨hk.2.1, ⟨hk.2.2.1, hk.2.2.2.1⟩⟩⟩)⟩, ⟨by refine vR_ ?_; exact Kd.R_mono HO_11.out (fun _ hk => ⟨hk.1, ⟨hk.2.1, ⟨hk.2.2.1, hk.2.2.2.1⟩⟩⟩)⟩, ⟨by refine vR_ ?_; exact Kd.R_mono HO_12.out (fun _ hk => ⟨hk.1, ⟨hk.2.1, ⟨hk.2.2.1, hk.2.2.2.1⟩⟩⟩)⟩, ⟨by refine vR_ ?_; exact Kd.R_mono HO_20.out (fun _ hk => ⟨hk.1, ⟨hk.2.1, ⟨hk.2.2.1, hk.2.2.2.1⟩⟩⟩)⟩, ⟨by refine bk_ ?_; exact BK264.out⟩, ⟨by refine bk_ ?_; exact BK265.out⟩, ⟨by refine bk_ ?_; exact BK266.out⟩, ⟨bel_⟩⟩
     ·
      rw [if_neg c16] at H
      exact absurd H (by simp)
    ·
     rw [if_neg c15] at H
     exact absurd H (by simp)
   ·
    rw [if_neg c14] at H
    have c14b0 : decide (x22_1 < (t267.length : Int)) = false := decide_eq_false c14
    clear c14
    obtain ⟨y270, hy270⟩ : ∃ y_ : List (List Int), y_ = (([x10_1, x11_1, x12_1] : List (List Int))) := ⟨_, rfl⟩
    replace H : ((prop_Made.f k1 y270).bind fun bt273 => (some (bt273.1, bt273.2))) = some (r1, r2) := by first | (rw [hy270]; with_reducible exact H) | (have H2_ := (Option.bind_some _ _).symm.trans H; rw [hy270]; with_reducible exact H2_) | (have H2_ := (Option.bind_some _ _).symm.trans H; with_reducible exact H2_) | with_reducible exact H | (rw [hy270]; exact H) | exact H
    have Ny270 := Aside0.mk hy270
    clear hy270
    replace H := Option.bind_eq_some_iff.mp H
    obtain ⟨⟨t273, t276⟩, A470, H⟩ := H
    replace H : (some (t273, t276)) = some (r1, r2) := H
    have A47 := Aside0.mk A470
    clear A470
    simp only [Option.some.injEq, Prod.mk.injEq] at H
    obtain ⟨rfl, rfl⟩ := H
    obtain ⟨Ao48, co48, eo48⟩ := Kd.R_slice HO_10.out
    subst eo48
    obtain ⟨Ao49, co49, eo49⟩ := Kd.R_slice HO_11.out
    subst eo49
    obtain ⟨Ao50, co50, eo50⟩ := Kd.R_slice HO_12.out
    subst eo50
    go_wp2_with (first | ((with_reducible refine gate_dst (N := 63) rfl ?_); refine Kd.N_lit (Kd.slice 3 (Kd.int .i64)) _ 30 ?hg (N' := 63) ?hd (xs := ([x10_1, x11_1, x12_1] : List (List Int))) (inner := [.slice Ao48 x10_1.length co48, .slice Ao49 x11_1.length co49, .slice Ao50 x12_1.length co50]) (ok := (fun k_ => (w.heap.size ≤ k_) ∧ some k_ ≠ (.slice Ao13 t267.length co13 : Value).ownBlock ∧ k_ ≠ gb264 ∧ k_ ≠ gb265 ∧ k_ ≠ gb266)) (okp := (fun k_ => (w.heap.size ≤ k_) ∧ some k_ ≠ (.slice Ao13 t267.length co13 : Value).ownBlock ∧ k_ ≠ gb264 ∧ k_ ≠ gb265 ∧ k_ ≠ gb266)) ?hr ?hp (fun _ hk => hk) ((show ∀ k_, wr.heap.size ≤ k_ → (fun k_ => (w.heap.size ≤ k_) ∧ some k_ ≠ (.slice Ao13 t267.length co13 : Value).ownBlock ∧ k_ ≠ gb264 ∧ k_ ≠ gb265 ∧ k_ ≠ gb266) k_ from fun k_ hk => ⟨(Nat.le_trans (below_size bel_) hk), Kd.fresh' (Kd.R_lt (vR_ HO_20.out)) k_ hk, Kd.freshB (bk_ BK264.out) k_ hk, Kd.freshB (bk_ BK265.out) k_ hk, Kd.freshB (bk_ BK266.out) k_ hk⟩) _ (Nat.le_refl _)) (Below.refl _ _) (Nat.le_refl _) (by simp) ?_; (case hd => rfl); (case hg => rfl); (case hr => first | (go_simp; done) | (go_simp; rfl)); (case hp => exact (Reps.one (show Kd.FK (Kd.slice 3 (Kd.int .i64)) _ _ x10_1 [.slice Ao48 x10_1.length co48] from (Kd.FK_slice_mk (Kd.R_reads' (Kd.R_mono (ok' := (fun k_ => (w.heap.size ≤ k_) ∧ some k_ ≠ (.slice Ao13 t267.length co13 : Value).ownBlock ∧ k_ ≠ gb264 ∧ k_ ≠ gb265 ∧ k_ ≠ gb266)) (Kd.R_types (Kd.R_types (Kd.R_types (HO_10.out) BK264.out (by decide)) BK265.out (by decide)) BK266.out (by decide)) (fun k_ hk => ⟨hk.1.1.1.1, ⟨hk.1.1.1.2.2.2, ⟨hk.1.1.2, ⟨hk.1.2, hk.2⟩⟩⟩⟩))).2.1 (Kd.R_F (Kd.R_mono (ok' := (fun k_ => (w.heap.size ≤ k_) ∧ some k_ ≠ (.slice Ao13 t267.length co13 : Value).ownBlock ∧ k_ ≠ gb264 ∧ k_ ≠ gb265 ∧ k_ ≠ gb266)) (Kd.R_types (Kd.R_types (Kd.R_types (HO_10.out) BK264.out (by decide)) BK265.out (by decide)) BK266.out (by decide)) (fun k_ hk => ⟨hk.1.1.1.1, ⟨hk.1.1.1.2.2.2, ⟨hk.1.1.2, ⟨hk.1.2, hk.2⟩⟩⟩⟩))))) (Reps.one (show Kd.FK (Kd.slice 3 (Kd.int .i64)) _ _ x11_1 [.slice Ao49 x11_1.length co49] from (Kd.FK_slice_mk (Kd.R_reads' (Kd.R_mono (ok' := (fun k_ => (w.heap.size ≤ k_) ∧ some k_ ≠ (.slice Ao13 t267.length co13 : Value).ownBlock ∧ k_ ≠ gb264 ∧ k_ ≠ gb265 ∧ k_ ≠ gb266)) (Kd.R_types (Kd.R_types (Kd.R_types (HO_11.out) BK264.out (by decide)) BK265.out (by decide)) BK266.out (by decide)) (fun k_ hk => ⟨hk.1.1.1.1, ⟨hk.1.1.1.2.2.2, ⟨hk.1.1.2, ⟨hk.1.2, hk.2⟩⟩⟩⟩))).2.1 (Kd.R_F (Kd.R_mono (ok' := (fun k_ => (w.heap.size ≤ k_) ∧ some k_ ≠ (.slice Ao13 t267.length co13 : Value).ownBlock ∧ k_ ≠ gb264 ∧ k_ ≠ gb265 ∧ k_ ≠ gb266)) (Kd.R_types (Kd.R_types (Kd.R_types (HO_11.out) BK264.out (by decide)) BK265.out (by decide)) BK266.out (by decide)) (fun k_ hk => ⟨hk.1.1.1.1, ⟨hk.1.1.1.2.2.2, ⟨hk.1.1.2, ⟨hk.1.2, hk.2⟩⟩⟩⟩))))) (Reps.one (show Kd.FK (Kd.slice 3 (Kd.int .i64)) _ _ x12_1 [.slice Ao50 x12_1.length co50] from (Kd.FK_slice_mk (Kd.R_reads' (Kd.R_mono (ok' := (fun k_ => (w.heap.size ≤ k_) ∧ some k_ ≠ (.slice Ao13 t267.length co13 : Value).ownBlock ∧ k_ ≠ gb264 ∧ k_ ≠ gb265 ∧ k_ ≠ gb266)) (Kd.R_types (Kd.R_types (Kd.R_types (HO_12.out) BK264.out (by decide)) BK265.out (by decide)) BK266.out (by decide)) (fun k_ hk => ⟨hk.1.1.1.1, ⟨hk.1.1.1.2.2.2, ⟨hk.1.1.2, ⟨hk.1.2, hk.2⟩⟩⟩⟩))).2.1 (Kd.R_F (Kd.R_mono (ok' := (fun k_ => (w.heap.size ≤ k_) ∧ some k_ ≠ (.slice Ao13 t267.length co13 : Value).ownBlock ∧ k_ ≠ gb264 ∧ k_ ≠ gb265 ∧ k_ ≠ gb266)) (Kd.R_types (Kd.R_types (Kd.R_types (HO_12.out) BK264.out (by decide)) BK265.out (by decide)) BK266.out (by decide)) (fun k_ hk => ⟨hk.1.1.1.1, ⟨hk.1.1.1.2.2.2, ⟨hk.1.1.2, ⟨hk.1.2, hk.2⟩⟩⟩⟩))))) (Reps.none _ _))))); intro v271 w51 ho52 hb hg_ hnew_; clear hg_ hnew_; (first | rw [← Ny270.out] at ho52 | (simp only [Int.reduceToNat] at ho52; rw [← Ny270.out] at ho52)); replace HO_20 := Aside0.mk (Kd.R_below (vR_ HO_20.out) hb); have HO272 := Aside0.mk (Kd.N_lower ho52 (below_size bel_)); replace BK264 := Aside0.mk (blk_below (bk_ BK264.out) hb); replace BK265 := Aside0.mk (blk_below (bk_ BK265.out) hb); replace BK266 := Aside0.mk (blk_below (bk_ BK266.out) hb); replace HB := Aside0.mk (below_step bel_ hb); clear HO_10 HO_11 HO_12; clear hb ho52; obtain ⟨Ao53, co53, eo53⟩ := Kd.N_slice HO272.out; subst eo53) | ((with_reducible refine gate_callee (f := 65) rfl ?_); refine goesL_ (some 64) rfl rfl Tryz.func65 (by kernel_rfl) rfl #[.slice Ao53 y270.length co53] rfl ar_ ?_; (with_reducible refine (prop_Made.calls k1 _ _ y270 t273 t276 _ ?_ ?_ ?_ A47.out).mono ?_); exact ca_ ((Kd.N_reads' HO272.out).2.2); exact (Kd.N_reads' HO272.out).2.1; exact ca_ ((Kd.C_below HRtab.out HB.out)); rintro e w54 ⟨v274, rfl, ho0, hb⟩; refine ⟨_, rfl, ?_⟩; have HO275 := Aside0.mk (Kd.N_lower (Kd.N_mono (ok' := fun k_ => (w.heap.size ≤ k_) ∧ some k_ ≠ (.slice Ao13 t267.length co13 : Value).ownBlock ∧ some k_ ≠ (.slice Ao53 y270.length co53 : Value).ownBlock ∧ k_ ≠ gb264 ∧ k_ ≠ gb265 ∧ k_ ≠ gb266) ho0 (fun k_ hk_ => ⟨(Nat.le_trans (below_size bel_) hk_), (Kd.fresh' (Kd.R_lt (vR_ HO_20.out)) k_ hk_), (Kd.fresh' (Kd.N_lt (vN_ HO272.out)) k_ hk_), (Kd.freshB (bk_ BK264.out) k_ hk_), (Kd.freshB (bk_ BK265.out) k_ hk_), (Kd.freshB (bk_ BK266.out) k_ hk_)⟩)) (below_size bel_)); replace HB := Aside0.mk (below_step bel_ hb); clear hb ho0))
    go_ret2
    exact ⟨_, by first | rfl | (simp [errW_none, errW_some] <;> rfl) | (simp [*, errW_none, errW_some] <;> rfl), by refine vN_ ?_; exact Kd.N_mono HO275.out (fun _ hk => hk.1), bel_⟩

end Go.Proofs.YtiofjnhmogeenaaGreatDoor.XExtFixed
