-- by xprint.py, a program of this session, over the kit's print
import Derived.Test.YtbhhbgoamomacaaGreatDoorXMUSx0
import Derived.Test.YtbhhbgoamomacaaGreatDoorXMUSx5
import Derived.Test.YtbhhbgoamomacaaGreatDoorXMUSx7
import Derived.Test.YtbhhbgoamomacaaGreatDoorXMUSx8
import Derived.Test.YtbhhbgoamomacaaGreatDoorXMUSx10
import Derived.Test.YtbhhbgoamomacaaGreatDoorSq
namespace Go.Proofs.YtbhhbgoamomacaaGreatDoor.XMulFixed
open Go.RowKit Go.Proofs.YtbhhbgoamomacaaGreatDoor.Sq Go.Proofs.YtbhhbgoamomacaaGreatDoorW.PrintWords Go.Proofs.YtbhhbgoamomacaaGreatDoorW.PrintLast Go.Proofs.YtbhhbgoamomacaaGreatDoorW.PrintMore
attribute [local go_sem] max2_int min2_int max_two min_two max_three min_three max_four min_four   -- for this text's walks alone
set_option linter.unusedVariables false
set_option linter.unusedSimpArgs false

/-! ### prop_Pairs_at_num_Mul: function 33 -/
mutual
def prop_Pairs_at_num_Mul.l0 : Nat → List Int → List Int → List Int → List Int → Int → Int → Int → List Int → Int → Int → Int → Int → List Int → Int → Int → Int → Option ((List (S61)) × Bool)
 | 0, _, _, _, _, _, _, _, _, _, _, _, _, _, _, _, _ => none
 | k + 1, x10, x11, x12, x20, x21, x22, x250000, x250001, x250002, x250003, x250004, x251000, x251001, x251002, x251003, x251004 => if x22 < x21 then (if 0 ≤ x22 then (if x22 < (x20.length : Int) then ((dom_Dom_List.f k x250000 x250001 x250002 x250003 x250004).bind fun t262 => (prop_Pairs_at_num_Mul.l1 k x10 x11 x12 (rd x20 x22) x20 x21 x22 t262 (t262.length : Int) 0 x250000 x250001 x250002 x250003 x250004 x251000 x251001 x251002 x251003 x251004)) else (none)) else (none)) else ((prop_Made.f k (([x10, x11, x12] : List (List Int)))).bind fun bt257 => (some (bt257.1, bt257.2)))
def prop_Pairs_at_num_Mul.l1 : Nat → List Int → List Int → List Int → Int → List Int → Int → Int → List Int → Int → Int → Int → List Int → Int → Int → Int → Int → List Int → Int → Int → Int → Option ((List (S61)) × Bool)
 | 0, _, _, _, _, _, _, _, _, _, _, _, _, _, _, _, _, _, _, _, _ => none
 | k + 1, x10, x11, x12, x14, x20, x21, x22, x27, x28, x29, x250000, x250001, x250002, x250003, x250004, x251000, x251001, x251002, x251003, x251004 => if x29 < x28 then (if 0 ≤ x29 then (if x29 < (x27.length : Int) then ((num_Mul.f k x14 (rd x27 x29)).bind fun bt266 => (if bt266.2 = true then ((dom_Dom_Has.f x251000 x251001 x251002 x251003 x251004 bt266.1).bind fun t268 => (if t268 = true then (if x10.length < 17592186044416 then (if x11.length < 17592186044416 then (if x12.length < 17592186044416 then (prop_Pairs_at_num_Mul.l1 k (x10 ++ [x14]) (x11 ++ [rd x27 x29]) (x12 ++ [bt266.1]) x14 x20 x21 x22 x27 x28 (wrap64 (x29 + 1)) x250000 x250001 x250002 x250003 x250004 x251000 x251001 x251002 x251003 x251004) else (none)) else (none)) else (none)) else (prop_Pairs_at_num_Mul.l1 k x10 x11 x12 x14 x20 x21 x22 x27 x28 (wrap64 (x29 + 1)) x250000 x250001 x250002 x250003 x250004 x251000 x251001 x251002 x251003 x251004))) else (prop_Pairs_at_num_Mul.l1 k x10 x11 x12 x14 x20 x21 x22 x27 x28 (wrap64 (x29 + 1)) x250000 x250001 x250002 x250003 x250004 x251000 x251001 x251002 x251003 x251004))) else (none)) else (none)) else (prop_Pairs_at_num_Mul.l0 k x10 x11 x12 x20 x21 (wrap64 (x22 + 1)) x250000 x250001 x250002 x250003 x250004 x251000 x251001 x251002 x251003 x251004)
end
def prop_Pairs_at_num_Mul.f (k : Nat) (a0_0 : Int) (l0_1 : List Int) (a0_2 : Int) (a0_3 : Int) (a0_4 : Int) (a1_0 : Int) (l1_1 : List Int) (a1_2 : Int) (a1_3 : Int) (a1_4 : Int) (a2_0 : Int) (l2_1 : List Int) (a2_2 : Int) (a2_3 : Int) (a2_4 : Int)  : Option ((List (S61)) × Bool) := (dom_Dom_List.f k a0_0 l0_1 a0_2 a0_3 a0_4).bind fun t251 => (prop_Pairs_at_num_Mul.l0 k ([] : List Int) ([] : List Int) ([] : List Int) t251 (t251.length : Int) 0 a1_0 l1_1 a1_2 a1_3 a1_4 a2_0 l2_1 a2_2 a2_3 a2_4)
theorem prop_Pairs_at_num_Mul.mono_l : ∀ k, (∀ y0 y1 y2 y3 y4 y5 y6 y7 y8 y9 y10 y11 y12 y13 y14 y15, LeO (prop_Pairs_at_num_Mul.l0 k y0 y1 y2 y3 y4 y5 y6 y7 y8 y9 y10 y11 y12 y13 y14 y15) (prop_Pairs_at_num_Mul.l0 (k + 1) y0 y1 y2 y3 y4 y5 y6 y7 y8 y9 y10 y11 y12 y13 y14 y15)) ∧ (∀ y0 y1 y2 y3 y4 y5 y6 y7 y8 y9 y10 y11 y12 y13 y14 y15 y16 y17 y18 y19, LeO (prop_Pairs_at_num_Mul.l1 k y0 y1 y2 y3 y4 y5 y6 y7 y8 y9 y10 y11 y12 y13 y14 y15 y16 y17 y18 y19) (prop_Pairs_at_num_Mul.l1 (k + 1) y0 y1 y2 y3 y4 y5 y6 y7 y8 y9 y10 y11 y12 y13 y14 y15 y16 y17 y18 y19))
 | 0 => ⟨fun _ _ _ _ _ _ _ _ _ _ _ _ _ _ _ _ r h => by simp [prop_Pairs_at_num_Mul.l0] at h, fun _ _ _ _ _ _ _ _ _ _ _ _ _ _ _ _ _ _ _ _ r h => by simp [prop_Pairs_at_num_Mul.l1] at h⟩
 | k + 1 => by
  obtain ⟨ih0, ih1⟩ := prop_Pairs_at_num_Mul.mono_l k
  refine ⟨?_, ?_⟩
  ·
   intro y0 y1 y2 y3 y4 y5 y6 y7 y8 y9 y10 y11 y12 y13 y14 y15
   unfold prop_Pairs_at_num_Mul.l0
   have m0 := @dom_Dom_List.mono
   have m1 := @num_Mul.mono
   have m2 := @prop_Made.mono
   exact leo_
  ·
   intro y0 y1 y2 y3 y4 y5 y6 y7 y8 y9 y10 y11 y12 y13 y14 y15 y16 y17 y18 y19
   unfold prop_Pairs_at_num_Mul.l1
   have m0 := @dom_Dom_List.mono
   have m1 := @num_Mul.mono
   have m2 := @prop_Made.mono
   exact leo_
theorem prop_Pairs_at_num_Mul.mono : ∀ a0 a1 a2 a3 a4 a5 a6 a7 a8 a9 a10 a11 a12 a13 a14 k, LeO (prop_Pairs_at_num_Mul.f k a0 a1 a2 a3 a4 a5 a6 a7 a8 a9 a10 a11 a12 a13 a14) (prop_Pairs_at_num_Mul.f (k + 1) a0 a1 a2 a3 a4 a5 a6 a7 a8 a9 a10 a11 a12 a13 a14) := by
 intro a0 a1 a2 a3 a4 a5 a6 a7 a8 a9 a10 a11 a12 a13 a14 k
 obtain ⟨ih0, ih1⟩ := prop_Pairs_at_num_Mul.mono_l k
 unfold prop_Pairs_at_num_Mul.f
 have m0 := @dom_Dom_List.mono
 have m1 := @num_Mul.mono
 have m2 := @prop_Made.mono
 exact leo_
set_option maxHeartbeats 8000000 in
set_option maxRecDepth 100000 in
theorem prop_Pairs_at_num_Mul.calls (k : Nat) (a0_0 : Int) (A0_1 : Option Addr) (c0_1 : Nat) (l0_1 : List Int) (a0_2 : Int) (a0_3 : Int) (a0_4 : Int) (a1_0 : Int) (A1_1 : Option Addr) (c1_1 : Nat) (l1_1 : List Int) (a1_2 : Int) (a1_3 : Int) (a1_4 : Int) (a2_0 : Int) (A2_1 : Option Addr) (c2_1 : Nat) (l2_1 : List Int) (a2_2 : Int) (a2_3 : Int) (a2_4 : Int)  (r1 : List (S61)) (r2 : Bool) (w : World) (hr0_1 : Kd.C (Kd.int .u64) w A0_1 l0_1.length l0_1) (hc0_1 : l0_1.length ≤ c0_1) (hr1_1 : Kd.C (Kd.int .u64) w A1_1 l1_1.length l1_1) (hc1_1 : l1_1.length ≤ c1_1) (hr2_1 : Kd.C (Kd.int .u64) w A2_1 l2_1.length l2_1) (hc2_1 : l2_1.length ≤ c2_1) (hrtab : Kd.C (Kd.int .u8) w (some ⟨0, 0, none⟩) tabL.length tabL) (h : prop_Pairs_at_num_Mul.f k a0_0 l0_1 a0_2 a0_3 a0_4 a1_0 l1_1 a1_2 a1_3 a1_4 a2_0 l2_1 a2_2 a2_3 a2_4 = some (r1, r2)) :
  Calls Tryz.prog 33 #[.agg #[.int .i64 a0_0, .slice A0_1 l0_1.length c0_1, .int .i64 a0_2, .int .i64 a0_3, .int .i64 a0_4], .agg #[.int .i64 a1_0, .slice A1_1 l1_1.length c1_1, .int .i64 a1_2, .int .i64 a1_3, .int .i64 a1_4], .agg #[.int .i64 a2_0, .slice A2_1 l2_1.length c2_1, .int .i64 a2_2, .int .i64 a2_3, .int .i64 a2_4], .func (.func 30) #[] #[]] w fun e w' => ∃ v0_ : Value, e = .returned (.tuple #[v0_, .bool r2]) ∧ Kd.N k61 61 w' w.heap.size (fun k_ => (w.heap.size ≤ k_)) v0_ r1 ∧ Below w.heap.size w w' := by
 have hu61 := Tryz.underlying61
 have HR0_1 := Aside0.mk hr0_1
 have HC0_1 := Aside0.mk hc0_1
 clear hr0_1 hc0_1
 have HR1_1 := Aside0.mk hr1_1
 have HC1_1 := Aside0.mk hc1_1
 clear hr1_1 hc1_1
 have HR2_1 := Aside0.mk hr2_1
 have HC2_1 := Aside0.mk hc2_1
 clear hr2_1 hc2_1
 have HRtab := Aside0.mk hrtab
 clear hrtab
 have HB := Aside0.mk (Below.refl w.heap.size w)
 have H : ((dom_Dom_List.f k a0_0 l0_1 a0_2 a0_3 a0_4).bind fun t251 => (prop_Pairs_at_num_Mul.l0 k ([] : List Int) ([] : List Int) ([] : List Int) t251 (t251.length : Int) 0 a1_0 l1_1 a1_2 a1_3 a1_4 a2_0 l2_1 a2_2 a2_3 a2_4)) = some (r1, r2) := h
 clear h
 replace H := Option.bind_eq_some_iff.mp H
 obtain ⟨t251, A50, H⟩ := H
 replace H : (prop_Pairs_at_num_Mul.l0 k ([] : List Int) ([] : List Int) ([] : List Int) t251 (t251.length : Int) 0 a1_0 l1_1 a1_2 a1_3 a1_4 a2_0 l2_1 a2_2 a2_3 a2_4) = some (r1, r2) := H
 have A5 := Aside0.mk A50
 clear A50
 have H' := Aside0.mk H
 clear H
 go_enter Tryz.func33, Tryz.ntmps33
 go_wp2_with (first | ((with_reducible refine gate_dst (N := 4) rfl ?_); refine bxe_ (N := 4) (cs := #[.int .i64 a0_0, .slice A0_1 l0_1.length c0_1, .int .i64 a0_2, .int .i64 a0_3, .int .i64 a0_4]) (t := 61) ?_; intro gb248 hg w6 hbox hb; have BK248 := Aside0.mk (hbox); have GW248 := Aside0.mk (by rw [hg]; exact (below_size bel_) : w.heap.size ≤ gb248); have GE248 := GW248; replace HB := Aside0.mk (below_step bel_ hb); clear hb hbox hg) | ((with_reducible refine gate_dst (N := 5) rfl ?_); refine bxe_ (N := 5) (cs := #[.int .i64 a1_0, .slice A1_1 l1_1.length c1_1, .int .i64 a1_2, .int .i64 a1_3, .int .i64 a1_4]) (t := 61) ?_; intro gb249 hg w7 hbox hb; have BK249 := Aside0.mk (hbox); have GW249 := Aside0.mk (by rw [hg]; exact (below_size bel_) : w.heap.size ≤ gb249); have GE249 := GW249; replace HB := Aside0.mk (below_step bel_ hb); have NB248_249 := Aside0.mk ((by rw [hg]; exact Nat.ne_of_lt (blk_lt (bk_ BK248.out)) : gb248 ≠ gb249)); have NB249_248 := Aside0.mk ((by rw [hg]; exact Nat.ne_of_gt (blk_lt (bk_ BK248.out)) : gb249 ≠ gb248)); replace BK248 := Aside0.mk (blk_below (bk_ BK248.out) hb); clear hb hbox hg) | ((with_reducible refine gate_dst (N := 6) rfl ?_); refine bxe_ (N := 6) (cs := #[.int .i64 a2_0, .slice A2_1 l2_1.length c2_1, .int .i64 a2_2, .int .i64 a2_3, .int .i64 a2_4]) (t := 61) ?_; intro gb250 hg w8 hbox hb; have BK250 := Aside0.mk (hbox); have GW250 := Aside0.mk (by rw [hg]; exact (below_size bel_) : w.heap.size ≤ gb250); have GE250 := GW250; replace HB := Aside0.mk (below_step bel_ hb); have NB248_250 := Aside0.mk ((by rw [hg]; exact Nat.ne_of_lt (blk_lt (bk_ BK248.out)) : gb248 ≠ gb250)); have NB250_248 := Aside0.mk ((by rw [hg]; exact Nat.ne_of_gt (blk_lt (bk_ BK248.out)) : gb250 ≠ gb248)); replace BK248 := Aside0.mk (blk_below (bk_ BK248.out) hb); have NB249_250 := Aside0.mk ((by rw [hg]; exact Nat.ne_of_lt (blk_lt (bk_ BK249.out)) : gb249 ≠ gb250)); have NB250_249 := Aside0.mk ((by rw [hg]; exact Nat.ne_of_gt (blk_lt (bk_ BK249.out)) : gb250 ≠ gb249)); replace BK249 := Aside0.mk (blk_below (bk_ BK249.out) hb); clear hb hbox hg; have hnb9 := NB248_249.out; have hnc9 := NB249_248.out; have hnb10 := NB248_250.out; have hnc10 := NB250_248.out; obtain ⟨hcz11_0, hcz11_1, hcz11_2, hcz11_3, hcz11_4, hfz11_0, hfz11_1, hfz11_2, hfz11_3, hfz11_4⟩ := cel5_ BK248.out) | ((with_reducible refine gate_callee (f := 23) rfl ?_); refine goesL_ (some 20) rfl rfl Tryz.func23 (by kernel_rfl) rfl #[.agg #[.int .i64 a0_0, .slice A0_1 l0_1.length c0_1, .int .i64 a0_2, .int .i64 a0_3, .int .i64 a0_4]] rfl ar_ ?_; (with_reducible refine (dom_Dom_List.calls k a0_0 _ _ l0_1 a0_2 a0_3 a0_4 t251 _ ?_ ?_ ?_ A5.out).mono ?_); exact ca_ ((Kd.C_below HR0_1.out HB.out)); exact HC0_1.out; exact ca_ ((Kd.C_below HRtab.out HB.out)); rintro e w12 ⟨v252, rfl, ho0, hb⟩; refine ⟨_, rfl, ?_⟩; have HO253 := Aside0.mk (Kd.R_lower (Kd.R_newM (M := fun k_ => (w.heap.size ≤ k_)) ho0 (below_size bel_) (fun k_ h_ => h_)) (below_size bel_)); replace BK248 := Aside0.mk (blk_below (bk_ BK248.out) hb); replace BK249 := Aside0.mk (blk_below (bk_ BK249.out) hb); replace BK250 := Aside0.mk (blk_below (bk_ BK250.out) hb); replace HB := Aside0.mk (below_step bel_ hb); clear hb ho0; obtain ⟨Ao13, co13, eo13⟩ := Kd.R_slice HO253.out; subst eo13))
 go_loopg [10, 11, 12, 22] k (fun kq v10 v11 v12 v22 w' => ∃ (x10_1 : List Int) (x11_1 : List Int) (x12_1 : List Int) (x22_1 : Int), v22 = .int .i64 x22_1 ∧ Aside0 (prop_Pairs_at_num_Mul.l0 kq x10_1 x11_1 x12_1 t251 (t251.length : Int) x22_1 a1_0 l1_1 a1_2 a1_3 a1_4 a2_0 l2_1 a2_2 a2_3 a2_4 = some (r1, r2)) ∧ Aside0 (kq ≤ k) ∧ Aside0 (Kd.R (Kd.int .i64) 3 w' w.heap.size (fun k_ => (w.heap.size ≤ k_) ∧ some k_ ≠ (v11 : Value).ownBlock ∧ some k_ ≠ (v12 : Value).ownBlock ∧ some k_ ≠ ((.slice Ao13 t251.length co13) : Value).ownBlock) v10 x10_1) ∧ Aside0 (Kd.R (Kd.int .i64) 3 w' w.heap.size (fun k_ => (w.heap.size ≤ k_) ∧ some k_ ≠ (v10 : Value).ownBlock ∧ some k_ ≠ (v12 : Value).ownBlock ∧ some k_ ≠ ((.slice Ao13 t251.length co13) : Value).ownBlock) v11 x11_1) ∧ Aside0 (Kd.R (Kd.int .i64) 3 w' w.heap.size (fun k_ => (w.heap.size ≤ k_) ∧ some k_ ≠ (v10 : Value).ownBlock ∧ some k_ ≠ (v11 : Value).ownBlock ∧ some k_ ≠ ((.slice Ao13 t251.length co13) : Value).ownBlock) v12 x12_1) ∧ Aside0 (Kd.R (Kd.int .i64) 3 w' w.heap.size (fun k_ => (w.heap.size ≤ k_) ∧ some k_ ≠ (v10 : Value).ownBlock ∧ some k_ ≠ (v11 : Value).ownBlock ∧ some k_ ≠ (v12 : Value).ownBlock) (.slice Ao13 t251.length co13) t251) ∧ Aside0 (w'.heap[gb248]? = some (.cells #[.int .i64 a0_0, (.slice A0_1 l0_1.length c0_1), .int .i64 a0_2, .int .i64 a0_3, .int .i64 a0_4] 61 (0, 0))) ∧ Aside0 (w'.heap[gb249]? = some (.cells #[.int .i64 a1_0, (.slice A1_1 l1_1.length c1_1), .int .i64 a1_2, .int .i64 a1_3, .int .i64 a1_4] 61 (0, 0))) ∧ Aside0 (w'.heap[gb250]? = some (.cells #[.int .i64 a2_0, (.slice A2_1 l2_1.length c2_1), .int .i64 a2_2, .int .i64 a2_3, .int .i64 a2_4] 61 (0, 0))) ∧ Aside0 (Below w.heap.size w w'))
 case atStart => exact ⟨(([] : List Int)), (([] : List Int)), (([] : List Int)), (0), eq_, H', ⟨Nat.le_refl _⟩, ⟨nil_⟩, ⟨nil_⟩, ⟨nil_⟩, ⟨by refine vR_ ?_; exact Kd.R_mono HO253.out (fun _ hk => ⟨hk.1, ⟨(by simp [Value.ownBlock]), ⟨(by simp [Value.ownBlock]), (by simp [Value.ownBlock])⟩⟩⟩)⟩, ⟨by refine bk_ ?_; exact BK248.out⟩, ⟨by refine bk_ ?_; exact BK249.out⟩, ⟨by refine bk_ ?_; exact BK250.out⟩, ⟨bel_⟩⟩
 case round =>
  clear H'
  try clear c1
  try clear c2
  try clear p2
  try clear c9
  try clear c10
  try clear hcz11_0
  try clear hcz11_1
  try clear hcz11_2
  try clear hcz11_3
  try clear hcz11_4
  try clear hfz11_0
  try clear hfz11_1
  try clear hfz11_2
  try clear hfz11_3
  try clear hfz11_4
  obtain ⟨x10_1, x11_1, x12_1, x22_1, rfl, HA, HK1, HO_10, HO_11, HO_12, HO_20, BK248, BK249, BK250, HB⟩ := hrel
  cases gk with
  | zero => exact absurd HA.out (by simp [prop_Pairs_at_num_Mul.l0])
  | succ k1 =>
   have H := HA.out
   clear HA
   simp only [prop_Pairs_at_num_Mul.l0] at H
   by_cases c14 : x22_1 < (t251.length : Int)
   ·
    rw [if_pos c14] at H
    have c14b0 : decide (x22_1 < (t251.length : Int)) = true := decide_eq_true c14
    clear c14
    by_cases c15 : 0 ≤ x22_1
    ·
     rw [if_pos c15] at H
     have c15b0 : decide (0 ≤ x22_1) = true := decide_eq_true c15
     clear c15
     by_cases c16 : x22_1 < (t251.length : Int)
     ·
      rw [if_pos c16] at H
      have c16b0 : decide (x22_1 < (t251.length : Int)) = true := decide_eq_true c16
      clear c16
      replace H := Option.bind_eq_some_iff.mp H
      obtain ⟨t262, A170, H⟩ := H
      replace H : (prop_Pairs_at_num_Mul.l1 k1 x10_1 x11_1 x12_1 (rd t251 x22_1) t251 (t251.length : Int) x22_1 t262 (t262.length : Int) 0 a1_0 l1_1 a1_2 a1_3 a1_4 a2_0 l2_1 a2_2 a2_3 a2_4) = some (r1, r2) := H
      have A17 := Aside0.mk A170
      clear A170
      have H' := Aside0.mk H
      clear H
      have p261 : 0 ≤ (x22_1 : Int) := dq_
      have q261 : x22_1 < (t251.length : Int) := dq_
      obtain ⟨ad261, e261, hx261_0⟩ := Kd.at_int (Kd.R_reads' HO_20.out).2.2 x22_1 p261 q261
      cases e261
      replace p261 := eq_true p261
      replace q261 := eq_true q261
      have hnb18 := NB249_248.out
      have hnc18 := NB248_249.out
      have hnb19 := NB249_250.out
      have hnc19 := NB250_249.out
      obtain ⟨hcz20_0, hcz20_1, hcz20_2, hcz20_3, hcz20_4, hfz20_0, hfz20_1, hfz20_2, hfz20_3, hfz20_4⟩ := cel5_ BK249.out
      go_wp2_with (first | ((with_reducible refine gate_callee (f := 23) rfl ?_); refine goesL_ (some 27) rfl rfl Tryz.func23 (by kernel_rfl) rfl #[.agg #[.int .i64 a1_0, .slice A1_1 l1_1.length c1_1, .int .i64 a1_2, .int .i64 a1_3, .int .i64 a1_4]] rfl ar_ ?_; (with_reducible refine (dom_Dom_List.calls k1 a1_0 _ _ l1_1 a1_2 a1_3 a1_4 t262 _ ?_ ?_ ?_ A17.out).mono ?_); exact ca_ ((Kd.C_below HR1_1.out HB.out)); exact HC1_1.out; exact ca_ ((Kd.C_below HRtab.out HB.out)); rintro e w21 ⟨v263, rfl, ho0, hb⟩; refine ⟨_, rfl, ?_⟩; have HO264 := Aside0.mk (Kd.R_lower (Kd.R_new' (Kd.R_new' (Kd.R_new' (Kd.R_new' (Kd.R_newM (M := fun k_ => (w.heap.size ≤ k_)) ho0 (below_size bel_) (fun k_ h_ => h_)) (Kd.R_lt (vR_ HO_10.out))) (Kd.R_lt (vR_ HO_11.out))) (Kd.R_lt (vR_ HO_12.out))) (Kd.R_lt (vR_ HO_20.out))) (below_size bel_)); replace HO_10 := Aside0.mk (Kd.R_elder' (vR_ HO_10.out) (Kd.R_base ho0) hb); replace HO_11 := Aside0.mk (Kd.R_elder' (vR_ HO_11.out) (Kd.R_base ho0) hb); replace HO_12 := Aside0.mk (Kd.R_elder' (vR_ HO_12.out) (Kd.R_base ho0) hb); replace HO_20 := Aside0.mk (Kd.R_elder' (vR_ HO_20.out) (Kd.R_base ho0) hb); replace BK248 := Aside0.mk (blk_below (bk_ BK248.out) hb); replace BK249 := Aside0.mk (blk_below (bk_ BK249.out) hb); replace BK250 := Aside0.mk (blk_below (bk_ BK250.out) hb); replace HB := Aside0.mk (below_step bel_ hb); clear hb ho0; obtain ⟨Ao22, co22, eo22⟩ := Kd.R_slice HO264.out; subst eo22))
      go_loopg [10, 11, 12, 29] k1 (fun kq v10 v11 v12 v29 w' => ∃ (x10_2 : List Int) (x11_2 : List Int) (x12_2 : List Int) (x29_2 : Int), v29 = .int .i64 x29_2 ∧ Aside0 (prop_Pairs_at_num_Mul.l1 kq x10_2 x11_2 x12_2 (rd t251 x22_1) t251 (t251.length : Int) x22_1 t262 (t262.length : Int) x29_2 a1_0 l1_1 a1_2 a1_3 a1_4 a2_0 l2_1 a2_2 a2_3 a2_4 = some (r1, r2)) ∧ Aside0 (kq ≤ k1) ∧ Aside0 (Kd.R (Kd.int .i64) 3 w' w.heap.size (fun k_ => (w.heap.size ≤ k_) ∧ some k_ ≠ (v11 : Value).ownBlock ∧ some k_ ≠ (v12 : Value).ownBlock ∧ some k_ ≠ ((.slice (some ad261) t251.length co13) : Value).ownBlock ∧ some k_ ≠ ((.slice Ao22 t262.length co22) : Value).ownBlock) v10 x10_2) ∧ Aside0 (Kd.R (Kd.int .i64) 3 w' w.heap.size (fun k_ => (w.heap.size ≤ k_) ∧ some k_ ≠ (v10 : Value).ownBlock ∧ some k_ ≠ (v12 : Value).ownBlock ∧ some k_ ≠ ((.slice (some ad261) t251.length co13) : Value).ownBlock ∧ some k_ ≠ ((.slice Ao22 t262.length co22) : Value).ownBlock) v11 x11_2) ∧ Aside0 (Kd.R (Kd.int .i64) 3 w' w.heap.size (fun k_ => (w.heap.size ≤ k_) ∧ some k_ ≠ (v10 : Value).ownBlock ∧ some k_ ≠ (v11 : Value).ownBlock ∧ some k_ ≠ ((.slice (some ad261) t251.length co13) : Value).ownBlock ∧ some k_ ≠ ((.slice Ao22 t262.length co22) : Value).ownBlock) v12 x12_2) ∧ Aside0 (Kd.R (Kd.int .i64) 3 w' w.heap.size (fun k_ => (w.heap.size ≤ k_) ∧ some k_ ≠ (v10 : Value).ownBlock ∧ some k_ ≠ (v11 : Value).ownBlock ∧ some k_ ≠ (v12 : Value).ownBlock ∧ some k_ ≠ ((.slice Ao22 t262.length co22) : Value).ownBlock) (.slice (some ad261) t251.length co13) t251) ∧ Aside0 (Kd.R (Kd.int .i64) 3 w' w.heap.size (fun k_ => (w.heap.size ≤ k_) ∧ some k_ ≠ (v10 : Value).ownBlock ∧ some k_ ≠ (v11 : Value).ownBlock ∧ some k_ ≠ (v12 : Value).ownBlock ∧ some k_ ≠ ((.slice (some ad261) t251.length co13) : Value).ownBlock) (.slice Ao22 t262.length co22) t262) ∧ Aside0 (w'.heap[gb248]? = some (.cells #[.int .i64 a0_0, (.slice A0_1 l0_1.length c0_1), .int .i64 a0_2, .int .i64 a0_3, .int .i64 a0_4] 61 (0, 0))) ∧ Aside0 (w'.heap[gb249]? = some (.cells #[.int .i64 a1_0, (.slice A1_1 l1_1.length c1_1), .int .i64 a1_2, .int .i64 a1_3, .int .i64 a1_4] 61 (0, 0))) ∧ Aside0 (w'.heap[gb250]? = some (.cells #[.int .i64 a2_0, (.slice A2_1 l2_1.length c2_1), .int .i64 a2_2, .int .i64 a2_3, .int .i64 a2_4] 61 (0, 0))) ∧ Aside0 (Below w.heap.size w w'))
      case atStart => exact ⟨(x10_1), (x11_1), (x12_1), (0), eq_, H', ⟨Nat.le_refl _⟩, ⟨by refine vR_ ?_; exact Kd.R_mono HO_10.out (fun _ hk => ⟨hk.1.1, ⟨hk.1.2.1, ⟨hk.1.2.2.1, ⟨hk.1.2.2.2, hk.2⟩⟩⟩⟩)⟩, ⟨by refine vR_ ?_; exact Kd.R_mono HO_11.out (fun _ hk => ⟨hk.1.1, ⟨hk.1.2.1, ⟨hk.1.2.2.1, ⟨hk.1.2.2.2, hk.2⟩⟩⟩⟩)⟩, ⟨by refine vR_ ?_; exact Kd.R_mono HO_12.out (fun _ hk => ⟨hk.1.1, ⟨hk.1.2.1, ⟨hk.1.2.2.1, ⟨hk.1.2.2.2, hk.2⟩⟩⟩⟩)⟩, ⟨by refine vR_ ?_; exact Kd.R_mono HO_20.out (fun _ hk => ⟨hk.1.1, ⟨hk.1.2.1, ⟨hk.1.2.2.1, ⟨hk.1.2.2.2, hk.2⟩⟩⟩⟩)⟩, ⟨by refine vR_ ?_; exact Kd.R_mono HO264.out (fun _ hk => ⟨hk.1.1.1.1.1, ⟨hk.1.1.1.2, ⟨hk.1.1.2, ⟨hk.1.2, hk.2⟩⟩⟩⟩)⟩, ⟨by refine bk_ ?_; exact BK248.out⟩, ⟨by refine bk_ ?_; exact BK249.out⟩, ⟨by refine bk_ ?_; exact BK250.out⟩, ⟨bel_⟩⟩
      case round =>
       clear H'
       try clear c1
       try clear c2
       try clear p2
       try clear q2
       try clear hx2
       try clear c9
       try clear c10
       try clear c14
       try clear c14b0
       try clear c15
       try clear c15b0
       try clear c16
       try clear c16b0
       try clear c18
       try clear c19
       try clear hcz11_0
       try clear hcz11_1
       try clear hcz11_2
       try clear hcz11_3
       try clear hcz11_4
       try clear hcz20_0
       try clear hcz20_1
       try clear hcz20_2
       try clear hcz20_3
       try clear hcz20_4
       try clear hfz11_0
       try clear hfz11_1
       try clear hfz11_2
       try clear hfz11_3
       try clear hfz11_4
       try clear hfz20_0
       try clear hfz20_1
       try clear hfz20_2
       try clear hfz20_3
       try clear hfz20_4
       try clear hx261_0
       try clear p2
       try clear p261
       try clear q261
       obtain ⟨x10_2, x11_2, x12_2, x29_2, rfl, HA, HK2, HO_10, HO_11, HO_12, HO_20, HO_27, BK248, BK249, BK250, HB⟩ := hrel
       cases gk with
       | zero => exact absurd HA.out (by simp [prop_Pairs_at_num_Mul.l1])
       | succ k2 =>
        have H := HA.out
        clear HA
        simp only [prop_Pairs_at_num_Mul.l1] at H
        by_cases c23 : x29_2 < (t262.length : Int)
        ·
         rw [if_pos c23] at H
         have c23b0 : decide (x29_2 < (t262.length : Int)) = true := decide_eq_true c23
         clear c23
         by_cases c24 : 0 ≤ x29_2
         ·
          rw [if_pos c24] at H
          have c24b0 : decide (0 ≤ x29_2) = true := decide_eq_true c24
          clear c24
          by_cases c25 : x29_2 < (t262.length : Int)
          ·
           rw [if_pos c25] at H
           have c25b0 : decide (x29_2 < (t262.length : Int)) = true := decide_eq_true c25
           clear c25
           replace H := Option.bind_eq_some_iff.mp H
           obtain ⟨⟨t266, t267⟩, A260, H⟩ := H
           replace H : (if t267 = true then ((dom_Dom_Has.f a2_0 l2_1 a2_2 a2_3 a2_4 t266).bind fun t268 => (if t268 = true then (if x10_2.length < 17592186044416 then (if x11_2.length < 17592186044416 then (if x12_2.length < 17592186044416 then (prop_Pairs_at_num_Mul.l1 k2 (x10_2 ++ [(rd t251 x22_1)]) (x11_2 ++ [rd t262 x29_2]) (x12_2 ++ [t266]) (rd t251 x22_1) t251 (t251.length : Int) x22_1 t262 (t262.length : Int) (wrap64 (x29_2 + 1)) a1_0 l1_1 a1_2 a1_3 a1_4 a2_0 l2_1 a2_2 a2_3 a2_4) else (none)) else (none)) else (none)) else (prop_Pairs_at_num_Mul.l1 k2 x10_2 x11_2 x12_2 (rd t251 x22_1) t251 (t251.length : Int) x22_1 t262 (t262.length : Int) (wrap64 (x29_2 + 1)) a1_0 l1_1 a1_2 a1_3 a1_4 a2_0 l2_1 a2_2 a2_3 a2_4))) else (prop_Pairs_at_num_Mul.l1 k2 x10_2 x11_2 x12_2 (rd t251 x22_1) t251 (t251.length : Int) x22_1 t262 (t262.length : Int) (wrap64 (x29_2 + 1)) a1_0 l1_1 a1_2 a1_3 a1_4 a2_0 l2_1 a2_2 a2_3 a2_4)) = some (r1, r2) := H
           have A26 := Aside0.mk A260
           clear A260
           by_cases c27 : t267 = true
           ·
            subst c27
            have H1 : ((dom_Dom_Has.f a2_0 l2_1 a2_2 a2_3 a2_4 t266).bind fun t268 => (if t268 = true then (if x10_2.length < 17592186044416 then (if x11_2.length < 17592186044416 then (if x12_2.length < 17592186044416 then (prop_Pairs_at_num_Mul.l1 k2 (x10_2 ++ [(rd t251 x22_1)]) (x11_2 ++ [rd t262 x29_2]) (x12_2 ++ [t266]) (rd t251 x22_1) t251 (t251.length : Int) x22_1 t262 (t262.length : Int) (wrap64 (x29_2 + 1)) a1_0 l1_1 a1_2 a1_3 a1_4 a2_0 l2_1 a2_2 a2_3 a2_4) else (none)) else (none)) else (none)) else (prop_Pairs_at_num_Mul.l1 k2 x10_2 x11_2 x12_2 (rd t251 x22_1) t251 (t251.length : Int) x22_1 t262 (t262.length : Int) (wrap64 (x29_2 + 1)) a1_0 l1_1 a1_2 a1_3 a1_4 a2_0 l2_1 a2_2 a2_3 a2_4))) = some (r1, r2) := by rw [if_pos rfl] at H; exact H
            clear H
            have H := H1
            clear H1
            replace H := Option.bind_eq_some_iff.mp H
            obtain ⟨t268, A280, H⟩ := H
            replace H : (if t268 = true then (if x10_2.length < 17592186044416 then (if x11_2.length < 17592186044416 then (if x12_2.length < 17592186044416 then (prop_Pairs_at_num_Mul.l1 k2 (x10_2 ++ [(rd t251 x22_1)]) (x11_2 ++ [rd t262 x29_2]) (x12_2 ++ [t266]) (rd t251 x22_1) t251 (t251.length : Int) x22_1 t262 (t262.length : Int) (wrap64 (x29_2 + 1)) a1_0 l1_1 a1_2 a1_3 a1_4 a2_0 l2_1 a2_2 a2_3 a2_4) else (none)) else (none)) else (none)) else (prop_Pairs_at_num_Mul.l1 k2 x10_2 x11_2 x12_2 (rd t251 x22_1) t251 (t251.length : Int) x22_1 t262 (t262.length : Int) (wrap64 (x29_2 + 1)) a1_0 l1_1 a1_2 a1_3 a1_4 a2_0 l2_1 a2_2 a2_3 a2_4)) = some (r1, r2) := H
            have A28 := Aside0.mk A280
            clear A280
            by_cases c29 : t268 = true
            ·
             subst c29
             have H1 : (if x10_2.length < 17592186044416 then (if x11_2.length < 17592186044416 then (if x12_2.length < 17592186044416 then (prop_Pairs_at_num_Mul.l1 k2 (x10_2 ++ [(rd t251 x22_1)]) (x11_2 ++ [rd t262 x29_2]) (x12_2 ++ [t266]) (rd t251 x22_1) t251 (t251.length : Int) x22_1 t262 (t262.length : Int) (wrap64 (x29_2 + 1)) a1_0 l1_1 a1_2 a1_3 a1_4 a2_0 l2_1 a2_2 a2_3 a2_4) else (none)) else (none)) else (none)) = some (r1, r2) := by rw [if_pos rfl] at H; exact H
             clear H
             have H := H1
             clear H1
             by_cases c30 : x10_2.length < 17592186044416
             ·
              rw [if_pos c30] at H
              have LMc30 := Aside0.mk c30
              clear c30
              obtain ⟨y269, hy269⟩ : ∃ y_ : List Int, y_ = (x10_2 ++ [(rd t251 x22_1)]) := ⟨_, rfl⟩
              replace H : (if x11_2.length < 17592186044416 then (if x12_2.length < 17592186044416 then (prop_Pairs_at_num_Mul.l1 k2 y269 (x11_2 ++ [rd t262 x29_2]) (x12_2 ++ [t266]) (rd t251 x22_1) t251 (t251.length : Int) x22_1 t262 (t262.length : Int) (wrap64 (x29_2 + 1)) a1_0 l1_1 a1_2 a1_3 a1_4 a2_0 l2_1 a2_2 a2_3 a2_4) else (none)) else (none)) = some (r1, r2) := by first | (rw [hy269]; with_reducible exact H) | (have H2_ := (Option.bind_some _ _).symm.trans H; rw [hy269]; with_reducible exact H2_) | (have H2_ := (Option.bind_some _ _).symm.trans H; with_reducible exact H2_) | with_reducible exact H | (rw [hy269]; exact H) | exact H
              have Ny269 := Aside0.mk hy269
              clear hy269
              by_cases c31 : x11_2.length < 17592186044416
              ·
               rw [if_pos c31] at H
               have LMc31 := Aside0.mk c31
               clear c31
               obtain ⟨y272, hy272⟩ : ∃ y_ : List Int, y_ = (x11_2 ++ [rd t262 x29_2]) := ⟨_, rfl⟩
               replace H : (if x12_2.length < 17592186044416 then (prop_Pairs_at_num_Mul.l1 k2 y269 y272 (x12_2 ++ [t266]) (rd t251 x22_1) t251 (t251.length : Int) x22_1 t262 (t262.length : Int) (wrap64 (x29_2 + 1)) a1_0 l1_1 a1_2 a1_3 a1_4 a2_0 l2_1 a2_2 a2_3 a2_4) else (none)) = some (r1, r2) := by first | (rw [hy272]; with_reducible exact H) | (have H2_ := (Option.bind_some _ _).symm.trans H; rw [hy272]; with_reducible exact H2_) | (have H2_ := (Option.bind_some _ _).symm.trans H; with_reducible exact H2_) | with_reducible exact H | (rw [hy272]; exact H) | exact H
               have Ny272 := Aside0.mk hy272
               clear hy272
               by_cases c32 : x12_2.length < 17592186044416
               ·
                rw [if_pos c32] at H
                have LMc32 := Aside0.mk c32
                clear c32
                obtain ⟨y275, hy275⟩ : ∃ y_ : List Int, y_ = (x12_2 ++ [t266]) := ⟨_, rfl⟩
                replace H : (prop_Pairs_at_num_Mul.l1 k2 y269 y272 y275 (rd t251 x22_1) t251 (t251.length : Int) x22_1 t262 (t262.length : Int) (wrap64 (x29_2 + 1)) a1_0 l1_1 a1_2 a1_3 a1_4 a2_0 l2_1 a2_2 a2_3 a2_4) = some (r1, r2) := by first | (rw [hy275]; with_reducible exact H) | (have H2_ := (Option.bind_some _ _).symm.trans H; rw [hy275]; with_reducible exact H2_) | (have H2_ := (Option.bind_some _ _).symm.trans H; with_reducible exact H2_) | with_reducible exact H | (rw [hy275]; exact H) | exact H
                have Ny275 := Aside0.mk hy275
                clear hy275
                have H' := Aside0.mk H
                clear H
                have p265 : 0 ≤ (x29_2 : Int) := dq_
                have q265 : x29_2 < (t262.length : Int) := dq_
                obtain ⟨ad265, e265, hx265_0⟩ := Kd.at_int (Kd.R_reads' HO_27.out).2.2 x29_2 p265 q265
                cases e265
                replace p265 := eq_true p265
                replace q265 := eq_true q265
                go_wp2_with (first | (go_at_call 30; (with_reducible refine (num_Mul.calls k2 (rd t251 x22_1) (rd t262 x29_2) t266 true _ A26.out).mono ?_); rintro e w' ⟨rfl, ⟨nd, rfl⟩⟩; have hnb33 := NB250_248.out; have hnc33 := NB248_250.out; have hnb34 := NB250_249.out; have hnc34 := NB249_250.out; obtain ⟨_, _, _, _, _, _, _, _, _, _⟩ := cel5_ BK250.out) | (go_at_call 25; (with_reducible refine (dom_Dom_Has.calls a2_0 _ _ l2_1 a2_2 a2_3 a2_4 t266 true _ ?side1 ?side2 A28.out).mono ?_); (case side1 => repeat (first | exact (Kd.C_below HR2_1.out bel_) | (with_reducible refine Kd.C_alloc ?_ _) | (with_reducible refine Kd.C_drewN ?_ _) | (with_reducible refine Kd.C_drew ?_))); (case side2 => exact HC2_1.out); rintro e w36 ⟨rfl, hb⟩; replace HO_10 := Aside0.mk (Kd.R_below (vR_ HO_10.out) hb); replace HO_11 := Aside0.mk (Kd.R_below (vR_ HO_11.out) hb); replace HO_12 := Aside0.mk (Kd.R_below (vR_ HO_12.out) hb); replace HO_20 := Aside0.mk (Kd.R_below (vR_ HO_20.out) hb); replace HO_27 := Aside0.mk (Kd.R_below (vR_ HO_27.out) hb); replace BK248 := Aside0.mk (blk_below (bk_ BK248.out) hb); replace BK249 := Aside0.mk (blk_below (bk_ BK249.out) hb); replace BK250 := Aside0.mk (blk_below (bk_ BK250.out) hb); replace HB := Aside0.mk (below_step bel_ hb); clear hb) | ((with_reducible refine gate_builtin (b := .append) (xs := #[.tmp 46, .tmp 48]) rfl ?_); at_builtin; refine Kd.R_append (Kd.int .i64) (w0 := w) w.heap.size rfl (.tmp 46) (.tmp 48) 30 3 (.int .i64 0) 8 rfl Tryz.underlying30 info3 rfl (by decide) (by omega) u10 x10_2 (rd t251 x22_1) [.int .i64 (rd t251 x22_1)] (fun k_ => (w.heap.size ≤ k_) ∧ some k_ ≠ (u11 : Value).ownBlock ∧ some k_ ≠ (u12 : Value).ownBlock ∧ some k_ ≠ (.slice (some ad261) t251.length co13 : Value).ownBlock ∧ some k_ ≠ (.slice (some ad265) t262.length co22 : Value).ownBlock) (fun _ => False) rfl rfl ?aP (fun _ hk => hk.elim) ?aF ?aO ?aB ?aS ?aL ?_; (case aP => exact rfl); (case aB => exact bel_); (case aF => exact (fun k_ hk => ⟨(Nat.le_trans (below_size bel_) hk), Kd.fresh' (Kd.R_lt (vR_ HO_11.out)) k_ hk, Kd.fresh' (Kd.R_lt (vR_ HO_12.out)) k_ hk, Kd.fresh' (Kd.R_lt (vR_ HO_20.out)) k_ hk, Kd.fresh' (Kd.R_lt (vR_ HO_27.out)) k_ hk⟩)); (case aO => exact (vR_ HO_10.out)); (case aS => exact (below_size bel_)); (case aL => have := LMc30.out; omega); intro v270 w37 ho hb hg hat; rw [← Ny269.out] at ho; replace HO_11 := Aside0.mk (Kd.R_after (ok := (fun k_ => (w.heap.size ≤ k_) ∧ some k_ ≠ (u12 : Value).ownBlock ∧ some k_ ≠ (.slice (some ad261) t251.length co13 : Value).ownBlock ∧ some k_ ≠ (.slice (some ad265) t262.length co22 : Value).ownBlock)) (by refine vR_ ?_; exact Kd.R_mono HO_11.out (fun _ hk => ⟨⟨hk.1, ⟨hk.2.2.1, ⟨hk.2.2.2.1, hk.2.2.2.2⟩⟩⟩, hk.2.1⟩)) hg hat); replace HO_12 := Aside0.mk (Kd.R_after (ok := (fun k_ => (w.heap.size ≤ k_) ∧ some k_ ≠ (u11 : Value).ownBlock ∧ some k_ ≠ (.slice (some ad261) t251.length co13 : Value).ownBlock ∧ some k_ ≠ (.slice (some ad265) t262.length co22 : Value).ownBlock)) (by refine vR_ ?_; exact Kd.R_mono HO_12.out (fun _ hk => ⟨⟨hk.1, ⟨hk.2.2.1, ⟨hk.2.2.2.1, hk.2.2.2.2⟩⟩⟩, hk.2.1⟩)) hg hat); replace HO_20 := Aside0.mk (Kd.R_after (ok := (fun k_ => (w.heap.size ≤ k_) ∧ some k_ ≠ (u11 : Value).ownBlock ∧ some k_ ≠ (u12 : Value).ownBlock ∧ some k_ ≠ (.slice (some ad265) t262.length co22 : Value).ownBlock)) (by refine vR_ ?_; exact Kd.R_mono HO_20.out (fun _ hk => ⟨⟨hk.1, ⟨hk.2.2.1, ⟨hk.2.2.2.1, hk.2.2.2.2⟩⟩⟩, hk.2.1⟩)) hg hat); replace HO_27 := Aside0.mk (Kd.R_after (ok := (fun k_ => (w.heap.size ≤ k_) ∧ some k_ ≠ (u11 : Value).ownBlock ∧ some k_ ≠ (u12 : Value).ownBlock ∧ some k_ ≠ (.slice (some ad261) t251.length co13 : Value).ownBlock)) (by refine vR_ ?_; exact Kd.R_mono HO_27.out (fun _ hk => ⟨⟨hk.1, ⟨hk.2.2.1, ⟨hk.2.2.2.1, hk.2.2.2.2⟩⟩⟩, hk.2.1⟩)) hg hat); replace BK248 := Aside0.mk (blk_grown (bk_ BK248.out) hg (Kd.R_ne HO_10.out BK248.out (by decide))); replace BK249 := Aside0.mk (blk_grown (bk_ BK249.out) hg (Kd.R_ne HO_10.out BK249.out (by decide))); replace BK250 := Aside0.mk (blk_grown (bk_ BK250.out) hg (Kd.R_ne HO_10.out BK250.out (by decide))); replace HB := Aside0.mk (hb); have HO271 := Aside0.mk (ho); clear HO_10; clear ho hb hg hat) | ((with_reducible refine gate_builtin (b := .append) (xs := #[.tmp 50, .tmp 52]) rfl ?_); at_builtin; refine Kd.R_append (Kd.int .i64) (w0 := w) w.heap.size rfl (.tmp 50) (.tmp 52) 30 3 (.int .i64 0) 8 rfl Tryz.underlying30 info3 rfl (by decide) (by omega) u11 x11_2 (rd t262 x29_2) [.int .i64 (rd t262 x29_2)] (fun k_ => (w.heap.size ≤ k_) ∧ some k_ ≠ (u12 : Value).ownBlock ∧ some k_ ≠ (.slice (some ad261) t251.length co13 : Value).ownBlock ∧ some k_ ≠ (.slice (some ad265) t262.length co22 : Value).ownBlock ∧ some k_ ≠ (v270 : Value).ownBlock) (fun _ => False) rfl rfl ?aP (fun _ hk => hk.elim) ?aF ?aO ?aB ?aS ?aL ?_; (case aP => exact rfl); (case aB => exact bel_); (case aF => exact (fun k_ hk => ⟨(Nat.le_trans (below_size bel_) hk), Kd.fresh' (Kd.R_lt (vR_ HO_12.out)) k_ hk, Kd.fresh' (Kd.R_lt (vR_ HO_20.out)) k_ hk, Kd.fresh' (Kd.R_lt (vR_ HO_27.out)) k_ hk, Kd.fresh' (Kd.R_lt (vR_ HO271.out)) k_ hk⟩)); (case aO => exact (by refine vR_ ?_; exact Kd.R_mono HO_11.out (fun _ hk => ⟨hk.1.1, ⟨hk.1.2.1, ⟨hk.1.2.2.1, ⟨hk.1.2.2.2, hk.2⟩⟩⟩⟩))); (case aS => exact (below_size bel_)); (case aL => have := LMc31.out; omega); intro v273 w38 ho hb hg hat; rw [← Ny272.out] at ho; replace HO_12 := Aside0.mk (Kd.R_after (ok := (fun k_ => (w.heap.size ≤ k_) ∧ some k_ ≠ (.slice (some ad261) t251.length co13 : Value).ownBlock ∧ some k_ ≠ (.slice (some ad265) t262.length co22 : Value).ownBlock ∧ some k_ ≠ (v270 : Value).ownBlock)) (by refine vR_ ?_; exact Kd.R_mono HO_12.out (fun _ hk => ⟨⟨hk.1.1, ⟨hk.1.2.2.1, ⟨hk.1.2.2.2, hk.2⟩⟩⟩, hk.1.2.1⟩)) hg hat); replace HO_20 := Aside0.mk (Kd.R_after (ok := (fun k_ => (w.heap.size ≤ k_) ∧ some k_ ≠ (u12 : Value).ownBlock ∧ some k_ ≠ (.slice (some ad265) t262.length co22 : Value).ownBlock ∧ some k_ ≠ (v270 : Value).ownBlock)) (by refine vR_ ?_; exact Kd.R_mono HO_20.out (fun _ hk => ⟨⟨hk.1.1, ⟨hk.1.2.2.1, ⟨hk.1.2.2.2, hk.2⟩⟩⟩, hk.1.2.1⟩)) hg hat); replace HO_27 := Aside0.mk (Kd.R_after (ok := (fun k_ => (w.heap.size ≤ k_) ∧ some k_ ≠ (u12 : Value).ownBlock ∧ some k_ ≠ (.slice (some ad261) t251.length co13 : Value).ownBlock ∧ some k_ ≠ (v270 : Value).ownBlock)) (by refine vR_ ?_; exact Kd.R_mono HO_27.out (fun _ hk => ⟨⟨hk.1.1, ⟨hk.1.2.2.1, ⟨hk.1.2.2.2, hk.2⟩⟩⟩, hk.1.2.1⟩)) hg hat); replace BK248 := Aside0.mk (blk_grown (bk_ BK248.out) hg (Kd.R_ne HO_11.out BK248.out (by decide))); replace BK249 := Aside0.mk (blk_grown (bk_ BK249.out) hg (Kd.R_ne HO_11.out BK249.out (by decide))); replace BK250 := Aside0.mk (blk_grown (bk_ BK250.out) hg (Kd.R_ne HO_11.out BK250.out (by decide))); replace HO271 := Aside0.mk (Kd.R_after (ok := (fun k_ => (w.heap.size ≤ k_) ∧ some k_ ≠ (u12 : Value).ownBlock ∧ some k_ ≠ (.slice (some ad261) t251.length co13 : Value).ownBlock ∧ some k_ ≠ (.slice (some ad265) t262.length co22 : Value).ownBlock)) (by refine vR_ ?_; exact Kd.R_mono HO271.out (fun _ hk => ⟨⟨hk.1, ⟨hk.2.2.1, ⟨hk.2.2.2.1, hk.2.2.2.2⟩⟩⟩, hk.2.1⟩)) hg hat); replace HB := Aside0.mk (hb); have HO274 := Aside0.mk (ho); clear HO_11; clear ho hb hg hat) | ((with_reducible refine gate_builtin (b := .append) (xs := #[.tmp 54, .tmp 56]) rfl ?_); at_builtin; refine Kd.R_append (Kd.int .i64) (w0 := w) w.heap.size rfl (.tmp 54) (.tmp 56) 30 3 (.int .i64 0) 8 rfl Tryz.underlying30 info3 rfl (by decide) (by omega) u12 x12_2 t266 [.int .i64 t266] (fun k_ => (w.heap.size ≤ k_) ∧ some k_ ≠ (.slice (some ad261) t251.length co13 : Value).ownBlock ∧ some k_ ≠ (.slice (some ad265) t262.length co22 : Value).ownBlock ∧ some k_ ≠ (v270 : Value).ownBlock ∧ some k_ ≠ (v273 : Value).ownBlock) (fun _ => False) rfl rfl ?aP (fun _ hk => hk.elim) ?aF ?aO ?aB ?aS ?aL ?_; (case aP => exact rfl); (case aB => exact bel_); (case aF => exact (fun k_ hk => ⟨(Nat.le_trans (below_size bel_) hk), Kd.fresh' (Kd.R_lt (vR_ HO_20.out)) k_ hk, Kd.fresh' (Kd.R_lt (vR_ HO_27.out)) k_ hk, Kd.fresh' (Kd.R_lt (vR_ HO271.out)) k_ hk, Kd.fresh' (Kd.R_lt (vR_ HO274.out)) k_ hk⟩)); (case aO => exact (by refine vR_ ?_; exact Kd.R_mono HO_12.out (fun _ hk => ⟨hk.1.1, ⟨hk.1.2.1, ⟨hk.1.2.2.1, ⟨hk.1.2.2.2, hk.2⟩⟩⟩⟩))); (case aS => exact (below_size bel_)); (case aL => have := LMc32.out; omega); intro v276 w39 ho hb hg hat; rw [← Ny275.out] at ho; replace HO_20 := Aside0.mk (Kd.R_after (ok := (fun k_ => (w.heap.size ≤ k_) ∧ some k_ ≠ (.slice (some ad265) t262.length co22 : Value).ownBlock ∧ some k_ ≠ (v270 : Value).ownBlock ∧ some k_ ≠ (v273 : Value).ownBlock)) (by refine vR_ ?_; exact Kd.R_mono HO_20.out (fun _ hk => ⟨⟨hk.1.1, ⟨hk.1.2.2.1, ⟨hk.1.2.2.2, hk.2⟩⟩⟩, hk.1.2.1⟩)) hg hat); replace HO_27 := Aside0.mk (Kd.R_after (ok := (fun k_ => (w.heap.size ≤ k_) ∧ some k_ ≠ (.slice (some ad261) t251.length co13 : Value).ownBlock ∧ some k_ ≠ (v270 : Value).ownBlock ∧ some k_ ≠ (v273 : Value).ownBlock)) (by refine vR_ ?_; exact Kd.R_mono HO_27.out (fun _ hk => ⟨⟨hk.1.1, ⟨hk.1.2.2.1, ⟨hk.1.2.2.2, hk.2⟩⟩⟩, hk.1.2.1⟩)) hg hat); replace BK248 := Aside0.mk (blk_grown (bk_ BK248.out) hg (Kd.R_ne HO_12.out BK248.out (by decide))); replace BK249 := Aside0.mk (blk_grown (bk_ BK249.out) hg (Kd.R_ne HO_12.out BK249.out (by decide))); replace BK250 := Aside0.mk (blk_grown (bk_ BK250.out) hg (Kd.R_ne HO_12.out BK250.out (by decide))); replace HO271 := Aside0.mk (Kd.R_after (ok := (fun k_ => (w.heap.size ≤ k_) ∧ some k_ ≠ (.slice (some ad261) t251.length co13 : Value).ownBlock ∧ some k_ ≠ (.slice (some ad265) t262.length co22 : Value).ownBlock ∧ some k_ ≠ (v273 : Value).ownBlock)) (by refine vR_ ?_; exact Kd.R_mono HO271.out (fun _ hk => ⟨⟨hk.1.1, ⟨hk.1.2.2.1, ⟨hk.1.2.2.2, hk.2⟩⟩⟩, hk.1.2.1⟩)) hg hat); replace HO274 := Aside0.mk (Kd.R_after (ok := (fun k_ => (w.heap.size ≤ k_) ∧ some k_ ≠ (.slice (some ad261) t251.length co13 : Value).ownBlock ∧ some k_ ≠ (.slice (some ad265) t262.length co22 : Value).ownBlock ∧ some k_ ≠ (v270 : Value).ownBlock)) (by refine vR_ ?_; exact Kd.R_mono HO274.out (fun _ hk => ⟨⟨hk.1, ⟨hk.2.2.1, ⟨hk.2.2.2.1, hk.2.2.2.2⟩⟩⟩, hk.2.1⟩)) hg hat); replace HB := Aside0.mk (hb); have HO277 := Aside0.mk (ho); clear HO_12; clear ho hb hg hat))
                go_roundg k2
                case measure => have := HK1.out; have := HK2.out; omega
                case rel => exact ⟨(y269), (y272), (y275), (wrap64 (x29_2 + 1)), eq_, H', ⟨by have := HK1.out; have := HK2.out; omega⟩, ⟨by refine vR_ ?_; exact Kd.R_mono HO271.out (fun _ hk => ⟨hk.1.1, ⟨hk.1.2.2.2, ⟨hk.2, ⟨hk.1.2.1, hk.1.2.2.1⟩⟩⟩⟩)⟩, ⟨by refine vR_ ?_; exact Kd.R_mono HO274.out (fun _ hk => ⟨hk.1.1, ⟨hk.1.2.2.2, ⟨hk.2, ⟨hk.1.2.1, hk.1.2.2.1⟩⟩⟩⟩)⟩, ⟨by refine vR_ ?_; exact Kd.R_mono HO277.out (fun _ hk => ⟨hk.1, ⟨hk.2.2.2.1, ⟨hk.2.2.2.2, ⟨hk.2.1, hk.2.2.1⟩⟩⟩⟩)⟩, ⟨by refine vR_ ?_; exact Kd.R_mono HO_20.out (fun _ hk => ⟨hk.1.1, ⟨hk.1.2.2.1, ⟨hk.1.2.2.2, ⟨hk.2, hk.1.2.1⟩⟩⟩⟩)⟩, ⟨by refine vR_ ?_; exact Kd.R_mono HO_27.out (fun _ hk => ⟨hk.1.1, ⟨hk.1.2.2.1, ⟨hk.1.2.2.2, ⟨hk.2, hk.1.2.1⟩⟩⟩⟩)⟩, ⟨by refine bk_ ?_; exact BK248.out⟩, ⟨by refine bk_ ?_; exact BK249.out⟩, ⟨by refine bk_ ?_; exact BK250.out⟩, ⟨bel_⟩⟩
               ·
                rw [if_neg c32] at H
                exact absurd H (by simp)
              ·
               rw [if_neg c31] at H
               exact absurd H (by simp)
             ·
              rw [if_neg c30] at H
              exact absurd H (by simp)
            ·
             replace c29 := Bool.eq_false_iff.mpr c29
             subst c29
             have H1 : (prop_Pairs_at_num_Mul.l1 k2 x10_2 x11_2 x12_2 (rd t251 x22_1) t251 (t251.length : Int) x22_1 t262 (t262.length : Int) (wrap64 (x29_2 + 1)) a1_0 l1_1 a1_2 a1_3 a1_4 a2_0 l2_1 a2_2 a2_3 a2_4) = some (r1, r2) := by rw [if_neg (show ¬ (false = true) by decide)] at H; exact H
             clear H
             have H := H1
             clear H1
             have H' := Aside0.mk H
             clear H
             have p265 : 0 ≤ (x29_2 : Int) := dq_
             have q265 : x29_2 < (t262.length : Int) := dq_
             obtain ⟨ad265, e265, hx265_0⟩ := Kd.at_int (Kd.R_reads' HO_27.out).2.2 x29_2 p265 q265
             cases e265
             replace p265 := eq_true p265
             replace q265 := eq_true q265
             go_wp2_with (first | (go_at_call 30; (with_reducible refine (num_Mul.calls k2 (rd t251 x22_1) (rd t262 x29_2) t266 true _ A26.out).mono ?_); rintro e w' ⟨rfl, ⟨nd, rfl⟩⟩; have hnb40 := NB250_248.out; have hnc40 := NB248_250.out; have hnb41 := NB250_249.out; have hnc41 := NB249_250.out; obtain ⟨_, _, _, _, _, _, _, _, _, _⟩ := cel5_ BK250.out) | (go_at_call 25; (with_reducible refine (dom_Dom_Has.calls a2_0 _ _ l2_1 a2_2 a2_3 a2_4 t266 false _ ?side1 ?side2 A28.out).mono ?_); (case side1 => repeat (first | exact (Kd.C_below HR2_1.out bel_) | (with_reducible refine Kd.C_alloc ?_ _) | (with_reducible refine Kd.C_drewN ?_ _) | (with_reducible refine Kd.C_drew ?_))); (case side2 => exact HC2_1.out); rintro e w43 ⟨rfl, hb⟩; replace HO_10 := Aside0.mk (Kd.R_below (vR_ HO_10.out) hb); replace HO_11 := Aside0.mk (Kd.R_below (vR_ HO_11.out) hb); replace HO_12 := Aside0.mk (Kd.R_below (vR_ HO_12.out) hb); replace HO_20 := Aside0.mk (Kd.R_below (vR_ HO_20.out) hb); replace HO_27 := Aside0.mk (Kd.R_below (vR_ HO_27.out) hb); replace BK248 := Aside0.mk (blk_below (bk_ BK248.out) hb); replace BK249 := Aside0.mk (blk_below (bk_ BK249.out) hb); replace BK250 := Aside0.mk (blk_below (bk_ BK250.out) hb); replace HB := Aside0.mk (below_step bel_ hb); clear hb))
             go_roundg k2
             case measure => have := HK1.out; have := HK2.out; omega
             case rel => exact ⟨(x10_2), (x11_2), (x12_2), (wrap64 (x29_2 + 1)), eq_, H', ⟨by have := HK1.out; have := HK2.out; omega⟩, ⟨by refine vR_ ?_; exact HO_10.out⟩, ⟨by refine vR_ ?_; exact HO_11.out⟩, ⟨by refine vR_ ?_; exact HO_12.out⟩, ⟨by refine vR_ ?_; exact HO_20.out⟩, ⟨by refine vR_ ?_; exact HO_27.out⟩, ⟨by refine bk_ ?_; exact BK248.out⟩, ⟨by refine bk_ ?_; exact BK249.out⟩, ⟨by refine bk_ ?_; exact BK250.out⟩, ⟨bel_⟩⟩
           ·
            replace c27 := Bool.eq_false_iff.mpr c27
            subst c27
            have H1 : (prop_Pairs_at_num_Mul.l1 k2 x10_2 x11_2 x12_2 (rd t251 x22_1) t251 (t251.length : Int) x22_1 t262 (t262.length : Int) (wrap64 (x29_2 + 1)) a1_0 l1_1 a1_2 a1_3 a1_4 a2_0 l2_1 a2_2 a2_3 a2_4) = some (r1, r2) := by rw [if_neg (show ¬ (false = true) by decide)] at H; exact H
            clear H
            have H := H1
            clear H1
            have H' := Aside0.mk H
            clear H
            have p265 : 0 ≤ (x29_2 : Int) := dq_
            have q265 : x29_2 < (t262.length : Int) := dq_
            obtain ⟨ad265, e265, hx265_0⟩ := Kd.at_int (Kd.R_reads' HO_27.out).2.2 x29_2 p265 q265
            cases e265
            replace p265 := eq_true p265
            replace q265 := eq_true q265
            go_wp2_with (first | (go_at_call 30; (with_reducible refine (num_Mul.calls k2 (rd t251 x22_1) (rd t262 x29_2) t266 false _ A26.out).mono ?_); rintro e w' ⟨rfl, ⟨nd, rfl⟩⟩))
            go_roundg k2
            case measure => have := HK1.out; have := HK2.out; omega
            case rel => exact ⟨(x10_2), (x11_2), (x12_2), (wrap64 (x29_2 + 1)), eq_, H', ⟨by have := HK1.out; have := HK2.out; omega⟩, ⟨by refine vR_ ?_; exact HO_10.out⟩, ⟨by refine vR_ ?_; exact HO_11.out⟩, ⟨by refine vR_ ?_; exact HO_12.out⟩, ⟨by refine vR_ ?_; exact HO_20.out⟩, ⟨by refine vR_ ?_; exact HO_27.out⟩, ⟨by refine bk_ ?_; exact BK248.out⟩, ⟨by refine bk_ ?_; exact BK249.out⟩, ⟨by refine bk_ ?_; exact BK250.out⟩, ⟨bel_⟩⟩
          ·
           rw [if_neg c25] at H
           exact absurd H (by simp)
         ·
          rw [if_neg c24] at H
          exact absurd H (by simp)
        ·
         rw [if_neg c23] at H
         have c23b0 : decide (x29_2 < (t262.length : Int)) = false := decide_eq_false c23
         clear c23
         have H' := Aside0.mk H
         clear H
         go_wp2
         go_roundg k2
         case measure => have := HK1.out; have := HK2.out; omega
         case rel => exact ⟨(x10_2), (x11_2), (x12_2), (wrap64 (x22_1 + 1)), eq_, H', ⟨by have := HK1.out; have := HK2.out; omega⟩, ⟨by refine vR_ ?_; exact Kd.R_mono HO_10.out (fun _ hk => ⟨hk.1, ⟨hk.2.1, ⟨hk.2.2.1, hk.2.2.2.1⟩⟩⟩)⟩, ⟨by refine vR_ ?_; exact Kd.R_mono HO_11.out (fun _ hk => ⟨hk.1, ⟨hk.2.1, ⟨hk.2.2.1, hk.2.2.2.1⟩⟩⟩)⟩, ⟨by refine vR_ ?_; exact Kd.R_mono HO_12.out (fun _ hk => ⟨hk.1, ⟨hk.2.1, ⟨hk.2.2.1, hk.2.2.2.1⟩⟩⟩)⟩, ⟨by refine vR_ ?_; exact Kd.R_mono HO_20.out (fun _ hk => ⟨hk.1, ⟨hk.2.1, ⟨hk.2.2.1, hk.2.2.2.1⟩⟩⟩)⟩, ⟨by refine bk_ ?_; exact BK248.out⟩, ⟨by refine bk_ ?_; exact BK249.out⟩, ⟨by refine bk_ ?_; exact BK250.out⟩, ⟨bel_⟩⟩
     ·
      rw [if_neg c16] at H
      exact absurd H (by simp)
    ·
     rw [if_neg c15] at H
     exact absurd H (by simp)
   ·
    rw [if_neg c14] at H
    have c14b0 : decide (x22_1 < (t251.length : Int)) = false := decide_eq_false c14
    clear c14
    obtain ⟨y254, hy254⟩ : ∃ y_ : List (List Int), y_ = (([x10_1, x11_1, x12_1] : List (List Int))) := ⟨_, rfl⟩
    replace H : ((prop_Made.f k1 y254).bind fun bt257 => (some (bt257.1, bt257.2))) = some (r1, r2) := by first | (rw [hy254]; with_reducible exact H) | (have H2_ := (Option.bind_some _ _).symm.trans H; rw [hy254]; with_reducible exact H2_) | (have H2_ := (Option.bind_some _ _).symm.trans H; with_reducible exact H2_) | with_reducible exact H | (rw [hy254]; exact H) | exact H
    have Ny254 := Aside0.mk hy254
    clear hy254
    replace H := Option.bind_eq_some_iff.mp H
    obtain ⟨⟨t257, t260⟩, A440, H⟩ := H
    replace H : (some (t257, t260)) = some (r1, r2) := H
    have A44 := Aside0.mk A440
    clear A440
    simp only [Option.some.injEq, Prod.mk.injEq] at H
    obtain ⟨rfl, rfl⟩ := H
    obtain ⟨Ao45, co45, eo45⟩ := Kd.R_slice HO_10.out
    subst eo45
    obtain ⟨Ao46, co46, eo46⟩ := Kd.R_slice HO_11.out
    subst eo46
    obtain ⟨Ao47, co47, eo47⟩ := Kd.R_slice HO_12.out
    subst eo47
    go_wp2_with (first | ((with_reducible refine gate_dst (N := 63) rfl ?_); refine Kd.N_lit (Kd.slice 3 (Kd.int .i64)) _ 30 ?hg (N' := 63) ?hd (xs := ([x10_1, x11_1, x12_1] : List (List Int))) (inner := [.slice Ao45 x10_1.length co45, .slice Ao46 x11_1.length co46, .slice Ao47 x12_1.length co47]) (ok := (fun k_ => (w.heap.size ≤ k_) ∧ some k_ ≠ (.slice Ao13 t251.length co13 : Value).ownBlock ∧ k_ ≠ gb248 ∧ k_ ≠ gb249 ∧ k_ ≠ gb250)) (okp := (fun k_ => (w.heap.size ≤ k_) ∧ some k_ ≠ (.slice Ao13 t251.length co13 : Value).ownBlock ∧ k_ ≠ gb248 ∧ k_ ≠ gb249 ∧ k_ ≠ gb250)) ?hr ?hp (fun _ hk => hk) ((show ∀ k_, wr.heap.size ≤ k_ → (fun k_ => (w.heap.size ≤ k_) ∧ some k_ ≠ (.slice Ao13 t251.length co13 : Value).ownBlock ∧ k_ ≠ gb248 ∧ k_ ≠ gb249 ∧ k_ ≠ gb250) k_ from fun k_ hk => ⟨(Nat.le_trans (below_size bel_) hk), Kd.fresh' (Kd.R_lt (vR_ HO_20.out)) k_ hk, Kd.freshB (bk_ BK248.out) k_ hk, Kd.freshB (bk_ BK249.out) k_ hk, Kd.freshB (bk_ BK250.out) k_ hk⟩) _ (Nat.le_refl _)) (Below.refl _ _) (Nat.le_refl _) (by simp) ?_; (case hd => rfl); (case hg => rfl); (case hr => first | (go_simp; done) | (go_simp; rfl)); (case hp => exact (Reps.one (show Kd.FK (Kd.slice 3 (Kd.int .i64)) _ _ x10_1 [.slice Ao45 x10_1.length co45] from (Kd.FK_slice_mk (Kd.R_reads' (Kd.R_mono (ok' := (fun k_ => (w.heap.size ≤ k_) ∧ some k_ ≠ (.slice Ao13 t251.length co13 : Value).ownBlock ∧ k_ ≠ gb248 ∧ k_ ≠ gb249 ∧ k_ ≠ gb250)) (Kd.R_types (Kd.R_types (Kd.R_types (HO_10.out) BK248.out (by decide)) BK249.out (by decide)) BK250.out (by decide)) (fun k_ hk => ⟨hk.1.1.1.1, ⟨hk.1.1.1.2.2.2, ⟨hk.1.1.2, ⟨hk.1.2, hk.2⟩⟩⟩⟩))).2.1 (Kd.R_F (Kd.R_mono (ok' := (fun k_ => (w.heap.size ≤ k_) ∧ some k_ ≠ (.slice Ao13 t251.length co13 : Value).ownBlock ∧ k_ ≠ gb248 ∧ k_ ≠ gb249 ∧ k_ ≠ gb250)) (Kd.R_types (Kd.R_types (Kd.R_types (HO_10.out) BK248.out (by decide)) BK249.out (by decide)) BK250.out (by decide)) (fun k_ hk => ⟨hk.1.1.1.1, ⟨hk.1.1.1.2.2.2, ⟨hk.1.1.2, ⟨hk.1.2, hk.2⟩⟩⟩⟩))))) (Reps.one (show Kd.FK (Kd.slice 3 (Kd.int .i64)) _ _ x11_1 [.slice Ao46 x11_1.length co46] from (Kd.FK_slice_mk (Kd.R_reads' (Kd.R_mono (ok' := (fun k_ => (w.heap.size ≤ k_) ∧ some k_ ≠ (.slice Ao13 t251.length co13 : Value).ownBlock ∧ k_ ≠ gb248 ∧ k_ ≠ gb249 ∧ k_ ≠ gb250)) (Kd.R_types (Kd.R_types (Kd.R_types (HO_11.out) BK248.out (by decide)) BK249.out (by decide)) BK250.out (by decide)) (fun k_ hk => ⟨hk.1.1.1.1, ⟨hk.1.1.1.2.2.2, ⟨hk.1.1.2, ⟨hk.1.2, hk.2⟩⟩⟩⟩))).2.1 (Kd.R_F (Kd.R_mono (ok' := (fun k_ => (w.heap.size ≤ k_) ∧ some k_ ≠ (.slice Ao13 t251.length co13 : Value).ownBlock ∧ k_ ≠ gb248 ∧ k_ ≠ gb249 ∧ k_ ≠ gb250)) (Kd.R_types (Kd.R_types (Kd.R_types (HO_11.out) BK248.out (by decide)) BK249.out (by decide)) BK250.out (by decide)) (fun k_ hk => ⟨hk.1.1.1.1, ⟨hk.1.1.1.2.2.2, ⟨hk.1.1.2, ⟨hk.1.2, hk.2⟩⟩⟩⟩))))) (Reps.one (show Kd.FK (Kd.slice 3 (Kd.int .i64)) _ _ x12_1 [.slice Ao47 x12_1.length co47] from (Kd.FK_slice_mk (Kd.R_reads' (Kd.R_mono (ok' := (fun k_ => (w.heap.size ≤ k_) ∧ some k_ ≠ (.slice Ao13 t251.length co13 : Value).ownBlock ∧ k_ ≠ gb248 ∧ k_ ≠ gb249 ∧ k_ ≠ gb250)) (Kd.R_types (Kd.R_types (Kd.R_types (HO_12.out) BK248.out (by decide)) BK249.out (by decide)) BK250.out (by decide)) (fun k_ hk => ⟨hk.1.1.1.1, ⟨hk.1.1.1.2.2.2, ⟨hk.1.1.2, ⟨hk.1.2, hk.2⟩⟩⟩⟩))).2.1 (Kd.R_F (Kd.R_mono (ok' := (fun k_ => (w.heap.size ≤ k_) ∧ some k_ ≠ (.slice Ao13 t251.length co13 : Value).ownBlock ∧ k_ ≠ gb248 ∧ k_ ≠ gb249 ∧ k_ ≠ gb250)) (Kd.R_types (Kd.R_types (Kd.R_types (HO_12.out) BK248.out (by decide)) BK249.out (by decide)) BK250.out (by decide)) (fun k_ hk => ⟨hk.1.1.1.1, ⟨hk.1.1.1.2.2.2, ⟨hk.1.1.2, ⟨hk.1.2, hk.2⟩⟩⟩⟩))))) (Reps.none _ _))))); intro v255 w48 ho49 hb hg_ hnew_; clear hg_ hnew_; (first | rw [← Ny254.out] at ho49 | (simp only [Int.reduceToNat] at ho49; rw [← Ny254.out] at ho49)); replace HO_20 := Aside0.mk (Kd.R_below (vR_ HO_20.out) hb); have HO256 := Aside0.mk (Kd.N_lower ho49 (below_size bel_)); replace BK248 := Aside0.mk (blk_below (bk_ BK248.out) hb); replace BK249 := Aside0.mk (blk_below (bk_ BK249.out) hb); replace BK250 := Aside0.mk (blk_below (bk_ BK250.out) hb); replace HB := Aside0.mk (below_step bel_ hb); clear HO_10 HO_11 HO_12; clear hb ho49; obtain ⟨Ao50, co50, eo50⟩ := Kd.N_slice HO256.out; subst eo50) | ((with_reducible refine gate_callee (f := 69) rfl ?_); refine goesL_ (some 64) rfl rfl Tryz.func69 (by kernel_rfl) rfl #[.slice Ao50 y254.length co50] rfl ar_ ?_; (with_reducible refine (prop_Made.calls k1 _ _ y254 t257 t260 _ ?_ ?_ ?_ A44.out).mono ?_); exact ca_ ((Kd.N_reads' HO256.out).2.2); exact (Kd.N_reads' HO256.out).2.1; exact ca_ ((Kd.C_below HRtab.out HB.out)); rintro e w51 ⟨v258, rfl, ho0, hb⟩; refine ⟨_, rfl, ?_⟩; have HO259 := Aside0.mk (Kd.N_lower (Kd.N_mono (ok' := fun k_ => (w.heap.size ≤ k_) ∧ some k_ ≠ (.slice Ao13 t251.length co13 : Value).ownBlock ∧ some k_ ≠ (.slice Ao50 y254.length co50 : Value).ownBlock ∧ k_ ≠ gb248 ∧ k_ ≠ gb249 ∧ k_ ≠ gb250) ho0 (fun k_ hk_ => ⟨(Nat.le_trans (below_size bel_) hk_), (Kd.fresh' (Kd.R_lt (vR_ HO_20.out)) k_ hk_), (Kd.fresh' (Kd.N_lt (vN_ HO256.out)) k_ hk_), (Kd.freshB (bk_ BK248.out) k_ hk_), (Kd.freshB (bk_ BK249.out) k_ hk_), (Kd.freshB (bk_ BK250.out) k_ hk_)⟩)) (below_size bel_)); replace HB := Aside0.mk (below_step bel_ hb); clear hb ho0))
    go_ret2
    exact ⟨_, by first | rfl | (simp [errW_none, errW_some] <;> rfl) | (simp [*, errW_none, errW_some] <;> rfl), by refine vN_ ?_; exact Kd.N_mono HO259.out (fun _ hk => hk.1), bel_⟩

end Go.Proofs.YtbhhbgoamomacaaGreatDoor.XMulFixed
