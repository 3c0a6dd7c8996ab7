-- by xprint.py, a program of this session, over the kit's print
import Derived.Test.YtmhchlbbfpmdgaaGreatDoorXCKex0
import Derived.Test.YtmhchlbbfpmdgaaGreatDoorSq
namespace Go.Proofs.YtmhchlbbfpmdgaaGreatDoor.XClauseKeeps
open Go.RowKit Go.Proofs.YtmhchlbbfpmdgaaGreatDoor.Sq Go.Proofs.YtmhchlbbfpmdgaaGreatDoorW.PrintWords Go.Proofs.YtmhchlbbfpmdgaaGreatDoorW.PrintLast Go.Proofs.YtmhchlbbfpmdgaaGreatDoorW.PrintMore
attribute [local go_sem] max2_int min2_int max_two min_two max_three min_three max_four min_four   -- for this text's walks alone
set_option linter.unusedVariables false
set_option linter.unusedSimpArgs false

/-! ### jigsawref10_Local: function 20 -/
mutual
def jigsawref10_Local.l0 : Nat → Int → Int → List Int → List Int → List Int → List Int → List Int → Int → List (List Int) → Int → List Int → List Int → List Int → List Int → Int → List (List Int) → Option (Int × List Int × List Int × List Int × List Int × List Int × Int × (List (List Int)))
 | 0, _, _, _, _, _, _, _, _, _, _, _, _, _, _, _, _ => none
 | k + 1, x4, x496000, x496001, x496002, x496003, x496004, x496005, x496006, x496007, x498000, x498001, x498003, x498004, x498005, x498006, x498007 => if x4 < (x496001.length : Int) then (if x498001.length < 17592186044416 then (jigsawref10_Local.l0 k (wrap64 (x4 + 1)) x496000 x496001 x496002 x496003 x496004 x496005 x496006 x496007 x498000 (x498001 ++ [x4]) x498003 x498004 x498005 x498006 x498007) else (none)) else (jigsawref10_Local.l1 k 0 x496000 x496001 x496002 x496003 x496004 x496005 x496006 x496007 x498000 x498001 ([] : List Int) x498003 x498004 x498005 x498006 x498007)
def jigsawref10_Local.l1 : Nat → Int → Int → List Int → List Int → List Int → List Int → List Int → Int → List (List Int) → Int → List Int → List Int → List Int → List Int → List Int → Int → List (List Int) → Option (Int × List Int × List Int × List Int × List Int × List Int × Int × (List (List Int)))
 | 0, _, _, _, _, _, _, _, _, _, _, _, _, _, _, _, _, _ => none
 | k + 1, x5, x496000, x496001, x496002, x496003, x496004, x496005, x496006, x496007, x498000, x498001, x498002, x498003, x498004, x498005, x498006, x498007 => if x5 < (x496002.length : Int) then (if x498002.length < 17592186044416 then (jigsawref10_Local.l1 k (wrap64 (x5 + 1)) x496000 x496001 x496002 x496003 x496004 x496005 x496006 x496007 x498000 x498001 (x498002 ++ [wrap64 ((x496001.length : Int) + x5)]) x498003 x498004 x498005 x498006 x498007) else (none)) else (some (x498000, x498001, x498002, x498003, x498004, x498005, x498006, x498007))
end
def jigsawref10_Local.f (k : Nat) (a0_0 : Int) (l0_1 : List Int) (l0_2 : List Int) (l0_3 : List Int) (l0_4 : List Int) (l0_5 : List Int) (a0_6 : Int) (l0_7 : List (List Int)) : Option (Int × List Int × List Int × List Int × List Int × List Int × Int × (List (List Int))) := jigsawref10_Local.l0 k 0 a0_0 l0_1 l0_2 l0_3 l0_4 l0_5 a0_6 l0_7 a0_0 ([] : List Int) l0_3 l0_4 l0_5 a0_6 l0_7
theorem jigsawref10_Local.mono_l : ∀ k, (∀ y0 y1 y2 y3 y4 y5 y6 y7 y8 y9 y10 y11 y12 y13 y14 y15, LeO (jigsawref10_Local.l0 k y0 y1 y2 y3 y4 y5 y6 y7 y8 y9 y10 y11 y12 y13 y14 y15) (jigsawref10_Local.l0 (k + 1) y0 y1 y2 y3 y4 y5 y6 y7 y8 y9 y10 y11 y12 y13 y14 y15)) ∧ (∀ y0 y1 y2 y3 y4 y5 y6 y7 y8 y9 y10 y11 y12 y13 y14 y15 y16, LeO (jigsawref10_Local.l1 k y0 y1 y2 y3 y4 y5 y6 y7 y8 y9 y10 y11 y12 y13 y14 y15 y16) (jigsawref10_Local.l1 (k + 1) y0 y1 y2 y3 y4 y5 y6 y7 y8 y9 y10 y11 y12 y13 y14 y15 y16))
 | 0 => ⟨fun _ _ _ _ _ _ _ _ _ _ _ _ _ _ _ _ r h => by simp [jigsawref10_Local.l0] at h, fun _ _ _ _ _ _ _ _ _ _ _ _ _ _ _ _ _ r h => by simp [jigsawref10_Local.l1] at h⟩
 | k + 1 => by
  obtain ⟨ih0, ih1⟩ := jigsawref10_Local.mono_l k
  refine ⟨?_, ?_⟩
  ·
   intro y0 y1 y2 y3 y4 y5 y6 y7 y8 y9 y10 y11 y12 y13 y14 y15
   unfold jigsawref10_Local.l0
   exact leo_
  ·
   intro y0 y1 y2 y3 y4 y5 y6 y7 y8 y9 y10 y11 y12 y13 y14 y15 y16
   unfold jigsawref10_Local.l1
   exact leo_
theorem jigsawref10_Local.mono : ∀ a0 a1 a2 a3 a4 a5 a6 a7 k, LeO (jigsawref10_Local.f k a0 a1 a2 a3 a4 a5 a6 a7) (jigsawref10_Local.f (k + 1) a0 a1 a2 a3 a4 a5 a6 a7) := by
 intro a0 a1 a2 a3 a4 a5 a6 a7 k
 obtain ⟨ih0, ih1⟩ := jigsawref10_Local.mono_l k
 unfold jigsawref10_Local.f
 exact leo_
set_option maxHeartbeats 8000000 in
set_option maxRecDepth 100000 in
theorem jigsawref10_Local.calls (k : Nat) (a0_0 : Int) (A0_1 : Option Addr) (c0_1 : Nat) (l0_1 : List Int) (A0_2 : Option Addr) (c0_2 : Nat) (l0_2 : List Int) (P0_3_ : Nat → Prop) (A0_3 : Option Addr) (c0_3 : Nat) (l0_3 : List Int) (P0_4_ : Nat → Prop) (A0_4 : Option Addr) (c0_4 : Nat) (l0_4 : List Int) (P0_5_ : Nat → Prop) (A0_5 : Option Addr) (c0_5 : Nat) (l0_5 : List Int) (a0_6 : Int) (P0_7_ : Nat → Prop) (A0_7 : Option Addr) (c0_7 : Nat) (l0_7 : List (List Int)) (r1 : Int) (r2 : List Int) (r3 : List Int) (r4 : List Int) (r5 : List Int) (r6 : List Int) (r7 : Int) (r8 : List (List Int)) (w : World) (hr0_1 : Kd.C (Kd.int .i64) w A0_1 l0_1.length l0_1) (hc0_1 : l0_1.length ≤ c0_1) (hr0_2 : Kd.C (Kd.int .i64) w A0_2 l0_2.length l0_2) (hc0_2 : l0_2.length ≤ c0_2) (hs0_3 : Kd.V (Kd.int .i64) 3 w w.heap.size (fun k_ => P0_3_ k_) (.slice A0_3 l0_3.length c0_3) l0_3) (hs0_4 : Kd.V (Kd.int .i64) 3 w w.heap.size (fun k_ => P0_4_ k_) (.slice A0_4 l0_4.length c0_4) l0_4) (hs0_5 : Kd.V (Kd.int .i64) 3 w w.heap.size (fun k_ => P0_5_ k_) (.slice A0_5 l0_5.length c0_5) l0_5) (hs0_7 : Kd.V (Kd.slice 3 (Kd.int .i64)) 30 w w.heap.size (fun k_ => P0_7_ k_) (.slice A0_7 l0_7.length c0_7) l0_7) (h : jigsawref10_Local.f k a0_0 l0_1 l0_2 l0_3 l0_4 l0_5 a0_6 l0_7 = some (r1, r2, r3, r4, r5, r6, r7, r8)) :
  Calls Tryz.prog 20 #[.agg #[.int .i64 a0_0, .slice A0_1 l0_1.length c0_1, .slice A0_2 l0_2.length c0_2, .slice A0_3 l0_3.length c0_3, .slice A0_4 l0_4.length c0_4, .slice A0_5 l0_5.length c0_5, .int .i64 a0_6, .slice A0_7 l0_7.length c0_7]] w fun e w' => ∃ v1_ v2_ v3_ v4_ v5_ v7_ : Value, e = .returned (.agg #[.int .i64 r1, v1_, v2_, v3_, v4_, v5_, .int .i64 r7, v7_]) ∧ Kd.R (Kd.int .i64) 3 w' w.heap.size (fun k_ => (w.heap.size ≤ k_) ∧ some k_ ≠ (v2_ : Value).ownBlock) v1_ r2 ∧ Kd.R (Kd.int .i64) 3 w' w.heap.size (fun k_ => (w.heap.size ≤ k_) ∧ some k_ ≠ (v1_ : Value).ownBlock) v2_ r3 ∧ Kd.V (Kd.int .i64) 3 w' w.heap.size (fun k_ => ((P0_3_ k_ ∨ P0_4_ k_ ∨ P0_5_ k_ ∨ P0_7_ k_) ∨ w.heap.size ≤ k_) ∧ some k_ ≠ (v1_ : Value).ownBlock ∧ some k_ ≠ (v2_ : Value).ownBlock) v3_ r4 ∧ Kd.V (Kd.int .i64) 3 w' w.heap.size (fun k_ => ((P0_3_ k_ ∨ P0_4_ k_ ∨ P0_5_ k_ ∨ P0_7_ k_) ∨ w.heap.size ≤ k_) ∧ some k_ ≠ (v1_ : Value).ownBlock ∧ some k_ ≠ (v2_ : Value).ownBlock) v4_ r5 ∧ Kd.V (Kd.int .i64) 3 w' w.heap.size (fun k_ => ((P0_3_ k_ ∨ P0_4_ k_ ∨ P0_5_ k_ ∨ P0_7_ k_) ∨ w.heap.size ≤ k_) ∧ some k_ ≠ (v1_ : Value).ownBlock ∧ some k_ ≠ (v2_ : Value).ownBlock) v5_ r6 ∧ Kd.V (Kd.slice 3 (Kd.int .i64)) 30 w' w.heap.size (fun k_ => ((P0_3_ k_ ∨ P0_4_ k_ ∨ P0_5_ k_ ∨ P0_7_ k_) ∨ w.heap.size ≤ k_) ∧ some k_ ≠ (v1_ : Value).ownBlock ∧ some k_ ≠ (v2_ : Value).ownBlock) v7_ r8 ∧ Below w.heap.size w w' := by
 have hu32 := Tryz.underlying32
 have HC0_1 := Aside0.mk hc0_1
 clear hr0_1 hc0_1
 have HC0_2 := Aside0.mk hc0_2
 clear hr0_2 hc0_2
 have HO0_3 := Aside0.mk (show Kd.V (Kd.int .i64) 3 w w.heap.size (fun k_ => ((P0_3_ k_ ∨ P0_4_ k_ ∨ P0_5_ k_ ∨ P0_7_ k_) ∨ w.heap.size ≤ k_)) (.slice A0_3 l0_3.length c0_3) l0_3 from Kd.V_mono hs0_3 (fun k_ hk => .inl (.inl hk)))
 have HO0_4 := Aside0.mk (show Kd.V (Kd.int .i64) 3 w w.heap.size (fun k_ => ((P0_3_ k_ ∨ P0_4_ k_ ∨ P0_5_ k_ ∨ P0_7_ k_) ∨ w.heap.size ≤ k_)) (.slice A0_4 l0_4.length c0_4) l0_4 from Kd.V_mono hs0_4 (fun k_ hk => .inl (.inr (.inl hk))))
 have HO0_5 := Aside0.mk (show Kd.V (Kd.int .i64) 3 w w.heap.size (fun k_ => ((P0_3_ k_ ∨ P0_4_ k_ ∨ P0_5_ k_ ∨ P0_7_ k_) ∨ w.heap.size ≤ k_)) (.slice A0_5 l0_5.length c0_5) l0_5 from Kd.V_mono hs0_5 (fun k_ hk => .inl (.inr (.inr (.inl hk)))))
 have HO0_7 := Aside0.mk (show Kd.V (Kd.slice 3 (Kd.int .i64)) 30 w w.heap.size (fun k_ => ((P0_3_ k_ ∨ P0_4_ k_ ∨ P0_5_ k_ ∨ P0_7_ k_) ∨ w.heap.size ≤ k_)) (.slice A0_7 l0_7.length c0_7) l0_7 from Kd.V_mono hs0_7 (fun k_ hk => .inl (.inr (.inr (.inr hk)))))
 have HB := Aside0.mk (Below.refl w.heap.size w)
 have H : (jigsawref10_Local.l0 k 0 a0_0 l0_1 l0_2 l0_3 l0_4 l0_5 a0_6 l0_7 a0_0 ([] : List Int) l0_3 l0_4 l0_5 a0_6 l0_7) = some (r1, r2, r3, r4, r5, r6, r7, r8) := h
 clear h
 have H' := Aside0.mk H
 clear H
 go_enter Tryz.func20, Tryz.ntmps20
 go_wp2_with (first | ((with_reducible refine gate_dst (N := 1) rfl ?_); refine bxe_ (N := 1) (cs := #[.int .i64 a0_0, .slice A0_1 l0_1.length c0_1, .slice A0_2 l0_2.length c0_2, .slice A0_3 l0_3.length c0_3, .slice A0_4 l0_4.length c0_4, .slice A0_5 l0_5.length c0_5, .int .i64 a0_6, .slice A0_7 l0_7.length c0_7]) (t := 32) ?_; intro gb495 hg w2 hbox hb; replace HO0_3 := Aside0.mk (Kd.V_below (Kd.V_elderB (vV_ HO0_3.out) gb495 (Nat.le_of_eq hg.symm)) hb); replace HO0_4 := Aside0.mk (Kd.V_below (Kd.V_elderB (vV_ HO0_4.out) gb495 (Nat.le_of_eq hg.symm)) hb); replace HO0_5 := Aside0.mk (Kd.V_below (Kd.V_elderB (vV_ HO0_5.out) gb495 (Nat.le_of_eq hg.symm)) hb); replace HO0_7 := Aside0.mk (Kd.V_below (Kd.V_elderB (vV_ HO0_7.out) gb495 (Nat.le_of_eq hg.symm)) hb); have BK495 := Aside0.mk (hbox); have GW495 := Aside0.mk (by rw [hg]; exact (below_size bel_) : w.heap.size ≤ gb495); have GE495 := GW495; replace HB := Aside0.mk (below_step bel_ hb); clear hb hbox hg) | ((with_reducible refine gate_dst (N := 2) rfl ?_); refine bxe_ (N := 2) (cs := #[.int .i64 0, .slice none 0 0, .slice none 0 0, .slice none 0 0, .slice none 0 0, .slice none 0 0, .int .i64 0, .slice none 0 0]) (t := 32) ?_; intro gb496 hg w3 hbox hb; replace HO0_3 := Aside0.mk (Kd.V_below (Kd.V_elderB (vV_ HO0_3.out) gb496 (Nat.le_of_eq hg.symm)) hb); replace HO0_4 := Aside0.mk (Kd.V_below (Kd.V_elderB (vV_ HO0_4.out) gb496 (Nat.le_of_eq hg.symm)) hb); replace HO0_5 := Aside0.mk (Kd.V_below (Kd.V_elderB (vV_ HO0_5.out) gb496 (Nat.le_of_eq hg.symm)) hb); replace HO0_7 := Aside0.mk (Kd.V_below (Kd.V_elderB (vV_ HO0_7.out) gb496 (Nat.le_of_eq hg.symm)) hb); have BK496 := Aside0.mk (hbox); have GW496 := Aside0.mk (by rw [hg]; exact (below_size bel_) : w.heap.size ≤ gb496); have GE496 := GW496; replace HB := Aside0.mk (below_step bel_ hb); have NB495_496 := Aside0.mk ((by rw [hg]; exact Nat.ne_of_lt (blk_lt (bk_ BK495.out)) : gb495 ≠ gb496)); have NB496_495 := Aside0.mk ((by rw [hg]; exact Nat.ne_of_gt (blk_lt (bk_ BK495.out)) : gb496 ≠ gb495)); replace BK495 := Aside0.mk (blk_below (bk_ BK495.out) hb); clear hb hbox hg; have hnb4 := NB495_496.out; have hnc4 := NB496_495.out; obtain ⟨hcz5_0, hcz5_1, hcz5_2, hcz5_3, hcz5_4, hcz5_5, hcz5_6, hcz5_7, hfz5_0, hfz5_1, hfz5_2, hfz5_3, hfz5_4, hfz5_5, hfz5_6, hfz5_7⟩ := cel8_ BK495.out) | ((with_reducible refine gate_dst (N := 3) rfl ?_); refine bxe_ (N := 3) (cs := #[.int .i64 0, .slice none 0 0, .slice none 0 0, .slice none 0 0, .slice none 0 0, .slice none 0 0, .int .i64 0, .slice none 0 0]) (t := 32) ?_; intro gb497 hg w6 hbox hb; replace HO0_3 := Aside0.mk (Kd.V_below (Kd.V_elderB (vV_ HO0_3.out) gb497 (Nat.le_of_eq hg.symm)) hb); replace HO0_4 := Aside0.mk (Kd.V_below (Kd.V_elderB (vV_ HO0_4.out) gb497 (Nat.le_of_eq hg.symm)) hb); replace HO0_5 := Aside0.mk (Kd.V_below (Kd.V_elderB (vV_ HO0_5.out) gb497 (Nat.le_of_eq hg.symm)) hb); replace HO0_7 := Aside0.mk (Kd.V_below (Kd.V_elderB (vV_ HO0_7.out) gb497 (Nat.le_of_eq hg.symm)) hb); have BK497 := Aside0.mk (hbox); have GW497 := Aside0.mk (by rw [hg]; exact (below_size bel_) : w.heap.size ≤ gb497); have GE497 := GW497; replace HB := Aside0.mk (below_step bel_ hb); have NB495_497 := Aside0.mk ((by rw [hg]; exact Nat.ne_of_lt (blk_lt (bk_ BK495.out)) : gb495 ≠ gb497)); have NB497_495 := Aside0.mk ((by rw [hg]; exact Nat.ne_of_gt (blk_lt (bk_ BK495.out)) : gb497 ≠ gb495)); replace BK495 := Aside0.mk (blk_below (bk_ BK495.out) hb); have NB496_497 := Aside0.mk ((by rw [hg]; exact Nat.ne_of_lt (blk_lt (bk_ BK496.out)) : gb496 ≠ gb497)); have NB497_496 := Aside0.mk ((by rw [hg]; exact Nat.ne_of_gt (blk_lt (bk_ BK496.out)) : gb497 ≠ gb496)); replace BK496 := Aside0.mk (blk_below (bk_ BK496.out) hb); clear hb hbox hg; have hnb7 := NB497_495.out; have hnc7 := NB495_497.out; have hnb8 := NB497_496.out; have hnc8 := NB496_497.out; obtain ⟨hcz9_0, hcz9_1, hcz9_2, hcz9_3, hcz9_4, hcz9_5, hcz9_6, hcz9_7, hfz9_0, hfz9_1, hfz9_2, hfz9_3, hfz9_4, hfz9_5, hfz9_6, hfz9_7⟩ := cel8_ BK497.out))
 go_loopg [4] k (fun kq v4 w' => ∃ (x4_1 : Int) (x498001_1 : List Int) (u498001 : Value), v4 = .int .i64 x4_1 ∧ Aside0 (jigsawref10_Local.l0 kq x4_1 a0_0 l0_1 l0_2 l0_3 l0_4 l0_5 a0_6 l0_7 a0_0 x498001_1 l0_3 l0_4 l0_5 a0_6 l0_7 = some (r1, r2, r3, r4, r5, r6, r7, r8)) ∧ Aside0 (kq ≤ k) ∧ Aside0 (Kd.V (Kd.int .i64) 3 w' w.heap.size (fun k_ => ((P0_3_ k_ ∨ P0_4_ k_ ∨ P0_5_ k_ ∨ P0_7_ k_) ∨ w.heap.size ≤ k_) ∧ some k_ ≠ (u498001 : Value).ownBlock ∧ k_ ≠ gb495 ∧ k_ ≠ gb496 ∧ k_ ≠ gb497) (.slice A0_3 l0_3.length c0_3) l0_3) ∧ Aside0 (Kd.V (Kd.int .i64) 3 w' w.heap.size (fun k_ => ((P0_3_ k_ ∨ P0_4_ k_ ∨ P0_5_ k_ ∨ P0_7_ k_) ∨ w.heap.size ≤ k_) ∧ some k_ ≠ (u498001 : Value).ownBlock ∧ k_ ≠ gb495 ∧ k_ ≠ gb496 ∧ k_ ≠ gb497) (.slice A0_4 l0_4.length c0_4) l0_4) ∧ Aside0 (Kd.V (Kd.int .i64) 3 w' w.heap.size (fun k_ => ((P0_3_ k_ ∨ P0_4_ k_ ∨ P0_5_ k_ ∨ P0_7_ k_) ∨ w.heap.size ≤ k_) ∧ some k_ ≠ (u498001 : Value).ownBlock ∧ k_ ≠ gb495 ∧ k_ ≠ gb496 ∧ k_ ≠ gb497) (.slice A0_5 l0_5.length c0_5) l0_5) ∧ Aside0 (Kd.V (Kd.slice 3 (Kd.int .i64)) 30 w' w.heap.size (fun k_ => ((P0_3_ k_ ∨ P0_4_ k_ ∨ P0_5_ k_ ∨ P0_7_ k_) ∨ w.heap.size ≤ k_) ∧ some k_ ≠ (u498001 : Value).ownBlock ∧ k_ ≠ gb495 ∧ k_ ≠ gb496 ∧ k_ ≠ gb497) (.slice A0_7 l0_7.length c0_7) l0_7) ∧ Aside0 (Kd.R (Kd.int .i64) 3 w' w.heap.size (fun k_ => (w.heap.size ≤ k_)) u498001 x498001_1) ∧ Aside0 (Kd.V (Kd.int .i64) 3 w' w.heap.size (fun k_ => ((P0_3_ k_ ∨ P0_4_ k_ ∨ P0_5_ k_ ∨ P0_7_ k_) ∨ w.heap.size ≤ k_) ∧ some k_ ≠ (u498001 : Value).ownBlock ∧ k_ ≠ gb495 ∧ k_ ≠ gb496 ∧ k_ ≠ gb497) (.slice A0_3 l0_3.length c0_3) l0_3) ∧ Aside0 (Kd.V (Kd.int .i64) 3 w' w.heap.size (fun k_ => ((P0_3_ k_ ∨ P0_4_ k_ ∨ P0_5_ k_ ∨ P0_7_ k_) ∨ w.heap.size ≤ k_) ∧ some k_ ≠ (u498001 : Value).ownBlock ∧ k_ ≠ gb495 ∧ k_ ≠ gb496 ∧ k_ ≠ gb497) (.slice A0_4 l0_4.length c0_4) l0_4) ∧ Aside0 (Kd.V (Kd.int .i64) 3 w' w.heap.size (fun k_ => ((P0_3_ k_ ∨ P0_4_ k_ ∨ P0_5_ k_ ∨ P0_7_ k_) ∨ w.heap.size ≤ k_) ∧ some k_ ≠ (u498001 : Value).ownBlock ∧ k_ ≠ gb495 ∧ k_ ≠ gb496 ∧ k_ ≠ gb497) (.slice A0_5 l0_5.length c0_5) l0_5) ∧ Aside0 (Kd.V (Kd.slice 3 (Kd.int .i64)) 30 w' w.heap.size (fun k_ => ((P0_3_ k_ ∨ P0_4_ k_ ∨ P0_5_ k_ ∨ P0_7_ k_) ∨ w.heap.size ≤ k_) ∧ some k_ ≠ (u498001 : Value).ownBlock ∧ k_ ≠ gb495 ∧ k_ ≠ gb496 ∧ k_ ≠ gb497) (.slice A0_7 l0_7.length c0_7) l0_7) ∧ Aside0 (w'.heap[gb495]? = some (.cells #[.int .i64 a0_0, (.slice A0_1 l0_1.length c0_1), (.slice A0_2 l0_2.length c0_2), (.slice A0_3 l0_3.length c0_3), (.slice A0_4 l0_4.length c0_4), (.slice A0_5 l0_5.length c0_5), .int .i64 a0_6, (.slice A0_7 l0_7.length c0_7)] 32 (0, 0))) ∧ Aside0 (w'.heap[gb496]? = some (.cells #[.int .i64 0, (.slice none 0 0), (.slice none 0 0), (.slice none 0 0), (.slice none 0 0), (.slice none 0 0), .int .i64 0, (.slice none 0 0)] 32 (0, 0))) ∧ Aside0 (w'.heap[gb497]? = some (.cells #[.int .i64 a0_0, u498001, (.slice none 0 0), (.slice A0_3 l0_3.length c0_3), (.slice A0_4 l0_4.length c0_4), (.slice A0_5 l0_5.length c0_5), .int .i64 a0_6, (.slice A0_7 l0_7.length c0_7)] 32 (0, 0))) ∧ Aside0 (Below w.heap.size w w'))
 case atStart => exact ⟨(0), (([] : List Int)), (.slice none 0 0), eq_, H', ⟨Nat.le_refl _⟩, ⟨by refine vV_ ?_; exact Kd.V_mono (Kd.V_far (Kd.V_far (Kd.V_far (Kd.V_far (Kd.V_far (Kd.V_far (Kd.V_far (Kd.V_far (Kd.V_far (Kd.V_far (Kd.V_mono HO0_3.out (fun k_ hk => (⟨hk, hk.2⟩ : _ ∧ k_ ≠ gb497))) (fun _ hk => hk.2) _) (fun _ hk => hk.2) _) (fun _ hk => hk.2) _) (fun _ hk => hk.2) _) (fun _ hk => hk.2) _) (fun _ hk => hk.2) _) (fun _ hk => hk.2) _) (fun _ hk => hk.2) _) (fun _ hk => hk.2) _) (fun _ hk => hk.2) _) (fun _ hk => ⟨hk.1.1.1.1, ⟨(by simp [Value.ownBlock]), ⟨hk.1.1.1.2, ⟨hk.1.1.2, hk.1.2⟩⟩⟩⟩)⟩, ⟨by refine vV_ ?_; exact Kd.V_mono (Kd.V_far (Kd.V_far (Kd.V_far (Kd.V_far (Kd.V_far (Kd.V_far (Kd.V_far (Kd.V_far (Kd.V_far (Kd.V_far (Kd.V_mono HO0_4.out (fun k_ hk => (⟨hk, hk.2⟩ : _ ∧ k_ ≠ gb497))) (fun _ hk => hk.2) _) (fun _ hk => hk.2) _) (fun _ hk => hk.2) _) (fun _ hk => hk.2) _) (fun _ hk => hk.2) _) (fun _ hk => hk.2) _) (fun _ hk => hk.2) _) (fun _ hk => hk.2) _) (fun _ hk => hk.2) _) (fun _ hk => hk.2) _) (fun _ hk => ⟨hk.1.1.1.1, ⟨(by simp [Value.ownBlock]), ⟨hk.1.1.1.2, ⟨hk.1.1.2, hk.1.2⟩⟩⟩⟩)⟩, ⟨by refine vV_ ?_; exact Kd.V_mono (Kd.V_far (Kd.V_far (Kd.V_far (Kd.V_far (Kd.V_far (Kd.V_far (Kd.V_far (Kd.V_far (Kd.V_far (Kd.V_far (Kd.V_mono HO0_5.out (fun k_ hk => (⟨hk, hk.2⟩ : _ ∧ k_ ≠ gb497))) (fun _ hk => hk.2) _) (fun _ hk => hk.2) _) (fun _ hk => hk.2) _) (fun _ hk => hk.2) _) (fun _ hk => hk.2) _) (fun _ hk => hk.2) _) (fun _ hk => hk.2) _) (fun _ hk => hk.2) _) (fun _ hk => hk.2) _) (fun _ hk => hk.2) _) (fun _ hk => ⟨hk.1.1.1.1, ⟨(by simp [Value.ownBlock]), ⟨hk.1.1.1.2, ⟨hk.1.1.2, hk.1.2⟩⟩⟩⟩)⟩, ⟨by refine vV_ ?_; exact Kd.V_mono (Kd.V_far (Kd.V_far (Kd.V_far (Kd.V_far (Kd.V_far (Kd.V_far (Kd.V_far (Kd.V_far (Kd.V_far (Kd.V_far (Kd.V_mono HO0_7.out (fun k_ hk => (⟨hk, hk.2⟩ : _ ∧ k_ ≠ gb497))) (fun _ hk => hk.2) _) (fun _ hk => hk.2) _) (fun _ hk => hk.2) _) (fun _ hk => hk.2) _) (fun _ hk => hk.2) _) (fun _ hk => hk.2) _) (fun _ hk => hk.2) _) (fun _ hk => hk.2) _) (fun _ hk => hk.2) _) (fun _ hk => hk.2) _) (fun _ hk => ⟨hk.1.1.1.1, ⟨(by simp [Value.ownBlock]), ⟨hk.1.1.1.2, ⟨hk.1.1.2, hk.1.2⟩⟩⟩⟩)⟩, ⟨nil_⟩, ⟨by refine vV_ ?_; exact Kd.V_mono (Kd.V_far (Kd.V_far (Kd.V_far (Kd.V_far (Kd.V_far (Kd.V_far (Kd.V_far (Kd.V_far (Kd.V_far (Kd.V_far (Kd.V_mono HO0_3.out (fun k_ hk => (⟨hk, hk.2⟩ : _ ∧ k_ ≠ gb497))) (fun _ hk => hk.2) _) (fun _ hk => hk.2) _) (fun _ hk => hk.2) _) (fun _ hk => hk.2) _) (fun _ hk => hk.2) _) (fun _ hk => hk.2) _) (fun _ hk => hk.2) _) (fun _ hk => hk.2) _) (fun _ hk => hk.2) _) (fun _ hk => hk.2) _) (fun _ hk => ⟨hk.1.1.1.1, ⟨(by simp [Value.ownBlock]), ⟨hk.1.1.1.2, ⟨hk.1.1.2, hk.1.2⟩⟩⟩⟩)⟩, ⟨by refine vV_ ?_; exact Kd.V_mono (Kd.V_far (Kd.V_far (Kd.V_far (Kd.V_far (Kd.V_far (Kd.V_far (Kd.V_far (Kd.V_far (Kd.V_far (Kd.V_far (Kd.V_mono HO0_4.out (fun k_ hk => (⟨hk, hk.2⟩ : _ ∧ k_ ≠ gb497))) (fun _ hk => hk.2) _) (fun _ hk => hk.2) _) (fun _ hk => hk.2) _) (fun _ hk => hk.2) _) (fun _ hk => hk.2) _) (fun _ hk => hk.2) _) (fun _ hk => hk.2) _) (fun _ hk => hk.2) _) (fun _ hk => hk.2) _) (fun _ hk => hk.2) _) (fun _ hk => ⟨hk.1.1.1.1, ⟨(by simp [Value.ownBlock]), ⟨hk.1.1.1.2, ⟨hk.1.1.2, hk.1.2⟩⟩⟩⟩)⟩, ⟨by refine vV_ ?_; exact Kd.V_mono (Kd.V_far (Kd.V_far (Kd.V_far (Kd.V_far (Kd.V_far (Kd.V_far (Kd.V_far (Kd.V_far (Kd.V_far (Kd.V_far (Kd.V_mono HO0_5.out (fun k_ hk => (⟨hk, hk.2⟩ : _ ∧ k_ ≠ gb497))) (fun _ hk => hk.2) _) (fun _ hk => hk.2) _) (fun _ hk => hk.2) _) (fun _ hk => hk.2) _) (fun _ hk => hk.2) _) (fun _ hk => hk.2) _) (fun _ hk => hk.2) _) (fun _ hk => hk.2) _) (fun _ hk => hk.2) _) (fun _ hk => hk.2) _) (fun _ hk => ⟨hk.1.1.1.1, ⟨(by simp [Value.ownBlock]), ⟨hk.1.1.1.2, ⟨hk.1.1.2, hk.1.2⟩⟩⟩⟩)⟩, ⟨by refine vV_ ?_; exact Kd.V_mono (Kd.V_far (Kd.V_far (Kd.V_far (Kd.V_far (Kd.V_far (Kd.V_far (Kd.V_far (Kd.V_far (Kd.V_far (Kd.V_far (Kd.V_mono HO0_7.out (fun k_ hk => (⟨hk, hk.2⟩ : _ ∧ k_ ≠ gb497))) (fun _ hk => hk.2) _) (fun _ hk => hk.2) _) (fun _ hk => hk.2) _) (fun _ hk => hk.2) _) (fun _ hk => hk.2) _) (fun _ hk => hk.2) _) (fun _ hk => hk.2) _) (fun _ hk => hk.2) _) (fun _ hk => hk.2) _) (fun _ hk => hk.2) _) (fun _ hk => ⟨hk.1.1.1.1, ⟨(by simp [Value.ownBlock]), ⟨hk.1.1.1.2, ⟨hk.1.1.2, hk.1.2⟩⟩⟩⟩)⟩, ⟨by refine bk_ ?_; refine blk_far ?_ NB495_497.out _; refine bk_ ?_; refine blk_far ?_ NB495_497.out _; refine bk_ ?_; refine blk_far ?_ NB495_497.out _; refine bk_ ?_; refine blk_far ?_ NB495_497.out _; refine bk_ ?_; refine blk_far ?_ NB495_497.out _; refine bk_ ?_; refine blk_far ?_ NB495_497.out _; refine bk_ ?_; refine blk_far ?_ NB495_497.out _; refine bk_ ?_; refine blk_far ?_ NB495_497.out _; refine bk_ ?_; refine blk_far ?_ NB495_497.out _; refine bk_ ?_; refine blk_far ?_ NB495_497.out _; refine bk_ ?_; exact BK495.out⟩, ⟨by refine bk_ ?_; refine blk_far ?_ NB496_497.out _; refine bk_ ?_; refine blk_far ?_ NB496_497.out _; refine bk_ ?_; refine blk_far ?_ NB496_497.out _; refine bk_ ?_; refine blk_far ?_ NB496_497.out _; refine bk_ ?_; refine blk_far ?_ NB496_497.out _; refine bk_ ?_; refine blk_far ?_ NB496_497.out _; refine bk_ ?_; refine blk_far ?_ NB496_497.out _; refine bk_ ?_; refine blk_far ?_ NB496_497.out _; refine bk_ ?_; refine blk_far ?_ NB496_497.out _; refine bk_ ?_; refine blk_far ?_ NB496_497.out _; refine bk_ ?_; exact BK496.out⟩, ⟨by refine bk_ ?_; refine blk_put (cs := #[.int .i64 a0_0, .slice none 0 0, .slice A0_2 l0_2.length c0_2, .slice A0_3 l0_3.length c0_3, .slice A0_4 l0_4.length c0_4, .slice A0_5 l0_5.length c0_5, .int .i64 a0_6, .slice A0_7 l0_7.length c0_7]) ?_ 2 _ rfl; refine bk_ ?_; refine blk_put (cs := #[.int .i64 a0_0, .slice A0_1 l0_1.length c0_1, .slice A0_2 l0_2.length c0_2, .slice A0_3 l0_3.length c0_3, .slice A0_4 l0_4.length c0_4, .slice A0_5 l0_5.length c0_5, .int .i64 a0_6, .slice A0_7 l0_7.length c0_7]) ?_ 1 _ rfl; refine bk_ ?_; refine blk_put (cs := #[.int .i64 a0_0, .slice A0_1 l0_1.length c0_1, .slice A0_2 l0_2.length c0_2, .slice A0_3 l0_3.length c0_3, .slice A0_4 l0_4.length c0_4, .slice A0_5 l0_5.length c0_5, .int .i64 a0_6, .slice none 0 0]) ?_ 7 _ rfl; refine bk_ ?_; refine blk_put (cs := #[.int .i64 a0_0, .slice A0_1 l0_1.length c0_1, .slice A0_2 l0_2.length c0_2, .slice A0_3 l0_3.length c0_3, .slice A0_4 l0_4.length c0_4, .slice A0_5 l0_5.length c0_5, .int .i64 0, .slice none 0 0]) ?_ 6 _ rfl; refine bk_ ?_; refine blk_put (cs := #[.int .i64 a0_0, .slice A0_1 l0_1.length c0_1, .slice A0_2 l0_2.length c0_2, .slice A0_3 l0_3.length c0_3, .slice A0_4 l0_4.length c0_4, .slice none 0 0, .int .i64 0, .slice none 0 0]) ?_ 5 _ rfl; refine bk_ ?_; refine blk_put (cs := #[.int .i64 a0_0, .slice A0_1 l0_1.length c0_1, .slice A0_2 l0_2.length c0_2, .slice A0_3 l0_3.length c0_3, .slice none 0 0, .slice none 0 0, .int .i64 0, .slice none 0 0]) ?_ 4 _ rfl; refine bk_ ?_; refine blk_put (cs := #[.int .i64 a0_0, .slice A0_1 l0_1.length c0_1, .slice A0_2 l0_2.length c0_2, .slice none 0 0, .slice none 0 0, .slice none 0 0, .int .i64 0, .slice none 0 0]) ?_ 3 _ rfl; refine bk_ ?_; refine blk_put (cs := #[.int .i64 a0_0, .slice A0_1 l0_1.length c0_1, .slice none 0 0, .slice none 0 0, .slice none 0 0, .slice none 0 0, .int .i64 0, .slice none 0 0]) ?_ 2 _ rfl; refine bk_ ?_; refine blk_put (cs := #[.int .i64 a0_0, .slice none 0 0, .slice none 0 0, .slice none 0 0, .slice none 0 0, .slice none 0 0, .int .i64 0, .slice none 0 0]) ?_ 1 _ rfl; refine bk_ ?_; refine blk_put (cs := #[.int .i64 0, .slice none 0 0, .slice none 0 0, .slice none 0 0, .slice none 0 0, .slice none 0 0, .int .i64 0, .slice none 0 0]) ?_ 0 _ rfl; refine bk_ ?_; exact BK497.out⟩, ⟨bel_⟩⟩
 case round =>
  clear H'
  try clear c2
  try clear p2
  try clear c4
  try clear c7
  try clear c8
  try clear hcz5_0
  try clear hcz5_1
  try clear hcz5_2
  try clear hcz5_3
  try clear hcz5_4
  try clear hcz5_5
  try clear hcz5_6
  try clear hcz5_7
  try clear hcz9_0
  try clear hcz9_1
  try clear hcz9_2
  try clear hcz9_3
  try clear hcz9_4
  try clear hcz9_5
  try clear hcz9_6
  try clear hcz9_7
  try clear hfz5_0
  try clear hfz5_1
  try clear hfz5_2
  try clear hfz5_3
  try clear hfz5_4
  try clear hfz5_5
  try clear hfz5_6
  try clear hfz5_7
  try clear hfz9_0
  try clear hfz9_1
  try clear hfz9_2
  try clear hfz9_3
  try clear hfz9_4
  try clear hfz9_5
  try clear hfz9_6
  try clear hfz9_7
  obtain ⟨x4_1, x498001_1, u498001, rfl, HA, HK1, HO_496003, HO_496004, HO_496005, HO_496007, HO_498001, HO_498003, HO_498004, HO_498005, HO_498007, BK495, BK496, BK497, HB⟩ := hrel
  cases gk with
  | zero => exact absurd HA.out (by simp [jigsawref10_Local.l0])
  | succ k1 =>
   have H := HA.out
   clear HA
   simp only [jigsawref10_Local.l0] at H
   by_cases c10 : x4_1 < (l0_1.length : Int)
   ·
    rw [if_pos c10] at H
    have c10b0 : decide (x4_1 < (l0_1.length : Int)) = true := decide_eq_true c10
    clear c10
    by_cases c11 : x498001_1.length < 17592186044416
    ·
     rw [if_pos c11] at H
     have LMc11 := Aside0.mk c11
     clear c11
     obtain ⟨y498, hy498⟩ : ∃ y_ : List Int, y_ = (x498001_1 ++ [x4_1]) := ⟨_, rfl⟩
     replace H : (jigsawref10_Local.l0 k1 (wrap64 (x4_1 + 1)) a0_0 l0_1 l0_2 l0_3 l0_4 l0_5 a0_6 l0_7 a0_0 y498 l0_3 l0_4 l0_5 a0_6 l0_7) = some (r1, r2, r3, r4, r5, r6, r7, r8) := by first | (rw [hy498]; with_reducible exact H) | (have H2_ := (Option.bind_some _ _).symm.trans H; rw [hy498]; with_reducible exact H2_) | (have H2_ := (Option.bind_some _ _).symm.trans H; with_reducible exact H2_) | with_reducible exact H | (rw [hy498]; exact H) | exact H
     have Ny498 := Aside0.mk hy498
     clear hy498
     have H' := Aside0.mk H
     clear H
     have hnb12 := NB495_496.out
     have hnc12 := NB496_495.out
     have hnb13 := NB495_497.out
     have hnc13 := NB497_495.out
     obtain ⟨hcz14_0, hcz14_1, hcz14_2, hcz14_3, hcz14_4, hcz14_5, hcz14_6, hcz14_7, hfz14_0, hfz14_1, hfz14_2, hfz14_3, hfz14_4, hfz14_5, hfz14_6, hfz14_7⟩ := cel8_ BK495.out
     have hnb15 := NB497_496.out
     have hnc15 := NB496_497.out
     obtain ⟨hcz16_0, hcz16_1, hcz16_2, hcz16_3, hcz16_4, hcz16_5, hcz16_6, hcz16_7, hfz16_0, hfz16_1, hfz16_2, hfz16_3, hfz16_4, hfz16_5, hfz16_6, hfz16_7⟩ := cel8_ BK497.out
     go_wp2_with (first | ((with_reducible refine gate_builtin (b := .append) (xs := #[.tmp 17, .tmp 19]) rfl ?_); at_builtin; refine Kd.R_append (Kd.int .i64) (w0 := w) w.heap.size rfl (.tmp 17) (.tmp 19) 30 3 (.int .i64 0) 8 rfl Tryz.underlying30 info3 rfl (by decide) (by omega) u498001 x498001_1 x4_1 [.int .i64 x4_1] (fun k_ => (w.heap.size ≤ k_)) (fun _ => False) rfl rfl ?aP (fun _ hk => hk.elim) ?aF ?aO ?aB ?aS ?aL ?_; (case aP => exact rfl); (case aB => exact bel_); (case aF => exact (fun k_ hk => (Nat.le_trans (below_size bel_) hk))); (case aO => exact (vR_ HO_498001.out)); (case aS => exact (below_size bel_)); (case aL => have := LMc11.out; omega); intro v499 w17 ho hb hg hat; rw [← Ny498.out] at ho; replace HO_496003 := Aside0.mk (Kd.V_afterv (ok := (fun k_ => ((P0_3_ k_ ∨ P0_4_ k_ ∨ P0_5_ k_ ∨ P0_7_ k_) ∨ w.heap.size ≤ k_) ∧ k_ ≠ gb495 ∧ k_ ≠ gb496 ∧ k_ ≠ gb497)) (by refine vV_ ?_; exact Kd.V_mono HO_496003.out (fun _ hk => ⟨⟨hk.1, ⟨hk.2.2.1, ⟨hk.2.2.2.1, hk.2.2.2.2⟩⟩⟩, hk.2.1⟩)) hg hat); replace HO_496004 := Aside0.mk (Kd.V_afterv (ok := (fun k_ => ((P0_3_ k_ ∨ P0_4_ k_ ∨ P0_5_ k_ ∨ P0_7_ k_) ∨ w.heap.size ≤ k_) ∧ k_ ≠ gb495 ∧ k_ ≠ gb496 ∧ k_ ≠ gb497)) (by refine vV_ ?_; exact Kd.V_mono HO_496004.out (fun _ hk => ⟨⟨hk.1, ⟨hk.2.2.1, ⟨hk.2.2.2.1, hk.2.2.2.2⟩⟩⟩, hk.2.1⟩)) hg hat); replace HO_496005 := Aside0.mk (Kd.V_afterv (ok := (fun k_ => ((P0_3_ k_ ∨ P0_4_ k_ ∨ P0_5_ k_ ∨ P0_7_ k_) ∨ w.heap.size ≤ k_) ∧ k_ ≠ gb495 ∧ k_ ≠ gb496 ∧ k_ ≠ gb497)) (by refine vV_ ?_; exact Kd.V_mono HO_496005.out (fun _ hk => ⟨⟨hk.1, ⟨hk.2.2.1, ⟨hk.2.2.2.1, hk.2.2.2.2⟩⟩⟩, hk.2.1⟩)) hg hat); replace HO_496007 := Aside0.mk (Kd.V_afterv (ok := (fun k_ => ((P0_3_ k_ ∨ P0_4_ k_ ∨ P0_5_ k_ ∨ P0_7_ k_) ∨ w.heap.size ≤ k_) ∧ k_ ≠ gb495 ∧ k_ ≠ gb496 ∧ k_ ≠ gb497)) (by refine vV_ ?_; exact Kd.V_mono HO_496007.out (fun _ hk => ⟨⟨hk.1, ⟨hk.2.2.1, ⟨hk.2.2.2.1, hk.2.2.2.2⟩⟩⟩, hk.2.1⟩)) hg hat); replace HO_498003 := Aside0.mk (Kd.V_afterv (ok := (fun k_ => ((P0_3_ k_ ∨ P0_4_ k_ ∨ P0_5_ k_ ∨ P0_7_ k_) ∨ w.heap.size ≤ k_) ∧ k_ ≠ gb495 ∧ k_ ≠ gb496 ∧ k_ ≠ gb497)) (by refine vV_ ?_; exact Kd.V_mono HO_498003.out (fun _ hk => ⟨⟨hk.1, ⟨hk.2.2.1, ⟨hk.2.2.2.1, hk.2.2.2.2⟩⟩⟩, hk.2.1⟩)) hg hat); replace HO_498004 := Aside0.mk (Kd.V_afterv (ok := (fun k_ => ((P0_3_ k_ ∨ P0_4_ k_ ∨ P0_5_ k_ ∨ P0_7_ k_) ∨ w.heap.size ≤ k_) ∧ k_ ≠ gb495 ∧ k_ ≠ gb496 ∧ k_ ≠ gb497)) (by refine vV_ ?_; exact Kd.V_mono HO_498004.out (fun _ hk => ⟨⟨hk.1, ⟨hk.2.2.1, ⟨hk.2.2.2.1, hk.2.2.2.2⟩⟩⟩, hk.2.1⟩)) hg hat); replace HO_498005 := Aside0.mk (Kd.V_afterv (ok := (fun k_ => ((P0_3_ k_ ∨ P0_4_ k_ ∨ P0_5_ k_ ∨ P0_7_ k_) ∨ w.heap.size ≤ k_) ∧ k_ ≠ gb495 ∧ k_ ≠ gb496 ∧ k_ ≠ gb497)) (by refine vV_ ?_; exact Kd.V_mono HO_498005.out (fun _ hk => ⟨⟨hk.1, ⟨hk.2.2.1, ⟨hk.2.2.2.1, hk.2.2.2.2⟩⟩⟩, hk.2.1⟩)) hg hat); replace HO_498007 := Aside0.mk (Kd.V_afterv (ok := (fun k_ => ((P0_3_ k_ ∨ P0_4_ k_ ∨ P0_5_ k_ ∨ P0_7_ k_) ∨ w.heap.size ≤ k_) ∧ k_ ≠ gb495 ∧ k_ ≠ gb496 ∧ k_ ≠ gb497)) (by refine vV_ ?_; exact Kd.V_mono HO_498007.out (fun _ hk => ⟨⟨hk.1, ⟨hk.2.2.1, ⟨hk.2.2.2.1, hk.2.2.2.2⟩⟩⟩, hk.2.1⟩)) hg hat); replace BK495 := Aside0.mk (blk_grown (bk_ BK495.out) hg (Kd.R_ne HO_498001.out BK495.out (by decide))); replace BK496 := Aside0.mk (blk_grown (bk_ BK496.out) hg (Kd.R_ne HO_498001.out BK496.out (by decide))); replace BK497 := Aside0.mk (blk_grown (bk_ BK497.out) hg (Kd.R_ne HO_498001.out BK497.out (by decide))); replace HB := Aside0.mk (hb); have HO500 := Aside0.mk (ho); clear HO_498001; clear ho hb hg hat; obtain ⟨Ao18, co18, eo18⟩ := Kd.R_slice HO500.out; subst eo18; obtain ⟨hcz19_0, hcz19_1, hcz19_2, hcz19_3, hcz19_4, hcz19_5, hcz19_6, hcz19_7, hfz19_0, hfz19_1, hfz19_2, hfz19_3, hfz19_4, hfz19_5, hfz19_6, hfz19_7⟩ := cel8_ BK497.out))
     go_roundg k1
     case measure => have := HK1.out; omega
     case rel => exact ⟨(wrap64 (x4_1 + 1)), (y498), (.slice Ao18 y498.length co18), eq_, H', ⟨by have := HK1.out; omega⟩, ⟨by refine vV_ ?_; exact Kd.V_mono (Kd.V_far (Kd.V_mono HO_496003.out (fun k_ hk => (⟨hk, hk.1.2.2.2⟩ : _ ∧ k_ ≠ gb497))) (fun _ hk => hk.2) _) (fun _ hk => ⟨hk.1.1.1, ⟨hk.1.2, ⟨hk.1.1.2.1, ⟨hk.1.1.2.2.1, hk.1.1.2.2.2⟩⟩⟩⟩)⟩, ⟨by refine vV_ ?_; exact Kd.V_mono (Kd.V_far (Kd.V_mono HO_496004.out (fun k_ hk => (⟨hk, hk.1.2.2.2⟩ : _ ∧ k_ ≠ gb497))) (fun _ hk => hk.2) _) (fun _ hk => ⟨hk.1.1.1, ⟨hk.1.2, ⟨hk.1.1.2.1, ⟨hk.1.1.2.2.1, hk.1.1.2.2.2⟩⟩⟩⟩)⟩, ⟨by refine vV_ ?_; exact Kd.V_mono (Kd.V_far (Kd.V_mono HO_496005.out (fun k_ hk => (⟨hk, hk.1.2.2.2⟩ : _ ∧ k_ ≠ gb497))) (fun _ hk => hk.2) _) (fun _ hk => ⟨hk.1.1.1, ⟨hk.1.2, ⟨hk.1.1.2.1, ⟨hk.1.1.2.2.1, hk.1.1.2.2.2⟩⟩⟩⟩)⟩, ⟨by refine vV_ ?_; exact Kd.V_mono (Kd.V_far (Kd.V_mono HO_496007.out (fun k_ hk => (⟨hk, hk.1.2.2.2⟩ : _ ∧ k_ ≠ gb497))) (fun _ hk => hk.2) _) (fun _ hk => ⟨hk.1.1.1, ⟨hk.1.2, ⟨hk.1.1.2.1, ⟨hk.1.1.2.2.1, hk.1.1.2.2.2⟩⟩⟩⟩)⟩, ⟨by refine vR_ ?_; exact Kd.R_mono (Kd.R_far (Kd.R_types HO500.out BK497.out (by decide)) (fun _ hk => hk.2) _) (fun _ hk => hk.1)⟩, ⟨by refine vV_ ?_; exact Kd.V_mono (Kd.V_far (Kd.V_mono HO_498003.out (fun k_ hk => (⟨hk, hk.1.2.2.2⟩ : _ ∧ k_ ≠ gb497))) (fun _ hk => hk.2) _) (fun _ hk => ⟨hk.1.1.1, ⟨hk.1.2, ⟨hk.1.1.2.1, ⟨hk.1.1.2.2.1, hk.1.1.2.2.2⟩⟩⟩⟩)⟩, ⟨by refine vV_ ?_; exact Kd.V_mono (Kd.V_far (Kd.V_mono HO_498004.out (fun k_ hk => (⟨hk, hk.1.2.2.2⟩ : _ ∧ k_ ≠ gb497))) (fun _ hk => hk.2) _) (fun _ hk => ⟨hk.1.1.1, ⟨hk.1.2, ⟨hk.1.1.2.1, ⟨hk.1.1.2.2.1, hk.1.1.2.2.2⟩⟩⟩⟩)⟩, ⟨by refine vV_ ?_; exact Kd.V_mono (Kd.V_far (Kd.V_mono HO_498005.out (fun k_ hk => (⟨hk, hk.1.2.2.2⟩ : _ ∧ k_ ≠ gb497))) (fun _ hk => hk.2) _) (fun _ hk => ⟨hk.1.1.1, ⟨hk.1.2, ⟨hk.1.1.2.1, ⟨hk.1.1.2.2.1, hk.1.1.2.2.2⟩⟩⟩⟩)⟩, ⟨by refine vV_ ?_; exact Kd.V_mono (Kd.V_far (Kd.V_mono HO_498007.out (fun k_ hk => (⟨hk, hk.1.2.2.2⟩ : _ ∧ k_ ≠ gb497))) (fun _ hk => hk.2) _) (fun _ hk => ⟨hk.1.1.1, ⟨hk.1.2, ⟨hk.1.1.2.1, ⟨hk.1.1.2.2.1, hk.1.1.2.2.2⟩⟩⟩⟩)⟩, ⟨by refine bk_ ?_; refine blk_far ?_ NB495_497.out _; refine bk_ ?_; exact BK495.out⟩, ⟨by refine bk_ ?_; refine blk_far ?_ NB496_497.out _; refine bk_ ?_; exact BK496.out⟩, ⟨by refine bk_ ?_; refine blk_put (cs := #[.int .i64 a0_0, u498001, .slice none 0 0, .slice A0_3 l0_3.length c0_3, .slice A0_4 l0_4.length c0_4, .slice A0_5 l0_5.length c0_5, .int .i64 a0_6, .slice A0_7 l0_7.length c0_7]) ?_ 1 _ rfl; refine bk_ ?_; exact BK497.out⟩, ⟨bel_⟩⟩
    ·
     rw [if_neg c11] at H
     exact absurd H (by simp)
   ·
    rw [if_neg c10] at H
    have c10b0 : decide (x4_1 < (l0_1.length : Int)) = false := decide_eq_false c10
    clear c10
    have H' := Aside0.mk H
    clear H
    have hnb20 := NB495_496.out
    have hnc20 := NB496_495.out
    have hnb21 := NB495_497.out
    have hnc21 := NB497_495.out
    obtain ⟨hcz22_0, hcz22_1, hcz22_2, hcz22_3, hcz22_4, hcz22_5, hcz22_6, hcz22_7, hfz22_0, hfz22_1, hfz22_2, hfz22_3, hfz22_4, hfz22_5, hfz22_6, hfz22_7⟩ := cel8_ BK495.out
    go_wp2
    go_loopg [5] k1 (fun kq v5 w' => ∃ (x5_2 : Int) (x498002_2 : List Int) (u498002 : Value), v5 = .int .i64 x5_2 ∧ Aside0 (jigsawref10_Local.l1 kq x5_2 a0_0 l0_1 l0_2 l0_3 l0_4 l0_5 a0_6 l0_7 a0_0 x498001_1 x498002_2 l0_3 l0_4 l0_5 a0_6 l0_7 = some (r1, r2, r3, r4, r5, r6, r7, r8)) ∧ Aside0 (kq ≤ k1) ∧ Aside0 (Kd.V (Kd.int .i64) 3 w' w.heap.size (fun k_ => ((P0_3_ k_ ∨ P0_4_ k_ ∨ P0_5_ k_ ∨ P0_7_ k_) ∨ w.heap.size ≤ k_) ∧ some k_ ≠ (u498001 : Value).ownBlock ∧ some k_ ≠ (u498002 : Value).ownBlock ∧ k_ ≠ gb495 ∧ k_ ≠ gb496 ∧ k_ ≠ gb497) (.slice A0_3 l0_3.length c0_3) l0_3) ∧ Aside0 (Kd.V (Kd.int .i64) 3 w' w.heap.size (fun k_ => ((P0_3_ k_ ∨ P0_4_ k_ ∨ P0_5_ k_ ∨ P0_7_ k_) ∨ w.heap.size ≤ k_) ∧ some k_ ≠ (u498001 : Value).ownBlock ∧ some k_ ≠ (u498002 : Value).ownBlock ∧ k_ ≠ gb495 ∧ k_ ≠ gb496 ∧ k_ ≠ gb497) (.slice A0_4 l0_4.length c0_4) l0_4) ∧ Aside0 (Kd.V (Kd.int .i64) 3 w' w.heap.size (fun k_ => ((P0_3_ k_ ∨ P0_4_ k_ ∨ P0_5_ k_ ∨ P0_7_ k_) ∨ w.heap.size ≤ k_) ∧ some k_ ≠ (u498001 : Value).ownBlock ∧ some k_ ≠ (u498002 : Value).ownBlock ∧ k_ ≠ gb495 ∧ k_ ≠ gb496 ∧ k_ ≠ gb497) (.slice A0_5 l0_5.length c0_5) l0_5) ∧ Aside0 (Kd.V (Kd.slice 3 (Kd.int .i64)) 30 w' w.heap.size (fun k_ => ((P0_3_ k_ ∨ P0_4_ k_ ∨ P0_5_ k_ ∨ P0_7_ k_) ∨ w.heap.size ≤ k_) ∧ some k_ ≠ (u498001 : Value).ownBlock ∧ some k_ ≠ (u498002 : Value).ownBlock ∧ k_ ≠ gb495 ∧ k_ ≠ gb496 ∧ k_ ≠ gb497) (.slice A0_7 l0_7.length c0_7) l0_7) ∧ Aside0 (Kd.R (Kd.int .i64) 3 w' w.heap.size (fun k_ => (w.heap.size ≤ k_) ∧ some k_ ≠ (u498002 : Value).ownBlock) u498001 x498001_1) ∧ Aside0 (Kd.R (Kd.int .i64) 3 w' w.heap.size (fun k_ => (w.heap.size ≤ k_) ∧ some k_ ≠ (u498001 : Value).ownBlock) u498002 x498002_2) ∧ Aside0 (Kd.V (Kd.int .i64) 3 w' w.heap.size (fun k_ => ((P0_3_ k_ ∨ P0_4_ k_ ∨ P0_5_ k_ ∨ P0_7_ k_) ∨ w.heap.size ≤ k_) ∧ some k_ ≠ (u498001 : Value).ownBlock ∧ some k_ ≠ (u498002 : Value).ownBlock ∧ k_ ≠ gb495 ∧ k_ ≠ gb496 ∧ k_ ≠ gb497) (.slice A0_3 l0_3.length c0_3) l0_3) ∧ Aside0 (Kd.V (Kd.int .i64) 3 w' w.heap.size (fun k_ => ((P0_3_ k_ ∨ P0_4_ k_ ∨ P0_5_ k_ ∨ P0_7_ k_) ∨ w.heap.size ≤ k_) ∧ some k_ ≠ (u498001 : Value).ownBlock ∧ some k_ ≠ (u498002 : Value).ownBlock ∧ k_ ≠ gb495 ∧ k_ ≠ gb496 ∧ k_ ≠ gb497) (.slice A0_4 l0_4.length c0_4) l0_4) ∧ Aside0 (Kd.V (Kd.int .i64) 3 w' w.heap.size (fun k_ => ((P0_3_ k_ ∨ P0_4_ k_ ∨ P0_5_ k_ ∨ P0_7_ k_) ∨ w.heap.size ≤ k_) ∧ some k_ ≠ (u498001 : Value).ownBlock ∧ some k_ ≠ (u498002 : Value).ownBlock ∧ k_ ≠ gb495 ∧ k_ ≠ gb496 ∧ k_ ≠ gb497) (.slice A0_5 l0_5.length c0_5) l0_5) ∧ Aside0 (Kd.V (Kd.slice 3 (Kd.int .i64)) 30 w' w.heap.size (fun k_ => ((P0_3_ k_ ∨ P0_4_ k_ ∨ P0_5_ k_ ∨ P0_7_ k_) ∨ w.heap.size ≤ k_) ∧ some k_ ≠ (u498001 : Value).ownBlock ∧ some k_ ≠ (u498002 : Value).ownBlock ∧ k_ ≠ gb495 ∧ k_ ≠ gb496 ∧ k_ ≠ gb497) (.slice A0_7 l0_7.length c0_7) l0_7) ∧ Aside0 (w'.heap[gb495]? = some (.cells #[.int .i64 a0_0, (.slice A0_1 l0_1.length c0_1), (.slice A0_2 l0_2.length c0_2), (.slice A0_3 l0_3.length c0_3), (.slice A0_4 l0_4.length c0_4), (.slice A0_5 l0_5.length c0_5), .int .i64 a0_6, (.slice A0_7 l0_7.length c0_7)] 32 (0, 0))) ∧ Aside0 (w'.heap[gb496]? = some (.cells #[.int .i64 0, (.slice none 0 0), (.slice none 0 0), (.slice none 0 0), (.slice none 0 0), (.slice none 0 0), .int .i64 0, (.slice none 0 0)] 32 (0, 0))) ∧ Aside0 (w'.heap[gb497]? = some (.cells #[.int .i64 a0_0, u498001, u498002, (.slice A0_3 l0_3.length c0_3), (.slice A0_4 l0_4.length c0_4), (.slice A0_5 l0_5.length c0_5), .int .i64 a0_6, (.slice A0_7 l0_7.length c0_7)] 32 (0, 0))) ∧ Aside0 (Below w.heap.size w w'))
    case atStart => exact ⟨(0), (([] : List Int)), (.slice none 0 0), eq_, H', ⟨Nat.le_refl _⟩, ⟨by refine vV_ ?_; exact Kd.V_mono HO_496003.out (fun _ hk => ⟨hk.1, ⟨hk.2.1, ⟨(by simp [Value.ownBlock]), ⟨hk.2.2.1, ⟨hk.2.2.2.1, hk.2.2.2.2⟩⟩⟩⟩⟩)⟩, ⟨by refine vV_ ?_; exact Kd.V_mono HO_496004.out (fun _ hk => ⟨hk.1, ⟨hk.2.1, ⟨(by simp [Value.ownBlock]), ⟨hk.2.2.1, ⟨hk.2.2.2.1, hk.2.2.2.2⟩⟩⟩⟩⟩)⟩, ⟨by refine vV_ ?_; exact Kd.V_mono HO_496005.out (fun _ hk => ⟨hk.1, ⟨hk.2.1, ⟨(by simp [Value.ownBlock]), ⟨hk.2.2.1, ⟨hk.2.2.2.1, hk.2.2.2.2⟩⟩⟩⟩⟩)⟩, ⟨by refine vV_ ?_; exact Kd.V_mono HO_496007.out (fun _ hk => ⟨hk.1, ⟨hk.2.1, ⟨(by simp [Value.ownBlock]), ⟨hk.2.2.1, ⟨hk.2.2.2.1, hk.2.2.2.2⟩⟩⟩⟩⟩)⟩, ⟨by refine vR_ ?_; exact Kd.R_mono HO_498001.out (fun _ hk => ⟨hk, (by simp [Value.ownBlock])⟩)⟩, ⟨nil_⟩, ⟨by refine vV_ ?_; exact Kd.V_mono HO_498003.out (fun _ hk => ⟨hk.1, ⟨hk.2.1, ⟨(by simp [Value.ownBlock]), ⟨hk.2.2.1, ⟨hk.2.2.2.1, hk.2.2.2.2⟩⟩⟩⟩⟩)⟩, ⟨by refine vV_ ?_; exact Kd.V_mono HO_498004.out (fun _ hk => ⟨hk.1, ⟨hk.2.1, ⟨(by simp [Value.ownBlock]), ⟨hk.2.2.1, ⟨hk.2.2.2.1, hk.2.2.2.2⟩⟩⟩⟩⟩)⟩, ⟨by refine vV_ ?_; exact Kd.V_mono HO_498005.out (fun _ hk => ⟨hk.1, ⟨hk.2.1, ⟨(by simp [Value.ownBlock]), ⟨hk.2.2.1, ⟨hk.2.2.2.1, hk.2.2.2.2⟩⟩⟩⟩⟩)⟩, ⟨by refine vV_ ?_; exact Kd.V_mono HO_498007.out (fun _ hk => ⟨hk.1, ⟨hk.2.1, ⟨(by simp [Value.ownBlock]), ⟨hk.2.2.1, ⟨hk.2.2.2.1, hk.2.2.2.2⟩⟩⟩⟩⟩)⟩, ⟨by refine bk_ ?_; exact BK495.out⟩, ⟨by refine bk_ ?_; exact BK496.out⟩, ⟨by refine bk_ ?_; exact BK497.out⟩, ⟨bel_⟩⟩
    case round =>
     clear H'
     try clear c1
     try clear c2
     try clear p2
     try clear c4
     try clear p6
     try clear c7
     try clear c8
     try clear c10
     try clear c10b0
     try clear c11
     try clear c12
     try clear c13
     try clear c15
     try clear c20
     try clear c21
     try clear hcz14_0
     try clear hcz14_1
     try clear hcz14_2
     try clear hcz14_3
     try clear hcz14_4
     try clear hcz14_5
     try clear hcz14_6
     try clear hcz14_7
     try clear hcz16_0
     try clear hcz16_1
     try clear hcz16_2
     try clear hcz16_3
     try clear hcz16_4
     try clear hcz16_5
     try clear hcz16_6
     try clear hcz16_7
     try clear hcz19_0
     try clear hcz19_1
     try clear hcz19_2
     try clear hcz19_3
     try clear hcz19_4
     try clear hcz19_5
     try clear hcz19_6
     try clear hcz19_7
     try clear hcz22_0
     try clear hcz22_1
     try clear hcz22_2
     try clear hcz22_3
     try clear hcz22_4
     try clear hcz22_5
     try clear hcz22_6
     try clear hcz22_7
     try clear hcz5_0
     try clear hcz5_1
     try clear hcz5_2
     try clear hcz5_3
     try clear hcz5_4
     try clear hcz5_5
     try clear hcz5_6
     try clear hcz5_7
     try clear hcz9_0
     try clear hcz9_1
     try clear hcz9_2
     try clear hcz9_3
     try clear hcz9_4
     try clear hcz9_5
     try clear hcz9_6
     try clear hcz9_7
     try clear hfz14_0
     try clear hfz14_1
     try clear hfz14_2
     try clear hfz14_3
     try clear hfz14_4
     try clear hfz14_5
     try clear hfz14_6
     try clear hfz14_7
     try clear hfz16_0
     try clear hfz16_1
     try clear hfz16_2
     try clear hfz16_3
     try clear hfz16_4
     try clear hfz16_5
     try clear hfz16_6
     try clear hfz16_7
     try clear hfz19_0
     try clear hfz19_1
     try clear hfz19_2
     try clear hfz19_3
     try clear hfz19_4
     try clear hfz19_5
     try clear hfz19_6
     try clear hfz19_7
     try clear hfz22_0
     try clear hfz22_1
     try clear hfz22_2
     try clear hfz22_3
     try clear hfz22_4
     try clear hfz22_5
     try clear hfz22_6
     try clear hfz22_7
     try clear hfz5_0
     try clear hfz5_1
     try clear hfz5_2
     try clear hfz5_3
     try clear hfz5_4
     try clear hfz5_5
     try clear hfz5_6
     try clear hfz5_7
     try clear hfz9_0
     try clear hfz9_1
     try clear hfz9_2
     try clear hfz9_3
     try clear hfz9_4
     try clear hfz9_5
     try clear hfz9_6
     try clear hfz9_7
     try clear p2
     obtain ⟨x5_2, x498002_2, u498002, rfl, HA, HK2, HO_496003, HO_496004, HO_496005, HO_496007, HO_498001, HO_498002, HO_498003, HO_498004, HO_498005, HO_498007, BK495, BK496, BK497, HB⟩ := hrel
     cases gk with
     | zero => exact absurd HA.out (by simp [jigsawref10_Local.l1])
     | succ k2 =>
      have H := HA.out
      clear HA
      simp only [jigsawref10_Local.l1] at H
      by_cases c23 : x5_2 < (l0_2.length : Int)
      ·
       rw [if_pos c23] at H
       have c23b0 : decide (x5_2 < (l0_2.length : Int)) = true := decide_eq_true c23
       clear c23
       by_cases c24 : x498002_2.length < 17592186044416
       ·
        rw [if_pos c24] at H
        have LMc24 := Aside0.mk c24
        clear c24
        obtain ⟨y501, hy501⟩ : ∃ y_ : List Int, y_ = (x498002_2 ++ [wrap64 ((l0_1.length : Int) + x5_2)]) := ⟨_, rfl⟩
        replace H : (jigsawref10_Local.l1 k2 (wrap64 (x5_2 + 1)) a0_0 l0_1 l0_2 l0_3 l0_4 l0_5 a0_6 l0_7 a0_0 x498001_1 y501 l0_3 l0_4 l0_5 a0_6 l0_7) = some (r1, r2, r3, r4, r5, r6, r7, r8) := by first | (rw [hy501]; with_reducible exact H) | (have H2_ := (Option.bind_some _ _).symm.trans H; rw [hy501]; with_reducible exact H2_) | (have H2_ := (Option.bind_some _ _).symm.trans H; with_reducible exact H2_) | with_reducible exact H | (rw [hy501]; exact H) | exact H
        have Ny501 := Aside0.mk hy501
        clear hy501
        have H' := Aside0.mk H
        clear H
        have hnb25 := NB495_496.out
        have hnc25 := NB496_495.out
        have hnb26 := NB495_497.out
        have hnc26 := NB497_495.out
        obtain ⟨_, _, _, _, _, _, _, _, _, _, _, _, _, _, _, _⟩ := cel8_ BK495.out
        have hnb28 := NB497_496.out
        have hnc28 := NB496_497.out
        obtain ⟨_, _, _, _, _, _, _, _, _, _, _, _, _, _, _, _⟩ := cel8_ BK497.out
        go_wp2_with (first | ((with_reducible refine gate_builtin (b := .append) (xs := #[.tmp 30, .tmp 36]) rfl ?_); at_builtin; refine Kd.R_append (Kd.int .i64) (w0 := w) w.heap.size rfl (.tmp 30) (.tmp 36) 30 3 (.int .i64 0) 8 rfl Tryz.underlying30 info3 rfl (by decide) (by omega) u498002 x498002_2 (wrap64 ((l0_1.length : Int) + x5_2)) [.int .i64 (wrap64 ((l0_1.length : Int) + x5_2))] (fun k_ => (w.heap.size ≤ k_) ∧ some k_ ≠ (u498001 : Value).ownBlock) (fun _ => False) rfl rfl ?aP (fun _ hk => hk.elim) ?aF ?aO ?aB ?aS ?aL ?_; (case aP => exact rfl); (case aB => exact bel_); (case aF => exact (fun k_ hk => ⟨(Nat.le_trans (below_size bel_) hk), Kd.fresh' (Kd.R_lt (vR_ HO_498001.out)) k_ hk⟩)); (case aO => exact (vR_ HO_498002.out)); (case aS => exact (below_size bel_)); (case aL => have := LMc24.out; omega); intro v502 w30 ho hb hg hat; rw [← Ny501.out] at ho; replace HO_496003 := Aside0.mk (Kd.V_afterv (ok := (fun k_ => ((P0_3_ k_ ∨ P0_4_ k_ ∨ P0_5_ k_ ∨ P0_7_ k_) ∨ w.heap.size ≤ k_) ∧ some k_ ≠ (u498001 : Value).ownBlock ∧ k_ ≠ gb495 ∧ k_ ≠ gb496 ∧ k_ ≠ gb497)) (by refine vV_ ?_; exact Kd.V_mono HO_496003.out (fun _ hk => ⟨⟨hk.1, ⟨hk.2.1, ⟨hk.2.2.2.1, ⟨hk.2.2.2.2.1, hk.2.2.2.2.2⟩⟩⟩⟩, hk.2.2.1⟩)) hg hat); replace HO_496004 := Aside0.mk (Kd.V_afterv (ok := (fun k_ => ((P0_3_ k_ ∨ P0_4_ k_ ∨ P0_5_ k_ ∨ P0_7_ k_) ∨ w.heap.size ≤ k_) ∧ some k_ ≠ (u498001 : Value).ownBlock ∧ k_ ≠ gb495 ∧ k_ ≠ gb496 ∧ k_ ≠ gb497)) (by refine vV_ ?_; exact Kd.V_mono HO_496004.out (fun _ hk => ⟨⟨hk.1, ⟨hk.2.1, ⟨hk.2.2.2.1, ⟨hk.2.2.2.2.1, hk.2.2.2.2.2⟩⟩⟩⟩, hk.2.2.1⟩)) hg hat); replace HO_496005 := Aside0.mk (Kd.V_afterv (ok := (fun k_ => ((P0_3_ k_ ∨ P0_4_ k_ ∨ P0_5_ k_ ∨ P0_7_ k_) ∨ w.heap.size ≤ k_) ∧ some k_ ≠ (u498001 : Value).ownBlock ∧ k_ ≠ gb495 ∧ k_ ≠ gb496 ∧ k_ ≠ gb497)) (by refine vV_ ?_; exact Kd.V_mono HO_496005.out (fun _ hk => ⟨⟨hk.1, ⟨hk.2.1, ⟨hk.2.2.2.1, ⟨hk.2.2.2.2.1, hk.2.2.2.2.2⟩⟩⟩⟩, hk.2.2.1⟩)) hg hat); replace HO_496007 := Aside0.mk (Kd.V_afterv (ok := (fun k_ => ((P0_3_ k_ ∨ P0_4_ k_ ∨ P0_5_ k_ ∨ P0_7_ k_) ∨ w.heap.size ≤ k_) ∧ some k_ ≠ (u498001 : Value).ownBlock ∧ k_ ≠ gb495 ∧ k_ ≠ gb496 ∧ k_ ≠ gb497)) (by refine vV_ ?_; exact Kd.V_mono HO_496007.out (fun _ hk => ⟨⟨hk.1, ⟨hk.2.1, ⟨hk.2.2.2.1, ⟨hk.2.2.2.2.1, hk.2.2.2.2.2⟩⟩⟩⟩, hk.2.2.1⟩)) hg hat); replace HO_498001 := Aside0.mk (Kd.R_after (ok := (fun k_ => (w.heap.size ≤ k_))) (vR_ HO_498001.out) hg hat); replace HO_498003 := Aside0.mk (Kd.V_afterv (ok := (fun k_ => ((P0_3_ k_ ∨ P0_4_ k_ ∨ P0_5_ k_ ∨ P0_7_ k_) ∨ w.heap.size ≤ k_) ∧ some k_ ≠ (u498001 : Value).ownBlock ∧ k_ ≠ gb495 ∧ k_ ≠ gb496 ∧ k_ ≠ gb497)) (by refine vV_ ?_; exact Kd.V_mono HO_498003.out (fun _ hk => ⟨⟨hk.1, ⟨hk.2.1, ⟨hk.2.2.2.1, ⟨hk.2.2.2.2.1, hk.2.2.2.2.2⟩⟩⟩⟩, hk.2.2.1⟩)) hg hat); replace HO_498004 := Aside0.mk (Kd.V_afterv (ok := (fun k_ => ((P0_3_ k_ ∨ P0_4_ k_ ∨ P0_5_ k_ ∨ P0_7_ k_) ∨ w.heap.size ≤ k_) ∧ some k_ ≠ (u498001 : Value).ownBlock ∧ k_ ≠ gb495 ∧ k_ ≠ gb496 ∧ k_ ≠ gb497)) (by refine vV_ ?_; exact Kd.V_mono HO_498004.out (fun _ hk => ⟨⟨hk.1, ⟨hk.2.1, ⟨hk.2.2.2.1, ⟨hk.2.2.2.2.1, hk.2.2.2.2.2⟩⟩⟩⟩, hk.2.2.1⟩)) hg hat); replace HO_498005 := Aside0.mk (Kd.V_afterv (ok := (fun k_ => ((P0_3_ k_ ∨ P0_4_ k_ ∨ P0_5_ k_ ∨ P0_7_ k_) ∨ w.heap.size ≤ k_) ∧ some k_ ≠ (u498001 : Value).ownBlock ∧ k_ ≠ gb495 ∧ k_ ≠ gb496 ∧ k_ ≠ gb497)) (by refine vV_ ?_; exact Kd.V_mono HO_498005.out (fun _ hk => ⟨⟨hk.1, ⟨hk.2.1, ⟨hk.2.2.2.1, ⟨hk.2.2.2.2.1, hk.2.2.2.2.2⟩⟩⟩⟩, hk.2.2.1⟩)) hg hat); replace HO_498007 := Aside0.mk (Kd.V_afterv (ok := (fun k_ => ((P0_3_ k_ ∨ P0_4_ k_ ∨ P0_5_ k_ ∨ P0_7_ k_) ∨ w.heap.size ≤ k_) ∧ some k_ ≠ (u498001 : Value).ownBlock ∧ k_ ≠ gb495 ∧ k_ ≠ gb496 ∧ k_ ≠ gb497)) (by refine vV_ ?_; exact Kd.V_mono HO_498007.out (fun _ hk => ⟨⟨hk.1, ⟨hk.2.1, ⟨hk.2.2.2.1, ⟨hk.2.2.2.2.1, hk.2.2.2.2.2⟩⟩⟩⟩, hk.2.2.1⟩)) hg hat); replace BK495 := Aside0.mk (blk_grown (bk_ BK495.out) hg (Kd.R_ne HO_498002.out BK495.out (by decide))); replace BK496 := Aside0.mk (blk_grown (bk_ BK496.out) hg (Kd.R_ne HO_498002.out BK496.out (by decide))); replace BK497 := Aside0.mk (blk_grown (bk_ BK497.out) hg (Kd.R_ne HO_498002.out BK497.out (by decide))); replace HB := Aside0.mk (hb); have HO503 := Aside0.mk (ho); clear HO_498002; clear ho hb hg hat; obtain ⟨Ao31, co31, eo31⟩ := Kd.R_slice HO503.out; subst eo31; obtain ⟨_, _, _, _, _, _, _, _, _, _, _, _, _, _, _, _⟩ := cel8_ BK497.out))
        go_roundg k2
        case measure => have := HK1.out; have := HK2.out; omega
        case rel => exact ⟨(wrap64 (x5_2 + 1)), (y501), (.slice Ao31 y501.length co31), eq_, H', ⟨by have := HK1.out; have := HK2.out; omega⟩, ⟨by refine vV_ ?_; exact Kd.V_mono (Kd.V_far (Kd.V_mono HO_496003.out (fun k_ hk => (⟨hk, hk.1.2.2.2.2⟩ : _ ∧ k_ ≠ gb497))) (fun _ hk => hk.2) _) (fun _ hk => ⟨hk.1.1.1, ⟨hk.1.1.2.1, ⟨hk.1.2, ⟨hk.1.1.2.2.1, ⟨hk.1.1.2.2.2.1, hk.1.1.2.2.2.2⟩⟩⟩⟩⟩)⟩, ⟨by refine vV_ ?_; exact Kd.V_mono (Kd.V_far (Kd.V_mono HO_496004.out (fun k_ hk => (⟨hk, hk.1.2.2.2.2⟩ : _ ∧ k_ ≠ gb497))) (fun _ hk => hk.2) _) (fun _ hk => ⟨hk.1.1.1, ⟨hk.1.1.2.1, ⟨hk.1.2, ⟨hk.1.1.2.2.1, ⟨hk.1.1.2.2.2.1, hk.1.1.2.2.2.2⟩⟩⟩⟩⟩)⟩, ⟨by refine vV_ ?_; exact Kd.V_mono (Kd.V_far (Kd.V_mono HO_496005.out (fun k_ hk => (⟨hk, hk.1.2.2.2.2⟩ : _ ∧ k_ ≠ gb497))) (fun _ hk => hk.2) _) (fun _ hk => ⟨hk.1.1.1, ⟨hk.1.1.2.1, ⟨hk.1.2, ⟨hk.1.1.2.2.1, ⟨hk.1.1.2.2.2.1, hk.1.1.2.2.2.2⟩⟩⟩⟩⟩)⟩, ⟨by refine vV_ ?_; exact Kd.V_mono (Kd.V_far (Kd.V_mono HO_496007.out (fun k_ hk => (⟨hk, hk.1.2.2.2.2⟩ : _ ∧ k_ ≠ gb497))) (fun _ hk => hk.2) _) (fun _ hk => ⟨hk.1.1.1, ⟨hk.1.1.2.1, ⟨hk.1.2, ⟨hk.1.1.2.2.1, ⟨hk.1.1.2.2.2.1, hk.1.1.2.2.2.2⟩⟩⟩⟩⟩)⟩, ⟨by refine vR_ ?_; exact Kd.R_mono (Kd.R_far (Kd.R_types HO_498001.out BK497.out (by decide)) (fun _ hk => hk.2) _) (fun _ hk => ⟨hk.1.1, hk.1.2⟩)⟩, ⟨by refine vR_ ?_; exact Kd.R_mono (Kd.R_far (Kd.R_types HO503.out BK497.out (by decide)) (fun _ hk => hk.2) _) (fun _ hk => ⟨hk.1.1, hk.1.2⟩)⟩, ⟨by refine vV_ ?_; exact Kd.V_mono (Kd.V_far (Kd.V_mono HO_498003.out (fun k_ hk => (⟨hk, hk.1.2.2.2.2⟩ : _ ∧ k_ ≠ gb497))) (fun _ hk => hk.2) _) (fun _ hk => ⟨hk.1.1.1, ⟨hk.1.1.2.1, ⟨hk.1.2, ⟨hk.1.1.2.2.1, ⟨hk.1.1.2.2.2.1, hk.1.1.2.2.2.2⟩⟩⟩⟩⟩)⟩, ⟨by refine vV_ ?_; exact Kd.V_mono (Kd.V_far (Kd.V_mono HO_498004.out (fun k_ hk => (⟨hk, hk.1.2.2.2.2⟩ : _ ∧ k_ ≠ gb497))) (fun _ hk => hk.2) _) (fun _ hk => ⟨hk.1.1.1, ⟨hk.1.1.2.1, ⟨hk.1.2, ⟨hk.1.1.2.2.1, ⟨hk.1.1.2.2.2.1, hk.1.1.2.2.2.2⟩⟩⟩⟩⟩)⟩, ⟨by refine vV_ ?_; exact Kd.V_mono (Kd.V_far (Kd.V_mono HO_498005.out (fun k_ hk => (⟨hk, hk.1.2.2.2.2⟩ : _ ∧ k_ ≠ gb497))) (fun _ hk => hk.2) _) (fun _ hk => ⟨hk.1.1.1, ⟨hk.1.1.2.1, ⟨hk.1.2, ⟨hk.1.1.2.2.1, ⟨hk.1.1.2.2.2.1, hk.1.1.2.2.2.2⟩⟩⟩⟩⟩)⟩, ⟨by refine vV_ ?_; exact Kd.V_mono (Kd.V_far (Kd.V_mono HO_498007.out (fun k_ hk => (⟨hk, hk.1.2.2.2.2⟩ : _ ∧ k_ ≠ gb497))) (fun _ hk => hk.2) _) (fun _ hk => ⟨hk.1.1.1, ⟨hk.1.1.2.1, ⟨hk.1.2, ⟨hk.1.1.2.2.1, ⟨hk.1.1.2.2.2.1, hk.1.1.2.2.2.2⟩⟩⟩⟩⟩)⟩, ⟨by refine bk_ ?_; refine blk_far ?_ NB495_497.out _; refine bk_ ?_; exact BK495.out⟩, ⟨by refine bk_ ?_; refine blk_far ?_ NB496_497.out _; refine bk_ ?_; exact BK496.out⟩, ⟨by refine bk_ ?_; refine blk_put (cs := #[.int .i64 a0_0, u498001, u498002, .slice A0_3 l0_3.length c0_3, .slice A0_4 l0_4.length c0_4, .slice A0_5 l0_5.length c0_5, .int .i64 a0_6, .slice A0_7 l0_7.length c0_7]) ?_ 2 _ rfl; refine bk_ ?_; exact BK497.out⟩, ⟨bel_⟩⟩
       ·
        rw [if_neg c24] at H
        exact absurd H (by simp)
      ·
       rw [if_neg c23] at H
       have c23b0 : decide (x5_2 < (l0_2.length : Int)) = false := decide_eq_false c23
       clear c23
       simp only [Option.some.injEq, Prod.mk.injEq] at H
       obtain ⟨rfl, rfl, rfl, rfl, rfl, rfl, rfl, rfl⟩ := H
       have hnb33 := NB495_496.out
       have hnc33 := NB496_495.out
       have hnb34 := NB495_497.out
       have hnc34 := NB497_495.out
       obtain ⟨_, _, _, _, _, _, _, _, _, _, _, _, _, _, _, _⟩ := cel8_ BK495.out
       have hnb36 := NB497_496.out
       have hnc36 := NB496_497.out
       obtain ⟨_, _, _, _, _, _, _, _, _, _, _, _, _, _, _, _⟩ := cel8_ BK497.out
       obtain ⟨_, _, _, _, _, _, _, _, _, _, _, _, _, _, _, _⟩ := cel8_ BK496.out
       obtain ⟨Ao39, co39, eo39⟩ := Kd.R_slice HO_498001.out
       subst eo39
       obtain ⟨Ao40, co40, eo40⟩ := Kd.R_slice HO_498002.out
       subst eo40
       go_wp2
       refine bodyPost_ret (results_cell_row rfl _ _ gb496 32 #[.int .i64 a0_0, .slice Ao39 x498001_1.length co39, .slice Ao40 x498002_2.length co40, .slice A0_3 l0_3.length c0_3, .slice A0_4 l0_4.length c0_4, .slice A0_5 l0_5.length c0_5, .int .i64 a0_6, .slice A0_7 l0_7.length c0_7] (0, 0) _ rfl (by refine bk_ ?_; refine blk_put (cs := #[.int .i64 a0_0, .slice Ao39 x498001_1.length co39, .slice Ao40 x498002_2.length co40, .slice A0_3 l0_3.length c0_3, .slice A0_4 l0_4.length c0_4, .slice A0_5 l0_5.length c0_5, .int .i64 a0_6, .slice none 0 0]) ?_ 7 _ rfl; refine bk_ ?_; refine blk_put (cs := #[.int .i64 a0_0, .slice Ao39 x498001_1.length co39, .slice Ao40 x498002_2.length co40, .slice A0_3 l0_3.length c0_3, .slice A0_4 l0_4.length c0_4, .slice A0_5 l0_5.length c0_5, .int .i64 0, .slice none 0 0]) ?_ 6 _ rfl; refine bk_ ?_; refine blk_put (cs := #[.int .i64 a0_0, .slice Ao39 x498001_1.length co39, .slice Ao40 x498002_2.length co40, .slice A0_3 l0_3.length c0_3, .slice A0_4 l0_4.length c0_4, .slice none 0 0, .int .i64 0, .slice none 0 0]) ?_ 5 _ rfl; refine bk_ ?_; refine blk_put (cs := #[.int .i64 a0_0, .slice Ao39 x498001_1.length co39, .slice Ao40 x498002_2.length co40, .slice A0_3 l0_3.length c0_3, .slice none 0 0, .slice none 0 0, .int .i64 0, .slice none 0 0]) ?_ 4 _ rfl; refine bk_ ?_; refine blk_put (cs := #[.int .i64 a0_0, .slice Ao39 x498001_1.length co39, .slice Ao40 x498002_2.length co40, .slice none 0 0, .slice none 0 0, .slice none 0 0, .int .i64 0, .slice none 0 0]) ?_ 3 _ rfl; refine bk_ ?_; refine blk_put (cs := #[.int .i64 a0_0, .slice Ao39 x498001_1.length co39, .slice none 0 0, .slice none 0 0, .slice none 0 0, .slice none 0 0, .int .i64 0, .slice none 0 0]) ?_ 2 _ rfl; refine bk_ ?_; refine blk_put (cs := #[.int .i64 a0_0, .slice none 0 0, .slice none 0 0, .slice none 0 0, .slice none 0 0, .slice none 0 0, .int .i64 0, .slice none 0 0]) ?_ 1 _ rfl; refine bk_ ?_; refine blk_put (cs := #[.int .i64 0, .slice none 0 0, .slice none 0 0, .slice none 0 0, .slice none 0 0, .slice none 0 0, .int .i64 0, .slice none 0 0]) ?_ 0 _ rfl; refine bk_ ?_; exact BK496.out) Tryz.underlying32 rfl (by kernel_rfl)) rfl ?_
       exact ⟨_, _, _, _, _, _, by first | rfl | (simp [errW_none, errW_some] <;> rfl) | (simp [*, errW_none, errW_some] <;> rfl), by refine vR_ ?_; exact Kd.R_mono (Kd.R_far (Kd.R_far (Kd.R_far (Kd.R_far (Kd.R_far (Kd.R_far (Kd.R_far (Kd.R_far (Kd.R_types HO_498001.out BK496.out (by decide)) (fun _ hk => hk.2) _) (fun _ hk => hk.2) _) (fun _ hk => hk.2) _) (fun _ hk => hk.2) _) (fun _ hk => hk.2) _) (fun _ hk => hk.2) _) (fun _ hk => hk.2) _) (fun _ hk => hk.2) _) (fun _ hk => ⟨hk.1.1, hk.1.2⟩), by refine vR_ ?_; exact Kd.R_mono (Kd.R_far (Kd.R_far (Kd.R_far (Kd.R_far (Kd.R_far (Kd.R_far (Kd.R_far (Kd.R_far (Kd.R_types HO_498002.out BK496.out (by decide)) (fun _ hk => hk.2) _) (fun _ hk => hk.2) _) (fun _ hk => hk.2) _) (fun _ hk => hk.2) _) (fun _ hk => hk.2) _) (fun _ hk => hk.2) _) (fun _ hk => hk.2) _) (fun _ hk => hk.2) _) (fun _ hk => ⟨hk.1.1, hk.1.2⟩), by refine vV_ ?_; exact Kd.V_mono (Kd.V_far (Kd.V_far (Kd.V_far (Kd.V_far (Kd.V_far (Kd.V_far (Kd.V_far (Kd.V_far (Kd.V_mono HO_498003.out (fun k_ hk => (⟨hk, hk.2.2.2.2.1⟩ : _ ∧ k_ ≠ gb496))) (fun _ hk => hk.2) _) (fun _ hk => hk.2) _) (fun _ hk => hk.2) _) (fun _ hk => hk.2) _) (fun _ hk => hk.2) _) (fun _ hk => hk.2) _) (fun _ hk => hk.2) _) (fun _ hk => hk.2) _) (fun _ hk => ⟨hk.1.1, ⟨hk.1.2.1, hk.1.2.2.1⟩⟩), by refine vV_ ?_; exact Kd.V_mono (Kd.V_far (Kd.V_far (Kd.V_far (Kd.V_far (Kd.V_far (Kd.V_far (Kd.V_far (Kd.V_far (Kd.V_mono HO_498004.out (fun k_ hk => (⟨hk, hk.2.2.2.2.1⟩ : _ ∧ k_ ≠ gb496))) (fun _ hk => hk.2) _) (fun _ hk => hk.2) _) (fun _ hk => hk.2) _) (fun _ hk => hk.2) _) (fun _ hk => hk.2) _) (fun _ hk => hk.2) _) (fun _ hk => hk.2) _) (fun _ hk => hk.2) _) (fun _ hk => ⟨hk.1.1, ⟨hk.1.2.1, hk.1.2.2.1⟩⟩), by refine vV_ ?_; exact Kd.V_mono (Kd.V_far (Kd.V_far (Kd.V_far (Kd.V_far (Kd.V_far (Kd.V_far (Kd.V_far (Kd.V_far (Kd.V_mono HO_498005.out (fun k_ hk => (⟨hk, hk.2.2.2.2.1⟩ : _ ∧ k_ ≠ gb496))) (fun _ hk => hk.2) _) (fun _ hk => hk.2) _) (fun _ hk => hk.2) _) (fun _ hk => hk.2) _) (fun _ hk => hk.2) _) (fun _ hk => hk.2) _) (fun _ hk => hk.2) _) (fun _ hk => hk.2) _) (fun _ hk => ⟨hk.1.1, ⟨hk.1.2.1, hk.1.2.2.1⟩⟩), by refine vV_ ?_; exact Kd.V_mono (Kd.V_far (Kd.V_far (Kd.V_far (Kd.V_far (Kd.V_far (Kd.V_far (Kd.V_far (Kd.V_far (Kd.V_mono HO_498007.out (fun k_ hk => (⟨hk, hk.2.2.2.2.1⟩ : _ ∧ k_ ≠ gb496))) (fun _ hk => hk.2) _) (fun _ hk => hk.2) _) (fun _ hk => hk.2) _) (fun _ hk => hk.2) _) (fun _ hk => hk.2) _) (fun _ hk => hk.2) _) (fun _ hk => hk.2) _) (fun _ hk => hk.2) _) (fun _ hk => ⟨hk.1.1, ⟨hk.1.2.1, hk.1.2.2.1⟩⟩), bel_⟩

end Go.Proofs.YtmhchlbbfpmdgaaGreatDoor.XClauseKeeps
