-- by xprint.py, a program of this session, over the kit's print
import Derived.Test.YtmhchlbbfpmdgaaGreatDoorXCFmx3
import Derived.Test.YtmhchlbbfpmdgaaGreatDoorSq
namespace Go.Proofs.YtmhchlbbfpmdgaaGreatDoor.XClauseFilters
open Go.RowKit Go.Proofs.YtmhchlbbfpmdgaaGreatDoor.Sq Go.Proofs.YtmhchlbbfpmdgaaGreatDoorW.PrintWords Go.Proofs.YtmhchlbbfpmdgaaGreatDoorW.PrintLast Go.Proofs.YtmhchlbbfpmdgaaGreatDoorW.PrintMore
attribute [local go_sem] max2_int min2_int max_two min_two max_three min_three max_four min_four   -- for this text's walks alone
set_option linter.unusedVariables false
set_option linter.unusedSimpArgs false

/-! ### jigsawref10_Local: function 20 -/
mutual
def jigsawref10_Local.l0 : Nat → Int → Int → List Int → List Int → List Int → List Int → List Int → Int → List (List Int) → Int → List Int → List Int → List Int → List Int → Int → List (List Int) → Option (Int × List Int × List Int × List Int × List Int × List Int × Int × (List (List Int)))
 | 0, _, _, _, _, _, _, _, _, _, _, _, _, _, _, _, _ => none
 | k + 1, x4, x534000, x534001, x534002, x534003, x534004, x534005, x534006, x534007, x536000, x536001, x536003, x536004, x536005, x536006, x536007 => if x4 < (x534001.length : Int) then (if x536001.length < 17592186044416 then (jigsawref10_Local.l0 k (wrap64 (x4 + 1)) x534000 x534001 x534002 x534003 x534004 x534005 x534006 x534007 x536000 (x536001 ++ [x4]) x536003 x536004 x536005 x536006 x536007) else (none)) else (jigsawref10_Local.l1 k 0 x534000 x534001 x534002 x534003 x534004 x534005 x534006 x534007 x536000 x536001 ([] : List Int) x536003 x536004 x536005 x536006 x536007)
def jigsawref10_Local.l1 : Nat → Int → Int → List Int → List Int → List Int → List Int → List Int → Int → List (List Int) → Int → List Int → List Int → List Int → List Int → List Int → Int → List (List Int) → Option (Int × List Int × List Int × List Int × List Int × List Int × Int × (List (List Int)))
 | 0, _, _, _, _, _, _, _, _, _, _, _, _, _, _, _, _, _ => none
 | k + 1, x5, x534000, x534001, x534002, x534003, x534004, x534005, x534006, x534007, x536000, x536001, x536002, x536003, x536004, x536005, x536006, x536007 => if x5 < (x534002.length : Int) then (if x536002.length < 17592186044416 then (jigsawref10_Local.l1 k (wrap64 (x5 + 1)) x534000 x534001 x534002 x534003 x534004 x534005 x534006 x534007 x536000 x536001 (x536002 ++ [wrap64 ((x534001.length : Int) + x5)]) x536003 x536004 x536005 x536006 x536007) else (none)) else (some (x536000, x536001, x536002, x536003, x536004, x536005, x536006, x536007))
end
def jigsawref10_Local.f (k : Nat) (a0_0 : Int) (l0_1 : List Int) (l0_2 : List Int) (l0_3 : List Int) (l0_4 : List Int) (l0_5 : List Int) (a0_6 : Int) (l0_7 : List (List Int)) : Option (Int × List Int × List Int × List Int × List Int × List Int × Int × (List (List Int))) := jigsawref10_Local.l0 k 0 a0_0 l0_1 l0_2 l0_3 l0_4 l0_5 a0_6 l0_7 a0_0 ([] : List Int) l0_3 l0_4 l0_5 a0_6 l0_7
theorem jigsawref10_Local.mono_l : ∀ k, (∀ y0 y1 y2 y3 y4 y5 y6 y7 y8 y9 y10 y11 y12 y13 y14 y15, LeO (jigsawref10_Local.l0 k y0 y1 y2 y3 y4 y5 y6 y7 y8 y9 y10 y11 y12 y13 y14 y15) (jigsawref10_Local.l0 (k + 1) y0 y1 y2 y3 y4 y5 y6 y7 y8 y9 y10 y11 y12 y13 y14 y15)) ∧ (∀ y0 y1 y2 y3 y4 y5 y6 y7 y8 y9 y10 y11 y12 y13 y14 y15 y16, LeO (jigsawref10_Local.l1 k y0 y1 y2 y3 y4 y5 y6 y7 y8 y9 y10 y11 y12 y13 y14 y15 y16) (jigsawref10_Local.l1 (k + 1) y0 y1 y2 y3 y4 y5 y6 y7 y8 y9 y10 y11 y12 y13 y14 y15 y16))
 | 0 => ⟨fun _ _ _ _ _ _ _ _ _ _ _ _ _ _ _ _ r h => by simp [jigsawref10_Local.l0] at h, fun _ _ _ _ _ _ _ _ _ _ _ _ _ _ _ _ _ r h => by simp [jigsawref10_Local.l1] at h⟩
 | k + 1 => by
  obtain ⟨ih0, ih1⟩ := jigsawref10_Local.mono_l k
  refine ⟨?_, ?_⟩
  ·
   intro y0 y1 y2 y3 y4 y5 y6 y7 y8 y9 y10 y11 y12 y13 y14 y15
   unfold jigsawref10_Local.l0
   exact leo_
  ·
   intro y0 y1 y2 y3 y4 y5 y6 y7 y8 y9 y10 y11 y12 y13 y14 y15 y16
   unfold jigsawref10_Local.l1
   exact leo_
theorem jigsawref10_Local.mono : ∀ a0 a1 a2 a3 a4 a5 a6 a7 k, LeO (jigsawref10_Local.f k a0 a1 a2 a3 a4 a5 a6 a7) (jigsawref10_Local.f (k + 1) a0 a1 a2 a3 a4 a5 a6 a7) := by
 intro a0 a1 a2 a3 a4 a5 a6 a7 k
 obtain ⟨ih0, ih1⟩ := jigsawref10_Local.mono_l k
 unfold jigsawref10_Local.f
 exact leo_
set_option maxHeartbeats 8000000 in
set_option maxRecDepth 100000 in
theorem jigsawref10_Local.calls (k : Nat) (a0_0 : Int) (A0_1 : Option Addr) (c0_1 : Nat) (l0_1 : List Int) (A0_2 : Option Addr) (c0_2 : Nat) (l0_2 : List Int) (P0_3_ : Nat → Prop) (A0_3 : Option Addr) (c0_3 : Nat) (l0_3 : List Int) (P0_4_ : Nat → Prop) (A0_4 : Option Addr) (c0_4 : Nat) (l0_4 : List Int) (P0_5_ : Nat → Prop) (A0_5 : Option Addr) (c0_5 : Nat) (l0_5 : List Int) (a0_6 : Int) (P0_7_ : Nat → Prop) (A0_7 : Option Addr) (c0_7 : Nat) (l0_7 : List (List Int)) (r1 : Int) (r2 : List Int) (r3 : List Int) (r4 : List Int) (r5 : List Int) (r6 : List Int) (r7 : Int) (r8 : List (List Int)) (w : World) (hr0_1 : Kd.C (Kd.int .i64) w A0_1 l0_1.length l0_1) (hc0_1 : l0_1.length ≤ c0_1) (hr0_2 : Kd.C (Kd.int .i64) w A0_2 l0_2.length l0_2) (hc0_2 : l0_2.length ≤ c0_2) (hs0_3 : Kd.V (Kd.int .i64) 3 w w.heap.size (fun k_ => P0_3_ k_) (.slice A0_3 l0_3.length c0_3) l0_3) (hs0_4 : Kd.V (Kd.int .i64) 3 w w.heap.size (fun k_ => P0_4_ k_) (.slice A0_4 l0_4.length c0_4) l0_4) (hs0_5 : Kd.V (Kd.int .i64) 3 w w.heap.size (fun k_ => P0_5_ k_) (.slice A0_5 l0_5.length c0_5) l0_5) (hs0_7 : Kd.V (Kd.slice 3 (Kd.int .i64)) 30 w w.heap.size (fun k_ => P0_7_ k_) (.slice A0_7 l0_7.length c0_7) l0_7) (h : jigsawref10_Local.f k a0_0 l0_1 l0_2 l0_3 l0_4 l0_5 a0_6 l0_7 = some (r1, r2, r3, r4, r5, r6, r7, r8)) :
  Calls Tryz.prog 20 #[.agg #[.int .i64 a0_0, .slice A0_1 l0_1.length c0_1, .slice A0_2 l0_2.length c0_2, .slice A0_3 l0_3.length c0_3, .slice A0_4 l0_4.length c0_4, .slice A0_5 l0_5.length c0_5, .int .i64 a0_6, .slice A0_7 l0_7.length c0_7]] w fun e w' => ∃ v1_ v2_ v3_ v4_ v5_ v7_ : Value, e = .returned (.agg #[.int .i64 r1, v1_, v2_, v3_, v4_, v5_, .int .i64 r7, v7_]) ∧ Kd.R (Kd.int .i64) 3 w' w.heap.size (fun k_ => (w.heap.size ≤ k_) ∧ some k_ ≠ (v2_ : Value).ownBlock) v1_ r2 ∧ Kd.R (Kd.int .i64) 3 w' w.heap.size (fun k_ => (w.heap.size ≤ k_) ∧ some k_ ≠ (v1_ : Value).ownBlock) v2_ r3 ∧ Kd.V (Kd.int .i64) 3 w' w.heap.size (fun k_ => ((P0_3_ k_ ∨ P0_4_ k_ ∨ P0_5_ k_ ∨ P0_7_ k_) ∨ w.heap.size ≤ k_) ∧ some k_ ≠ (v1_ : Value).ownBlock ∧ some k_ ≠ (v2_ : Value).ownBlock) v3_ r4 ∧ Kd.V (Kd.int .i64) 3 w' w.heap.size (fun k_ => ((P0_3_ k_ ∨ P0_4_ k_ ∨ P0_5_ k_ ∨ P0_7_ k_) ∨ w.heap.size ≤ k_) ∧ some k_ ≠ (v1_ : Value).ownBlock ∧ some k_ ≠ (v2_ : Value).ownBlock) v4_ r5 ∧ Kd.V (Kd.int .i64) 3 w' w.heap.size (fun k_ => ((P0_3_ k_ ∨ P0_4_ k_ ∨ P0_5_ k_ ∨ P0_7_ k_) ∨ w.heap.size ≤ k_) ∧ some k_ ≠ (v1_ : Value).ownBlock ∧ some k_ ≠ (v2_ : Value).ownBlock) v5_ r6 ∧ Kd.V (Kd.slice 3 (Kd.int .i64)) 30 w' w.heap.size (fun k_ => ((P0_3_ k_ ∨ P0_4_ k_ ∨ P0_5_ k_ ∨ P0_7_ k_) ∨ w.heap.size ≤ k_) ∧ some k_ ≠ (v1_ : Value).ownBlock ∧ some k_ ≠ (v2_ : Value).ownBlock) v7_ r8 ∧ Below w.heap.size w w' := by
 have hu32 := Tryz.underlying32
 have HC0_1 := Aside0.mk hc0_1
 clear hr0_1 hc0_1
 have HC0_2 := Aside0.mk hc0_2
 clear hr0_2 hc0_2
 have HO0_3 := Aside0.mk (show Kd.V (Kd.int .i64) 3 w w.heap.size (fun k_ => ((P0_3_ k_ ∨ P0_4_ k_ ∨ P0_5_ k_ ∨ P0_7_ k_) ∨ w.heap.size ≤ k_)) (.slice A0_3 l0_3.length c0_3) l0_3 from Kd.V_mono hs0_3 (fun k_ hk => .inl (.inl hk)))
 have HO0_4 := Aside0.mk (show Kd.V (Kd.int .i64) 3 w w.heap.size (fun k_ => ((P0_3_ k_ ∨ P0_4_ k_ ∨ P0_5_ k_ ∨ P0_7_ k_) ∨ w.heap.size ≤ k_)) (.slice A0_4 l0_4.length c0_4) l0_4 from Kd.V_mono hs0_4 (fun k_ hk => .inl (.inr (.inl hk))))
 have HO0_5 := Aside0.mk (show Kd.V (Kd.int .i64) 3 w w.heap.size (fun k_ => ((P0_3_ k_ ∨ P0_4_ k_ ∨ P0_5_ k_ ∨ P0_7_ k_) ∨ w.heap.size ≤ k_)) (.slice A0_5 l0_5.length c0_5) l0_5 from Kd.V_mono hs0_5 (fun k_ hk => .inl (.inr (.inr (.inl hk)))))
 have HO0_7 := Aside0.mk (show Kd.V (Kd.slice 3 (Kd.int .i64)) 30 w w.heap.size (fun k_ => ((P0_3_ k_ ∨ P0_4_ k_ ∨ P0_5_ k_ ∨ P0_7_ k_) ∨ w.heap.size ≤ k_)) (.slice A0_7 l0_7.length c0_7) l0_7 from Kd.V_mono hs0_7 (fun k_ hk => .inl (.inr (.inr (.inr hk)))))
 have HB := Aside0.mk (Below.refl w.heap.size w)
 unfold jigsawref10_Local.f at h
 have H := h
 clear h
 have H' := Aside0.mk H
 clear H
 go_enter Tryz.func20, Tryz.ntmps20
 go_wp2_with (first | ((with_reducible refine gate_dst (N := 1) rfl ?_); refine bxe_ (N := 1) (cs := #[.int .i64 a0_0, .slice A0_1 l0_1.length c0_1, .slice A0_2 l0_2.length c0_2, .slice A0_3 l0_3.length c0_3, .slice A0_4 l0_4.length c0_4, .slice A0_5 l0_5.length c0_5, .int .i64 a0_6, .slice A0_7 l0_7.length c0_7]) (t := 32) ?_; intro gb533 hg w2 hbox hb; replace HO0_3 := Aside0.mk (Kd.V_below (Kd.V_elderB (vV_ HO0_3.out) gb533 (Nat.le_of_eq hg.symm)) hb); replace HO0_4 := Aside0.mk (Kd.V_below (Kd.V_elderB (vV_ HO0_4.out) gb533 (Nat.le_of_eq hg.symm)) hb); replace HO0_5 := Aside0.mk (Kd.V_below (Kd.V_elderB (vV_ HO0_5.out) gb533 (Nat.le_of_eq hg.symm)) hb); replace HO0_7 := Aside0.mk (Kd.V_below (Kd.V_elderB (vV_ HO0_7.out) gb533 (Nat.le_of_eq hg.symm)) hb); have BK533 := Aside0.mk (hbox); have GW533 := Aside0.mk (by rw [hg]; exact (below_size bel_) : w.heap.size ≤ gb533); have GE533 := GW533; replace HB := Aside0.mk (below_step bel_ hb); clear hb hbox hg) | ((with_reducible refine gate_dst (N := 2) rfl ?_); refine bxe_ (N := 2) (cs := #[.int .i64 0, .slice none 0 0, .slice none 0 0, .slice none 0 0, .slice none 0 0, .slice none 0 0, .int .i64 0, .slice none 0 0]) (t := 32) ?_; intro gb534 hg w3 hbox hb; replace HO0_3 := Aside0.mk (Kd.V_below (Kd.V_elderB (vV_ HO0_3.out) gb534 (Nat.le_of_eq hg.symm)) hb); replace HO0_4 := Aside0.mk (Kd.V_below (Kd.V_elderB (vV_ HO0_4.out) gb534 (Nat.le_of_eq hg.symm)) hb); replace HO0_5 := Aside0.mk (Kd.V_below (Kd.V_elderB (vV_ HO0_5.out) gb534 (Nat.le_of_eq hg.symm)) hb); replace HO0_7 := Aside0.mk (Kd.V_below (Kd.V_elderB (vV_ HO0_7.out) gb534 (Nat.le_of_eq hg.symm)) hb); have BK534 := Aside0.mk (hbox); have GW534 := Aside0.mk (by rw [hg]; exact (below_size bel_) : w.heap.size ≤ gb534); have GE534 := GW534; replace HB := Aside0.mk (below_step bel_ hb); have NB533_534 := Aside0.mk ((by rw [hg]; exact Nat.ne_of_lt (blk_lt (bk_ BK533.out)) : gb533 ≠ gb534)); have NB534_533 := Aside0.mk ((by rw [hg]; exact Nat.ne_of_gt (blk_lt (bk_ BK533.out)) : gb534 ≠ gb533)); replace BK533 := Aside0.mk (blk_below (bk_ BK533.out) hb); clear hb hbox hg; have hnb4 := NB533_534.out; have hnc4 := NB534_533.out; obtain ⟨_, _, _, _, _, _, _, _, _, _, _, _, _, _, _, _⟩ := cel8_ BK533.out) | ((with_reducible refine gate_dst (N := 3) rfl ?_); refine bxe_ (N := 3) (cs := #[.int .i64 0, .slice none 0 0, .slice none 0 0, .slice none 0 0, .slice none 0 0, .slice none 0 0, .int .i64 0, .slice none 0 0]) (t := 32) ?_; intro gb535 hg w6 hbox hb; replace HO0_3 := Aside0.mk (Kd.V_below (Kd.V_elderB (vV_ HO0_3.out) gb535 (Nat.le_of_eq hg.symm)) hb); replace HO0_4 := Aside0.mk (Kd.V_below (Kd.V_elderB (vV_ HO0_4.out) gb535 (Nat.le_of_eq hg.symm)) hb); replace HO0_5 := Aside0.mk (Kd.V_below (Kd.V_elderB (vV_ HO0_5.out) gb535 (Nat.le_of_eq hg.symm)) hb); replace HO0_7 := Aside0.mk (Kd.V_below (Kd.V_elderB (vV_ HO0_7.out) gb535 (Nat.le_of_eq hg.symm)) hb); have BK535 := Aside0.mk (hbox); have GW535 := Aside0.mk (by rw [hg]; exact (below_size bel_) : w.heap.size ≤ gb535); have GE535 := GW535; replace HB := Aside0.mk (below_step bel_ hb); have NB533_535 := Aside0.mk ((by rw [hg]; exact Nat.ne_of_lt (blk_lt (bk_ BK533.out)) : gb533 ≠ gb535)); have NB535_533 := Aside0.mk ((by rw [hg]; exact Nat.ne_of_gt (blk_lt (bk_ BK533.out)) : gb535 ≠ gb533)); replace BK533 := Aside0.mk (blk_below (bk_ BK533.out) hb); have NB534_535 := Aside0.mk ((by rw [hg]; exact Nat.ne_of_lt (blk_lt (bk_ BK534.out)) : gb534 ≠ gb535)); have NB535_534 := Aside0.mk ((by rw [hg]; exact Nat.ne_of_gt (blk_lt (bk_ BK534.out)) : gb535 ≠ gb534)); replace BK534 := Aside0.mk (blk_below (bk_ BK534.out) hb); clear hb hbox hg; have hnb7 := NB535_533.out; have hnc7 := NB533_535.out; have hnb8 := NB535_534.out; have hnc8 := NB534_535.out; obtain ⟨_, _, _, _, _, _, _, _, _, _, _, _, _, _, _, _⟩ := cel8_ BK535.out))
 go_loopg [4] k (fun kq v4 w' => ∃ (x4_1 : Int) (x536001_1 : List Int) (u536001 : Value), v4 = .int .i64 x4_1 ∧ Aside0 (jigsawref10_Local.l0 kq x4_1 a0_0 l0_1 l0_2 l0_3 l0_4 l0_5 a0_6 l0_7 a0_0 x536001_1 l0_3 l0_4 l0_5 a0_6 l0_7 = some (r1, r2, r3, r4, r5, r6, r7, r8)) ∧ Aside0 (kq ≤ k) ∧ Aside0 (Kd.V (Kd.int .i64) 3 w' w.heap.size (fun k_ => ((P0_3_ k_ ∨ P0_4_ k_ ∨ P0_5_ k_ ∨ P0_7_ k_) ∨ w.heap.size ≤ k_) ∧ some k_ ≠ (u536001 : Value).ownBlock ∧ k_ ≠ gb533 ∧ k_ ≠ gb534 ∧ k_ ≠ gb535) (.slice A0_3 l0_3.length c0_3) l0_3) ∧ Aside0 (Kd.V (Kd.int .i64) 3 w' w.heap.size (fun k_ => ((P0_3_ k_ ∨ P0_4_ k_ ∨ P0_5_ k_ ∨ P0_7_ k_) ∨ w.heap.size ≤ k_) ∧ some k_ ≠ (u536001 : Value).ownBlock ∧ k_ ≠ gb533 ∧ k_ ≠ gb534 ∧ k_ ≠ gb535) (.slice A0_4 l0_4.length c0_4) l0_4) ∧ Aside0 (Kd.V (Kd.int .i64) 3 w' w.heap.size (fun k_ => ((P0_3_ k_ ∨ P0_4_ k_ ∨ P0_5_ k_ ∨ P0_7_ k_) ∨ w.heap.size ≤ k_) ∧ some k_ ≠ (u536001 : Value).ownBlock ∧ k_ ≠ gb533 ∧ k_ ≠ gb534 ∧ k_ ≠ gb535) (.slice A0_5 l0_5.length c0_5) l0_5) ∧ Aside0 (Kd.V (Kd.slice 3 (Kd.int .i64)) 30 w' w.heap.size (fun k_ => ((P0_3_ k_ ∨ P0_4_ k_ ∨ P0_5_ k_ ∨ P0_7_ k_) ∨ w.heap.size ≤ k_) ∧ some k_ ≠ (u536001 : Value).ownBlock ∧ k_ ≠ gb533 ∧ k_ ≠ gb534 ∧ k_ ≠ gb535) (.slice A0_7 l0_7.length c0_7) l0_7) ∧ Aside0 (Kd.R (Kd.int .i64) 3 w' w.heap.size (fun k_ => (w.heap.size ≤ k_)) u536001 x536001_1) ∧ Aside0 (Kd.V (Kd.int .i64) 3 w' w.heap.size (fun k_ => ((P0_3_ k_ ∨ P0_4_ k_ ∨ P0_5_ k_ ∨ P0_7_ k_) ∨ w.heap.size ≤ k_) ∧ some k_ ≠ (u536001 : Value).ownBlock ∧ k_ ≠ gb533 ∧ k_ ≠ gb534 ∧ k_ ≠ gb535) (.slice A0_3 l0_3.length c0_3) l0_3) ∧ Aside0 (Kd.V (Kd.int .i64) 3 w' w.heap.size (fun k_ => ((P0_3_ k_ ∨ P0_4_ k_ ∨ P0_5_ k_ ∨ P0_7_ k_) ∨ w.heap.size ≤ k_) ∧ some k_ ≠ (u536001 : Value).ownBlock ∧ k_ ≠ gb533 ∧ k_ ≠ gb534 ∧ k_ ≠ gb535) (.slice A0_4 l0_4.length c0_4) l0_4) ∧ Aside0 (Kd.V (Kd.int .i64) 3 w' w.heap.size (fun k_ => ((P0_3_ k_ ∨ P0_4_ k_ ∨ P0_5_ k_ ∨ P0_7_ k_) ∨ w.heap.size ≤ k_) ∧ some k_ ≠ (u536001 : Value).ownBlock ∧ k_ ≠ gb533 ∧ k_ ≠ gb534 ∧ k_ ≠ gb535) (.slice A0_5 l0_5.length c0_5) l0_5) ∧ Aside0 (Kd.V (Kd.slice 3 (Kd.int .i64)) 30 w' w.heap.size (fun k_ => ((P0_3_ k_ ∨ P0_4_ k_ ∨ P0_5_ k_ ∨ P0_7_ k_) ∨ w.heap.size ≤ k_) ∧ some k_ ≠ (u536001 : Value).ownBlock ∧ k_ ≠ gb533 ∧ k_ ≠ gb534 ∧ k_ ≠ gb535) (.slice A0_7 l0_7.length c0_7) l0_7) ∧ Aside0 (w'.heap[gb533]? = some (.cells #[.int .i64 a0_0, (.slice A0_1 l0_1.length c0_1), (.slice A0_2 l0_2.length c0_2), (.slice A0_3 l0_3.length c0_3), (.slice A0_4 l0_4.length c0_4), (.slice A0_5 l0_5.length c0_5), .int .i64 a0_6, (.slice A0_7 l0_7.length c0_7)] 32 (0, 0))) ∧ Aside0 (w'.heap[gb534]? = some (.cells #[.int .i64 0, (.slice none 0 0), (.slice none 0 0), (.slice none 0 0), (.slice none 0 0), (.slice none 0 0), .int .i64 0, (.slice none 0 0)] 32 (0, 0))) ∧ Aside0 (w'.heap[gb535]? = some (.cells #[.int .i64 a0_0, u536001, (.slice none 0 0), (.slice A0_3 l0_3.length c0_3), (.slice A0_4 l0_4.length c0_4), (.slice A0_5 l0_5.length c0_5), .int .i64 a0_6, (.slice A0_7 l0_7.length c0_7)] 32 (0, 0))) ∧ Aside0 (Below w.heap.size w w'))
 case atStart => exact ⟨(0), (([] : List Int)), (.slice none 0 0), eq_, H', ⟨Nat.le_refl _⟩, ⟨by refine vV_ ?_; exact Kd.V_mono (fV_ (fV_ (fV_ (fV_ (fV_ (fV_ (fV_ (fV_ (fV_ (fV_ (Kd.V_mono HO0_3.out (fun k_ hk => (⟨hk, hk.2⟩ : _ ∧ k_ ≠ gb535))))))))))))) (fun _ hk => ⟨hk.1.1.1.1, ⟨(by simp [Value.ownBlock]), ⟨hk.1.1.1.2, ⟨hk.1.1.2, hk.1.2⟩⟩⟩⟩)⟩, ⟨by refine vV_ ?_; exact Kd.V_mono (fV_ (fV_ (fV_ (fV_ (fV_ (fV_ (fV_ (fV_ (fV_ (fV_ (Kd.V_mono HO0_4.out (fun k_ hk => (⟨hk, hk.2⟩ : _ ∧ k_ ≠ gb535))))))))))))) (fun _ hk => ⟨hk.1.1.1.1, ⟨(by simp [Value.ownBlock]), ⟨hk.1.1.1.2, ⟨hk.1.1.2, hk.1.2⟩⟩⟩⟩)⟩, ⟨by refine vV_ ?_; exact Kd.V_mono (fV_ (fV_ (fV_ (fV_ (fV_ (fV_ (fV_ (fV_ (fV_ (fV_ (Kd.V_mono HO0_5.out (fun k_ hk => (⟨hk, hk.2⟩ : _ ∧ k_ ≠ gb535))))))))))))) (fun _ hk => ⟨hk.1.1.1.1, ⟨(by simp [Value.ownBlock]), ⟨hk.1.1.1.2, ⟨hk.1.1.2, hk.1.2⟩⟩⟩⟩)⟩, ⟨by refine vV_ ?_; exact Kd.V_mono (fV_ (fV_ (fV_ (fV_ (fV_ (fV_ (fV_ (fV_ (fV_ (fV_ (Kd.V_mono HO0_7.out (fun k_ hk => (⟨hk, hk.2⟩ : _ ∧ k_ ≠ gb535))))))))))))) (fun _ hk => ⟨hk.1.1.1.1, ⟨(by simp [Value.ownBlock]), ⟨hk.1.1.1.2, ⟨hk.1.1.2, hk.1.2⟩⟩⟩⟩)⟩, ⟨nil_⟩, ⟨by refine vV_ ?_; exact Kd.V_mono (fV_ (fV_ (fV_ (fV_ (fV_ (fV_ (fV_ (fV_ (fV_ (fV_ (Kd.V_mono HO0_3.out (fun k_ hk => (⟨hk, hk.2⟩ : _ ∧ k_ ≠ gb535))))))))))))) (fun _ hk => ⟨hk.1.1.1.1, ⟨(by simp [Value.ownBlock]), ⟨hk.1.1.1.2, ⟨hk.1.1.2, hk.1.2⟩⟩⟩⟩)⟩, ⟨by refine vV_ ?_; exact Kd.V_mono (fV_ (fV_ (fV_ (fV_ (fV_ (fV_ (fV_ (fV_ (fV_ (fV_ (Kd.V_mono HO0_4.out (fun k_ hk => (⟨hk, hk.2⟩ : _ ∧ k_ ≠ gb535))))))))))))) (fun _ hk => ⟨hk.1.1.1.1, ⟨(by simp [Value.ownBlock]), ⟨hk.1.1.1.2, ⟨hk.1.1.2, hk.1.2⟩⟩⟩⟩)⟩, ⟨by refine vV_ ?_; exact Kd.V_mono (fV_ (fV_ (fV_ (fV_ (fV_ (fV_ (fV_ (fV_ (fV_ (fV_ (Kd.V_mono HO0_5.out (fun k_ hk => (⟨hk, hk.2⟩ : _ ∧ k_ ≠ gb535))))))))))))) (fun _ hk => ⟨hk.1.1.1.1, ⟨(by simp [Value.ownBlock]), ⟨hk.1.1.1.2, ⟨hk.1.1.2, hk.1.2⟩⟩⟩⟩)⟩, ⟨by refine vV_ ?_; exact Kd.V_mono (fV_ (fV_ (fV_ (fV_ (fV_ (fV_ (fV_ (fV_ (fV_ (fV_ (Kd.V_mono HO0_7.out (fun k_ hk => (⟨hk, hk.2⟩ : _ ∧ k_ ≠ gb535))))))))))))) (fun _ hk => ⟨hk.1.1.1.1, ⟨(by simp [Value.ownBlock]), ⟨hk.1.1.1.2, ⟨hk.1.1.2, hk.1.2⟩⟩⟩⟩)⟩, ⟨by refine bk_ ?_; refine blk_far ?_ NB533_535.out _; refine bk_ ?_; refine blk_far ?_ NB533_535.out _; refine bk_ ?_; refine blk_far ?_ NB533_535.out _; refine bk_ ?_; refine blk_far ?_ NB533_535.out _; refine bk_ ?_; refine blk_far ?_ NB533_535.out _; refine bk_ ?_; refine blk_far ?_ NB533_535.out _; refine bk_ ?_; refine blk_far ?_ NB533_535.out _; refine bk_ ?_; refine blk_far ?_ NB533_535.out _; refine bk_ ?_; refine blk_far ?_ NB533_535.out _; refine bk_ ?_; refine blk_far ?_ NB533_535.out _; refine bk_ ?_; exact BK533.out⟩, ⟨by refine bk_ ?_; refine blk_far ?_ NB534_535.out _; refine bk_ ?_; refine blk_far ?_ NB534_535.out _; refine bk_ ?_; refine blk_far ?_ NB534_535.out _; refine bk_ ?_; refine blk_far ?_ NB534_535.out _; refine bk_ ?_; refine blk_far ?_ NB534_535.out _; refine bk_ ?_; refine blk_far ?_ NB534_535.out _; refine bk_ ?_; refine blk_far ?_ NB534_535.out _; refine bk_ ?_; refine blk_far ?_ NB534_535.out _; refine bk_ ?_; refine blk_far ?_ NB534_535.out _; refine bk_ ?_; refine blk_far ?_ NB534_535.out _; refine bk_ ?_; exact BK534.out⟩, ⟨by refine bk_ ?_; refine blk_put (cs := #[.int .i64 a0_0, .slice none 0 0, .slice A0_2 l0_2.length c0_2, .slice A0_3 l0_3.length c0_3, .slice A0_4 l0_4.length c0_4, .slice A0_5 l0_5.length c0_5, .int .i64 a0_6, .slice A0_7 l0_7.length c0_7]) ?_ 2 _ rfl; refine bk_ ?_; refine blk_put (cs := #[.int .i64 a0_0, .slice A0_1 l0_1.length c0_1, .slice A0_2 l0_2.length c0_2, .slice A0_3 l0_3.length c0_3, .slice A0_4 l0_4.length c0_4, .slice A0_5 l0_5.length c0_5, .int .i64 a0_6, .slice A0_7 l0_7.length c0_7]) ?_ 1 _ rfl; refine bk_ ?_; refine blk_put (cs := #[.int .i64 a0_0, .slice A0_1 l0_1.length c0_1, .slice A0_2 l0_2.length c0_2, .slice A0_3 l0_3.length c0_3, .slice A0_4 l0_4.length c0_4, .slice A0_5 l0_5.length c0_5, .int .i64 a0_6, .slice none 0 0]) ?_ 7 _ rfl; refine bk_ ?_; refine blk_put (cs := #[.int .i64 a0_0, .slice A0_1 l0_1.length c0_1, .slice A0_2 l0_2.length c0_2, .slice A0_3 l0_3.length c0_3, .slice A0_4 l0_4.length c0_4, .slice A0_5 l0_5.length c0_5, .int .i64 0, .slice none 0 0]) ?_ 6 _ rfl; refine bk_ ?_; refine blk_put (cs := #[.int .i64 a0_0, .slice A0_1 l0_1.length c0_1, .slice A0_2 l0_2.length c0_2, .slice A0_3 l0_3.length c0_3, .slice A0_4 l0_4.length c0_4, .slice none 0 0, .int .i64 0, .slice none 0 0]) ?_ 5 _ rfl; refine bk_ ?_; refine blk_put (cs := #[.int .i64 a0_0, .slice A0_1 l0_1.length c0_1, .slice A0_2 l0_2.length c0_2, .slice A0_3 l0_3.length c0_3, .slice none 0 0, .slice none 0 0, .int .i64 0, .slice none 0 0]) ?_ 4 _ rfl; refine bk_ ?_; refine blk_put (cs := #[.int .i64 a0_0, .slice A0_1 l0_1.length c0_1, .slice A0_2 l0_2.length c0_2, .slice none 0 0, .slice none 0 0, .slice none 0 0, .int .i64 0, .slice none 0 0]) ?_ 3 _ rfl; refine bk_ ?_; refine blk_put (cs := #[.int .i64 a0_0, .slice A0_1 l0_1.length c0_1, .slice none 0 0, .slice none 0 0, .slice none 0 0, .slice none 0 0, .int .i64 0, .slice none 0 0]) ?_ 2 _ rfl; refine bk_ ?_; refine blk_put (cs := #[.int .i64 a0_0, .slice none 0 0, .slice none 0 0, .slice none 0 0, .slice none 0 0, .slice none 0 0, .int .i64 0, .slice none 0 0]) ?_ 1 _ rfl; refine bk_ ?_; refine blk_put (cs := #[.int .i64 0, .slice none 0 0, .slice none 0 0, .slice none 0 0, .slice none 0 0, .slice none 0 0, .int .i64 0, .slice none 0 0]) ?_ 0 _ rfl; refine bk_ ?_; exact BK535.out⟩, ⟨bel_⟩⟩
 case round =>
  clear H'
  try clear c2
  try clear p2
  try clear c4
  try clear c7
  try clear c8
  obtain ⟨x4_1, x536001_1, u536001, rfl, HA, HK1, HO_534003, HO_534004, HO_534005, HO_534007, HO_536001, HO_536003, HO_536004, HO_536005, HO_536007, BK533, BK534, BK535, HB⟩ := hrel
  cases gk with
  | zero => exact absurd HA.out (by simp [jigsawref10_Local.l0])
  | succ k1 =>
   have H := HA.out
   clear HA
   simp only [jigsawref10_Local.l0] at H
   by_cases c10 : x4_1 < (l0_1.length : Int)
   ·
    rw [if_pos c10] at H
    have c10b0 : decide (x4_1 < (l0_1.length : Int)) = true := decide_eq_true c10
    clear c10
    by_cases c11 : x536001_1.length < 17592186044416
    ·
     rw [if_pos c11] at H
     have LMc11 := Aside0.mk c11
     clear c11
     obtain ⟨y536, hy536⟩ : ∃ y_ : List Int, y_ = (x536001_1 ++ [x4_1]) := ⟨_, rfl⟩
     replace H : (jigsawref10_Local.l0 k1 (wrap64 (x4_1 + 1)) a0_0 l0_1 l0_2 l0_3 l0_4 l0_5 a0_6 l0_7 a0_0 y536 l0_3 l0_4 l0_5 a0_6 l0_7) = some (r1, r2, r3, r4, r5, r6, r7, r8) := by first | (rw [hy536]; with_reducible exact H) | (have H2_ := (Option.bind_some _ _).symm.trans H; rw [hy536]; with_reducible exact H2_) | (have H2_ := (Option.bind_some _ _).symm.trans H; with_reducible exact H2_) | with_reducible exact H | (rw [hy536]; exact H) | exact H
     have Ny536 := Aside0.mk hy536
     clear hy536
     have H' := Aside0.mk H
     clear H
     have hnb12 := NB533_534.out
     have hnc12 := NB534_533.out
     have hnb13 := NB533_535.out
     have hnc13 := NB535_533.out
     obtain ⟨_, _, _, _, _, _, _, _, _, _, _, _, _, _, _, _⟩ := cel8_ BK533.out
     have hnb15 := NB535_534.out
     have hnc15 := NB534_535.out
     obtain ⟨_, _, _, _, _, _, _, _, _, _, _, _, _, _, _, _⟩ := cel8_ BK535.out
     go_wp2_with (first | ((with_reducible refine gate_builtin (b := .append) (xs := #[.tmp 17, .tmp 19]) rfl ?_); at_builtin; refine Kd.R_append (Kd.int .i64) (w0 := w) w.heap.size rfl (.tmp 17) (.tmp 19) 30 3 (.int .i64 0) 8 rfl Tryz.underlying30 info3 rfl (by decide) (by omega) u536001 x536001_1 x4_1 [.int .i64 x4_1] (fun k_ => (w.heap.size ≤ k_)) (fun _ => False) rfl rfl ?aP (fun _ hk => hk.elim) ?aF ?aO ?aB ?aS ?aL ?_; (case aP => exact rfl); (case aB => exact bel_); (case aF => exact (fun k_ hk => (Nat.le_trans (below_size bel_) hk))); (case aO => exact (vR_ HO_536001.out)); (case aS => exact (below_size bel_)); (case aL => have := LMc11.out; omega); intro v537 w17 ho hb hg hat; rw [← Ny536.out] at ho; replace HO_534003 := Aside0.mk (Kd.V_afterv (ok := (fun k_ => ((P0_3_ k_ ∨ P0_4_ k_ ∨ P0_5_ k_ ∨ P0_7_ k_) ∨ w.heap.size ≤ k_) ∧ k_ ≠ gb533 ∧ k_ ≠ gb534 ∧ k_ ≠ gb535)) (by refine vV_ ?_; exact Kd.V_mono HO_534003.out (fun _ hk => ⟨⟨hk.1, ⟨hk.2.2.1, ⟨hk.2.2.2.1, hk.2.2.2.2⟩⟩⟩, hk.2.1⟩)) hg hat); replace HO_534004 := Aside0.mk (Kd.V_afterv (ok := (fun k_ => ((P0_3_ k_ ∨ P0_4_ k_ ∨ P0_5_ k_ ∨ P0_7_ k_) ∨ w.heap.size ≤ k_) ∧ k_ ≠ gb533 ∧ k_ ≠ gb534 ∧ k_ ≠ gb535)) (by refine vV_ ?_; exact Kd.V_mono HO_534004.out (fun _ hk => ⟨⟨hk.1, ⟨hk.2.2.1, ⟨hk.2.2.2.1, hk.2.2.2.2⟩⟩⟩, hk.2.1⟩)) hg hat); replace HO_534005 := Aside0.mk (Kd.V_afterv (ok := (fun k_ => ((P0_3_ k_ ∨ P0_4_ k_ ∨ P0_5_ k_ ∨ P0_7_ k_) ∨ w.heap.size ≤ k_) ∧ k_ ≠ gb533 ∧ k_ ≠ gb534 ∧ k_ ≠ gb535)) (by refine vV_ ?_; exact Kd.V_mono HO_534005.out (fun _ hk => ⟨⟨hk.1, ⟨hk.2.2.1, ⟨hk.2.2.2.1, hk.2.2.2.2⟩⟩⟩, hk.2.1⟩)) hg hat); replace HO_534007 := Aside0.mk (Kd.V_afterv (ok := (fun k_ => ((P0_3_ k_ ∨ P0_4_ k_ ∨ P0_5_ k_ ∨ P0_7_ k_) ∨ w.heap.size ≤ k_) ∧ k_ ≠ gb533 ∧ k_ ≠ gb534 ∧ k_ ≠ gb535)) (by refine vV_ ?_; exact Kd.V_mono HO_534007.out (fun _ hk => ⟨⟨hk.1, ⟨hk.2.2.1, ⟨hk.2.2.2.1, hk.2.2.2.2⟩⟩⟩, hk.2.1⟩)) hg hat); replace HO_536003 := Aside0.mk (Kd.V_afterv (ok := (fun k_ => ((P0_3_ k_ ∨ P0_4_ k_ ∨ P0_5_ k_ ∨ P0_7_ k_) ∨ w.heap.size ≤ k_) ∧ k_ ≠ gb533 ∧ k_ ≠ gb534 ∧ k_ ≠ gb535)) (by refine vV_ ?_; exact Kd.V_mono HO_536003.out (fun _ hk => ⟨⟨hk.1, ⟨hk.2.2.1, ⟨hk.2.2.2.1, hk.2.2.2.2⟩⟩⟩, hk.2.1⟩)) hg hat); replace HO_536004 := Aside0.mk (Kd.V_afterv (ok := (fun k_ => ((P0_3_ k_ ∨ P0_4_ k_ ∨ P0_5_ k_ ∨ P0_7_ k_) ∨ w.heap.size ≤ k_) ∧ k_ ≠ gb533 ∧ k_ ≠ gb534 ∧ k_ ≠ gb535)) (by refine vV_ ?_; exact Kd.V_mono HO_536004.out (fun _ hk => ⟨⟨hk.1, ⟨hk.2.2.1, ⟨hk.2.2.2.1, hk.2.2.2.2⟩⟩⟩, hk.2.1⟩)) hg hat); replace HO_536005 := Aside0.mk (Kd.V_afterv (ok := (fun k_ => ((P0_3_ k_ ∨ P0_4_ k_ ∨ P0_5_ k_ ∨ P0_7_ k_) ∨ w.heap.size ≤ k_) ∧ k_ ≠ gb533 ∧ k_ ≠ gb534 ∧ k_ ≠ gb535)) (by refine vV_ ?_; exact Kd.V_mono HO_536005.out (fun _ hk => ⟨⟨hk.1, ⟨hk.2.2.1, ⟨hk.2.2.2.1, hk.2.2.2.2⟩⟩⟩, hk.2.1⟩)) hg hat); replace HO_536007 := Aside0.mk (Kd.V_afterv (ok := (fun k_ => ((P0_3_ k_ ∨ P0_4_ k_ ∨ P0_5_ k_ ∨ P0_7_ k_) ∨ w.heap.size ≤ k_) ∧ k_ ≠ gb533 ∧ k_ ≠ gb534 ∧ k_ ≠ gb535)) (by refine vV_ ?_; exact Kd.V_mono HO_536007.out (fun _ hk => ⟨⟨hk.1, ⟨hk.2.2.1, ⟨hk.2.2.2.1, hk.2.2.2.2⟩⟩⟩, hk.2.1⟩)) hg hat); replace BK533 := Aside0.mk (blk_grown (bk_ BK533.out) hg (Kd.R_ne HO_536001.out BK533.out (by decide))); replace BK534 := Aside0.mk (blk_grown (bk_ BK534.out) hg (Kd.R_ne HO_536001.out BK534.out (by decide))); replace BK535 := Aside0.mk (blk_grown (bk_ BK535.out) hg (Kd.R_ne HO_536001.out BK535.out (by decide))); replace HB := Aside0.mk (hb); have HO538 := Aside0.mk (ho); clear HO_536001; clear ho hb hg hat; obtain ⟨Ao18, co18, eo18⟩ := Kd.R_slice HO538.out; subst eo18; obtain ⟨_, _, _, _, _, _, _, _, _, _, _, _, _, _, _, _⟩ := cel8_ BK535.out))
     go_roundg k1
     case measure => have := HK1.out; omega
     case rel => exact ⟨(wrap64 (x4_1 + 1)), (y536), (.slice Ao18 y536.length co18), eq_, H', ⟨by have := HK1.out; omega⟩, ⟨by refine vV_ ?_; exact Kd.V_mono (fV_ (Kd.V_mono HO_534003.out (fun k_ hk => (⟨hk, hk.1.2.2.2⟩ : _ ∧ k_ ≠ gb535)))) (fun _ hk => ⟨hk.1.1.1, ⟨hk.1.2, ⟨hk.1.1.2.1, ⟨hk.1.1.2.2.1, hk.1.1.2.2.2⟩⟩⟩⟩)⟩, ⟨by refine vV_ ?_; exact Kd.V_mono (fV_ (Kd.V_mono HO_534004.out (fun k_ hk => (⟨hk, hk.1.2.2.2⟩ : _ ∧ k_ ≠ gb535)))) (fun _ hk => ⟨hk.1.1.1, ⟨hk.1.2, ⟨hk.1.1.2.1, ⟨hk.1.1.2.2.1, hk.1.1.2.2.2⟩⟩⟩⟩)⟩, ⟨by refine vV_ ?_; exact Kd.V_mono (fV_ (Kd.V_mono HO_534005.out (fun k_ hk => (⟨hk, hk.1.2.2.2⟩ : _ ∧ k_ ≠ gb535)))) (fun _ hk => ⟨hk.1.1.1, ⟨hk.1.2, ⟨hk.1.1.2.1, ⟨hk.1.1.2.2.1, hk.1.1.2.2.2⟩⟩⟩⟩)⟩, ⟨by refine vV_ ?_; exact Kd.V_mono (fV_ (Kd.V_mono HO_534007.out (fun k_ hk => (⟨hk, hk.1.2.2.2⟩ : _ ∧ k_ ≠ gb535)))) (fun _ hk => ⟨hk.1.1.1, ⟨hk.1.2, ⟨hk.1.1.2.1, ⟨hk.1.1.2.2.1, hk.1.1.2.2.2⟩⟩⟩⟩)⟩, ⟨by refine vR_ ?_; exact Kd.R_mono (fR_ (Kd.R_types HO538.out BK535.out (by decide))) (fun _ hk => hk.1)⟩, ⟨by refine vV_ ?_; exact Kd.V_mono (fV_ (Kd.V_mono HO_536003.out (fun k_ hk => (⟨hk, hk.1.2.2.2⟩ : _ ∧ k_ ≠ gb535)))) (fun _ hk => ⟨hk.1.1.1, ⟨hk.1.2, ⟨hk.1.1.2.1, ⟨hk.1.1.2.2.1, hk.1.1.2.2.2⟩⟩⟩⟩)⟩, ⟨by refine vV_ ?_; exact Kd.V_mono (fV_ (Kd.V_mono HO_536004.out (fun k_ hk => (⟨hk, hk.1.2.2.2⟩ : _ ∧ k_ ≠ gb535)))) (fun _ hk => ⟨hk.1.1.1, ⟨hk.1.2, ⟨hk.1.1.2.1, ⟨hk.1.1.2.2.1, hk.1.1.2.2.2⟩⟩⟩⟩)⟩, ⟨by refine vV_ ?_; exact Kd.V_mono (fV_ (Kd.V_mono HO_536005.out (fun k_ hk => (⟨hk, hk.1.2.2.2⟩ : _ ∧ k_ ≠ gb535)))) (fun _ hk => ⟨hk.1.1.1, ⟨hk.1.2, ⟨hk.1.1.2.1, ⟨hk.1.1.2.2.1, hk.1.1.2.2.2⟩⟩⟩⟩)⟩, ⟨by refine vV_ ?_; exact Kd.V_mono (fV_ (Kd.V_mono HO_536007.out (fun k_ hk => (⟨hk, hk.1.2.2.2⟩ : _ ∧ k_ ≠ gb535)))) (fun _ hk => ⟨hk.1.1.1, ⟨hk.1.2, ⟨hk.1.1.2.1, ⟨hk.1.1.2.2.1, hk.1.1.2.2.2⟩⟩⟩⟩)⟩, ⟨by refine bk_ ?_; refine blk_far ?_ NB533_535.out _; refine bk_ ?_; exact BK533.out⟩, ⟨by refine bk_ ?_; refine blk_far ?_ NB534_535.out _; refine bk_ ?_; exact BK534.out⟩, ⟨by refine bk_ ?_; refine blk_put (cs := #[.int .i64 a0_0, u536001, .slice none 0 0, .slice A0_3 l0_3.length c0_3, .slice A0_4 l0_4.length c0_4, .slice A0_5 l0_5.length c0_5, .int .i64 a0_6, .slice A0_7 l0_7.length c0_7]) ?_ 1 _ rfl; refine bk_ ?_; exact BK535.out⟩, ⟨bel_⟩⟩
    ·
     rw [if_neg c11] at H
     exact absurd H (by simp)
   ·
    rw [if_neg c10] at H
    have c10b0 : decide (x4_1 < (l0_1.length : Int)) = false := decide_eq_false c10
    clear c10
    have H' := Aside0.mk H
    clear H
    have hnb20 := NB533_534.out
    have hnc20 := NB534_533.out
    have hnb21 := NB533_535.out
    have hnc21 := NB535_533.out
    obtain ⟨_, _, _, _, _, _, _, _, _, _, _, _, _, _, _, _⟩ := cel8_ BK533.out
    go_wp2
    go_loopg [5] k1 (fun kq v5 w' => ∃ (x5_2 : Int) (x536002_2 : List Int) (u536002 : Value), v5 = .int .i64 x5_2 ∧ Aside0 (jigsawref10_Local.l1 kq x5_2 a0_0 l0_1 l0_2 l0_3 l0_4 l0_5 a0_6 l0_7 a0_0 x536001_1 x536002_2 l0_3 l0_4 l0_5 a0_6 l0_7 = some (r1, r2, r3, r4, r5, r6, r7, r8)) ∧ Aside0 (kq ≤ k1) ∧ Aside0 (Kd.V (Kd.int .i64) 3 w' w.heap.size (fun k_ => ((P0_3_ k_ ∨ P0_4_ k_ ∨ P0_5_ k_ ∨ P0_7_ k_) ∨ w.heap.size ≤ k_) ∧ some k_ ≠ (u536001 : Value).ownBlock ∧ some k_ ≠ (u536002 : Value).ownBlock ∧ k_ ≠ gb533 ∧ k_ ≠ gb534 ∧ k_ ≠ gb535) (.slice A0_3 l0_3.length c0_3) l0_3) ∧ Aside0 (Kd.V (Kd.int .i64) 3 w' w.heap.size (fun k_ => ((P0_3_ k_ ∨ P0_4_ k_ ∨ P0_5_ k_ ∨ P0_7_ k_) ∨ w.heap.size ≤ k_) ∧ some k_ ≠ (u536001 : Value).ownBlock ∧ some k_ ≠ (u536002 : Value).ownBlock ∧ k_ ≠ gb533 ∧ k_ ≠ gb534 ∧ k_ ≠ gb535) (.slice A0_4 l0_4.length c0_4) l0_4) ∧ Aside0 (Kd.V (Kd.int .i64) 3 w' w.heap.size (fun k_ => ((P0_3_ k_ ∨ P0_4_ k_ ∨ P0_5_ k_ ∨ P0_7_ k_) ∨ w.heap.size ≤ k_) ∧ some k_ ≠ (u536001 : Value).ownBlock ∧ some k_ ≠ (u536002 : Value).ownBlock ∧ k_ ≠ gb533 ∧ k_ ≠ gb534 ∧ k_ ≠ gb535) (.slice A0_5 l0_5.length c0_5) l0_5) ∧ Aside0 (Kd.V (Kd.slice 3 (Kd.int .i64)) 30 w' w.heap.size (fun k_ => ((P0_3_ k_ ∨ P0_4_ k_ ∨ P0_5_ k_ ∨ P0_7_ k_) ∨ w.heap.size ≤ k_) ∧ some k_ ≠ (u536001 : Value).ownBlock ∧ some k_ ≠ (u536002 : Value).ownBlock ∧ k_ ≠ gb533 ∧ k_ ≠ gb534 ∧ k_ ≠ gb535) (.slice A0_7 l0_7.length c0_7) l0_7) ∧ Aside0 (Kd.R (Kd.int .i64) 3 w' w.heap.size (fun k_ => (w.heap.size ≤ k_) ∧ some k_ ≠ (u536002 : Value).ownBlock) u536001 x536001_1) ∧ Aside0 (Kd.R (Kd.int .i64) 3 w' w.heap.size (fun k_ => (w.heap.size ≤ k_) ∧ some k_ ≠ (u536001 : Value).ownBlock) u536002 x536002_2) ∧ Aside0 (Kd.V (Kd.int .i64) 3 w' w.heap.size (fun k_ => ((P0_3_ k_ ∨ P0_4_ k_ ∨ P0_5_ k_ ∨ P0_7_ k_) ∨ w.heap.size ≤ k_) ∧ some k_ ≠ (u536001 : Value).ownBlock ∧ some k_ ≠ (u536002 : Value).ownBlock ∧ k_ ≠ gb533 ∧ k_ ≠ gb534 ∧ k_ ≠ gb535) (.slice A0_3 l0_3.length c0_3) l0_3) ∧ Aside0 (Kd.V (Kd.int .i64) 3 w' w.heap.size (fun k_ => ((P0_3_ k_ ∨ P0_4_ k_ ∨ P0_5_ k_ ∨ P0_7_ k_) ∨ w.heap.size ≤ k_) ∧ some k_ ≠ (u536001 : Value).ownBlock ∧ some k_ ≠ (u536002 : Value).ownBlock ∧ k_ ≠ gb533 ∧ k_ ≠ gb534 ∧ k_ ≠ gb535) (.slice A0_4 l0_4.length c0_4) l0_4) ∧ Aside0 (Kd.V (Kd.int .i64) 3 w' w.heap.size (fun k_ => ((P0_3_ k_ ∨ P0_4_ k_ ∨ P0_5_ k_ ∨ P0_7_ k_) ∨ w.heap.size ≤ k_) ∧ some k_ ≠ (u536001 : Value).ownBlock ∧ some k_ ≠ (u536002 : Value).ownBlock ∧ k_ ≠ gb533 ∧ k_ ≠ gb534 ∧ k_ ≠ gb535) (.slice A0_5 l0_5.length c0_5) l0_5) ∧ Aside0 (Kd.V (Kd.slice 3 (Kd.int .i64)) 30 w' w.heap.size (fun k_ => ((P0_3_ k_ ∨ P0_4_ k_ ∨ P0_5_ k_ ∨ P0_7_ k_) ∨ w.heap.size ≤ k_) ∧ some k_ ≠ (u536001 : Value).ownBlock ∧ some k_ ≠ (u536002 : Value).ownBlock ∧ k_ ≠ gb533 ∧ k_ ≠ gb534 ∧ k_ ≠ gb535) (.slice A0_7 l0_7.length c0_7) l0_7) ∧ Aside0 (w'.heap[gb533]? = some (.cells #[.int .i64 a0_0, (.slice A0_1 l0_1.length c0_1), (.slice A0_2 l0_2.length c0_2), (.slice A0_3 l0_3.length c0_3), (.slice A0_4 l0_4.length c0_4), (.slice A0_5 l0_5.length c0_5), .int .i64 a0_6, (.slice A0_7 l0_7.length c0_7)] 32 (0, 0))) ∧ Aside0 (w'.heap[gb534]? = some (.cells #[.int .i64 0, (.slice none 0 0), (.slice none 0 0), (.slice none 0 0), (.slice none 0 0), (.slice none 0 0), .int .i64 0, (.slice none 0 0)] 32 (0, 0))) ∧ Aside0 (w'.heap[gb535]? = some (.cells #[.int .i64 a0_0, u536001, u536002, (.slice A0_3 l0_3.length c0_3), (.slice A0_4 l0_4.length c0_4), (.slice A0_5 l0_5.length c0_5), .int .i64 a0_6, (.slice A0_7 l0_7.length c0_7)] 32 (0, 0))) ∧ Aside0 (Below w.heap.size w w'))
    case atStart => exact ⟨(0), (([] : List Int)), (.slice none 0 0), eq_, H', ⟨Nat.le_refl _⟩, ⟨by refine vV_ ?_; exact Kd.V_mono HO_534003.out (fun _ hk => ⟨hk.1, ⟨hk.2.1, ⟨(by simp [Value.ownBlock]), ⟨hk.2.2.1, ⟨hk.2.2.2.1, hk.2.2.2.2⟩⟩⟩⟩⟩)⟩, ⟨by refine vV_ ?_; exact Kd.V_mono HO_534004.out (fun _ hk => ⟨hk.1, ⟨hk.2.1, ⟨(by simp [Value.ownBlock]), ⟨hk.2.2.1, ⟨hk.2.2.2.1, hk.2.2.2.2⟩⟩⟩⟩⟩)⟩, ⟨by refine vV_ ?_; exact Kd.V_mono HO_534005.out (fun _ hk => ⟨hk.1, ⟨hk.2.1, ⟨(by simp [Value.ownBlock]), ⟨hk.2.2.1, ⟨hk.2.2.2.1, hk.2.2.2.2⟩⟩⟩⟩⟩)⟩, ⟨by refine vV_ ?_; exact Kd.V_mono HO_534007.out (fun _ hk => ⟨hk.1, ⟨hk.2.1, ⟨(by simp [Value.ownBlock]), ⟨hk.2.2.1, ⟨hk.2.2.2.1, hk.2.2.2.2⟩⟩⟩⟩⟩)⟩, ⟨by refine vR_ ?_; exact Kd.R_mono HO_536001.out (fun _ hk => ⟨hk, (by simp [Value.ownBlock])⟩)⟩, ⟨nil_⟩, ⟨by refine vV_ ?_; exact Kd.V_mono HO_536003.out (fun _ hk => ⟨hk.1, ⟨hk.2.1, ⟨(by simp [Value.ownBlock]), ⟨hk.2.2.1, ⟨hk.2.2.2.1, hk.2.2.2.2⟩⟩⟩⟩⟩)⟩, ⟨by refine vV_ ?_; exact Kd.V_mono HO_536004.out (fun _ hk => ⟨hk.1, ⟨hk.2.1, ⟨(by simp [Value.ownBlock]), ⟨hk.2.2.1, ⟨hk.2.2.2.1, hk.2.2.2.2⟩⟩⟩⟩⟩)⟩, ⟨by refine vV_ ?_; exact Kd.V_mono HO_536005.out (fun _ hk => ⟨hk.1, ⟨hk.2.1, ⟨(by simp [Value.ownBlock]), ⟨hk.2.2.1, ⟨hk.2.2.2.1, hk.2.2.2.2⟩⟩⟩⟩⟩)⟩, ⟨by refine vV_ ?_; exact Kd.V_mono HO_536007.out (fun _ hk => ⟨hk.1, ⟨hk.2.1, ⟨(by simp [Value.ownBlock]), ⟨hk.2.2.1, ⟨hk.2.2.2.1, hk.2.2.2.2⟩⟩⟩⟩⟩)⟩, ⟨by refine bk_ ?_; exact BK533.out⟩, ⟨by refine bk_ ?_; exact BK534.out⟩, ⟨by refine bk_ ?_; exact BK535.out⟩, ⟨bel_⟩⟩
    case round =>
     clear H'
     try clear c1
     try clear c2
     try clear p2
     try clear c4
     try clear p6
     try clear c7
     try clear c8
     try clear c10
     try clear c10b0
     try clear c11
     try clear c12
     try clear c13
     try clear c15
     try clear c20
     try clear c21
     try clear p2
     obtain ⟨x5_2, x536002_2, u536002, rfl, HA, HK2, HO_534003, HO_534004, HO_534005, HO_534007, HO_536001, HO_536002, HO_536003, HO_536004, HO_536005, HO_536007, BK533, BK534, BK535, HB⟩ := hrel
     cases gk with
     | zero => exact absurd HA.out (by simp [jigsawref10_Local.l1])
     | succ k2 =>
      have H := HA.out
      clear HA
      simp only [jigsawref10_Local.l1] at H
      by_cases c23 : x5_2 < (l0_2.length : Int)
      ·
       rw [if_pos c23] at H
       have c23b0 : decide (x5_2 < (l0_2.length : Int)) = true := decide_eq_true c23
       clear c23
       by_cases c24 : x536002_2.length < 17592186044416
       ·
        rw [if_pos c24] at H
        have LMc24 := Aside0.mk c24
        clear c24
        obtain ⟨y539, hy539⟩ : ∃ y_ : List Int, y_ = (x536002_2 ++ [wrap64 ((l0_1.length : Int) + x5_2)]) := ⟨_, rfl⟩
        replace H : (jigsawref10_Local.l1 k2 (wrap64 (x5_2 + 1)) a0_0 l0_1 l0_2 l0_3 l0_4 l0_5 a0_6 l0_7 a0_0 x536001_1 y539 l0_3 l0_4 l0_5 a0_6 l0_7) = some (r1, r2, r3, r4, r5, r6, r7, r8) := by first | (rw [hy539]; with_reducible exact H) | (have H2_ := (Option.bind_some _ _).symm.trans H; rw [hy539]; with_reducible exact H2_) | (have H2_ := (Option.bind_some _ _).symm.trans H; with_reducible exact H2_) | with_reducible exact H | (rw [hy539]; exact H) | exact H
        have Ny539 := Aside0.mk hy539
        clear hy539
        have H' := Aside0.mk H
        clear H
        have hnb25 := NB533_534.out
        have hnc25 := NB534_533.out
        have hnb26 := NB533_535.out
        have hnc26 := NB535_533.out
        obtain ⟨_, _, _, _, _, _, _, _, _, _, _, _, _, _, _, _⟩ := cel8_ BK533.out
        have hnb28 := NB535_534.out
        have hnc28 := NB534_535.out
        obtain ⟨_, _, _, _, _, _, _, _, _, _, _, _, _, _, _, _⟩ := cel8_ BK535.out
        go_wp2_with (first | ((with_reducible refine gate_builtin (b := .append) (xs := #[.tmp 30, .tmp 36]) rfl ?_); at_builtin; refine Kd.R_append (Kd.int .i64) (w0 := w) w.heap.size rfl (.tmp 30) (.tmp 36) 30 3 (.int .i64 0) 8 rfl Tryz.underlying30 info3 rfl (by decide) (by omega) u536002 x536002_2 (wrap64 ((l0_1.length : Int) + x5_2)) [.int .i64 (wrap64 ((l0_1.length : Int) + x5_2))] (fun k_ => (w.heap.size ≤ k_) ∧ some k_ ≠ (u536001 : Value).ownBlock) (fun _ => False) rfl rfl ?aP (fun _ hk => hk.elim) ?aF ?aO ?aB ?aS ?aL ?_; (case aP => exact rfl); (case aB => exact bel_); (case aF => exact (fun k_ hk => ⟨(Nat.le_trans (below_size bel_) hk), Kd.fresh' (Kd.R_lt (vR_ HO_536001.out)) k_ hk⟩)); (case aO => exact (vR_ HO_536002.out)); (case aS => exact (below_size bel_)); (case aL => have := LMc24.out; omega); intro v540 w30 ho hb hg hat; rw [← Ny539.out] at ho; replace HO_534003 := Aside0.mk (Kd.V_afterv (ok := (fun k_ => ((P0_3_ k_ ∨ P0_4_ k_ ∨ P0_5_ k_ ∨ P0_7_ k_) ∨ w.heap.size ≤ k_) ∧ some k_ ≠ (u536001 : Value).ownBlock ∧ k_ ≠ gb533 ∧ k_ ≠ gb534 ∧ k_ ≠ gb535)) (by refine vV_ ?_; exact Kd.V_mono HO_534003.out (fun _ hk => ⟨⟨hk.1, ⟨hk.2.1, ⟨hk.2.2.2.1, ⟨hk.2.2.2.2.1, hk.2.2.2.2.2⟩⟩⟩⟩, hk.2.2.1⟩)) hg hat); replace HO_534004 := Aside0.mk (Kd.V_afterv (ok := (fun k_ => ((P0_3_ k_ ∨ P0_4_ k_ ∨ P0_5_ k_ ∨ P0_7_ k_) ∨ w.heap.size ≤ k_) ∧ some k_ ≠ (u536001 : Value).ownBlock ∧ k_ ≠ gb533 ∧ k_ ≠ gb534 ∧ k_ ≠ gb535)) (by refine vV_ ?_; exact Kd.V_mono HO_534004.out (fun _ hk => ⟨⟨hk.1, ⟨hk.2.1, ⟨hk.2.2.2.1, ⟨hk.2.2.2.2.1, hk.2.2.2.2.2⟩⟩⟩⟩, hk.2.2.1⟩)) hg hat); replace HO_534005 := Aside0.mk (Kd.V_afterv (ok := (fun k_ => ((P0_3_ k_ ∨ P0_4_ k_ ∨ P0_5_ k_ ∨ P0_7_ k_) ∨ w.heap.size ≤ k_) ∧ some k_ ≠ (u536001 : Value).ownBlock ∧ k_ ≠ gb533 ∧ k_ ≠ gb534 ∧ k_ ≠ gb535)) (by refine vV_ ?_; exact Kd.V_mono HO_534005.out (fun _ hk => ⟨⟨hk.1, ⟨hk.2.1, ⟨hk.2.2.2.1, ⟨hk.2.2.2.2.1, hk.2.2.2.2.2⟩⟩⟩⟩, hk.2.2.1⟩)) hg hat); replace HO_534007 := Aside0.mk (Kd.V_afterv (ok := (fun k_ => ((P0_3_ k_ ∨ P0_4_ k_ ∨ P0_5_ k_ ∨ P0_7_ k_) ∨ w.heap.size ≤ k_) ∧ some k_ ≠ (u536001 : Value).ownBlock ∧ k_ ≠ gb533 ∧ k_ ≠ gb534 ∧ k_ ≠ gb535)) (by refine vV_ ?_; exact Kd.V_mono HO_534007.out (fun _ hk => ⟨⟨hk.1, ⟨hk.2.1, ⟨hk.2.2.2.1, ⟨hk.2.2.2.2.1, hk.2.2.2.2.2⟩⟩⟩⟩, hk.2.2.1⟩)) hg hat); replace HO_536001 := Aside0.mk (Kd.R_after (ok := (fun k_ => (w.heap.size ≤ k_))) (vR_ HO_536001.out) hg hat); replace HO_536003 := Aside0.mk (Kd.V_afterv (ok := (fun k_ => ((P0_3_ k_ ∨ P0_4_ k_ ∨ P0_5_ k_ ∨ P0_7_ k_) ∨ w.heap.size ≤ k_) ∧ some k_ ≠ (u536001 : Value).ownBlock ∧ k_ ≠ gb533 ∧ k_ ≠ gb534 ∧ k_ ≠ gb535)) (by refine vV_ ?_; exact Kd.V_mono HO_536003.out (fun _ hk => ⟨⟨hk.1, ⟨hk.2.1, ⟨hk.2.2.2.1, ⟨hk.2.2.2.2.1, hk.2.2.2.2.2⟩⟩⟩⟩, hk.2.2.1⟩)) hg hat); replace HO_536004 := Aside0.mk (Kd.V_afterv (ok := (fun k_ => ((P0_3_ k_ ∨ P0_4_ k_ ∨ P0_5_ k_ ∨ P0_7_ k_) ∨ w.heap.size ≤ k_) ∧ some k_ ≠ (u536001 : Value).ownBlock ∧ k_ ≠ gb533 ∧ k_ ≠ gb534 ∧ k_ ≠ gb535)) (by refine vV_ ?_; exact Kd.V_mono HO_536004.out (fun _ hk => ⟨⟨hk.1, ⟨hk.2.1, ⟨hk.2.2.2.1, ⟨hk.2.2.2.2.1, hk.2.2.2.2.2⟩⟩⟩⟩, hk.2.2.1⟩)) hg hat); replace HO_536005 := Aside0.mk (Kd.V_afterv (ok := (fun k_ => ((P0_3_ k_ ∨ P0_4_ k_ ∨ P0_5_ k_ ∨ P0_7_ k_) ∨ w.heap.size ≤ k_) ∧ some k_ ≠ (u536001 : Value).ownBlock ∧ k_ ≠ gb533 ∧ k_ ≠ gb534 ∧ k_ ≠ gb535)) (by refine vV_ ?_; exact Kd.V_mono HO_536005.out (fun _ hk => ⟨⟨hk.1, ⟨hk.2.1, ⟨hk.2.2.2.1, ⟨hk.2.2.2.2.1, hk.2.2.2.2.2⟩⟩⟩⟩, hk.2.2.1⟩)) hg hat); replace HO_536007 := Aside0.mk (Kd.V_afterv (ok := (fun k_ => ((P0_3_ k_ ∨ P0_4_ k_ ∨ P0_5_ k_ ∨ P0_7_ k_) ∨ w.heap.size ≤ k_) ∧ some k_ ≠ (u536001 : Value).ownBlock ∧ k_ ≠ gb533 ∧ k_ ≠ gb534 ∧ k_ ≠ gb535)) (by refine vV_ ?_; exact Kd.V_mono HO_536007.out (fun _ hk => ⟨⟨hk.1, ⟨hk.2.1, ⟨hk.2.2.2.1, ⟨hk.2.2.2.2.1, hk.2.2.2.2.2⟩⟩⟩⟩, hk.2.2.1⟩)) hg hat); replace BK533 := Aside0.mk (blk_grown (bk_ BK533.out) hg (Kd.R_ne HO_536002.out BK533.out (by decide))); replace BK534 := Aside0.mk (blk_grown (bk_ BK534.out) hg (Kd.R_ne HO_536002.out BK534.out (by decide))); replace BK535 := Aside0.mk (blk_grown (bk_ BK535.out) hg (Kd.R_ne HO_536002.out BK535.out (by decide))); replace HB := Aside0.mk (hb); have HO541 := Aside0.mk (ho); clear HO_536002; clear ho hb hg hat; obtain ⟨Ao31, co31, eo31⟩ := Kd.R_slice HO541.out; subst eo31; obtain ⟨_, _, _, _, _, _, _, _, _, _, _, _, _, _, _, _⟩ := cel8_ BK535.out))
        go_roundg k2
        case measure => have := HK1.out; have := HK2.out; omega
        case rel => exact ⟨(wrap64 (x5_2 + 1)), (y539), (.slice Ao31 y539.length co31), eq_, H', ⟨by have := HK1.out; have := HK2.out; omega⟩, ⟨by refine vV_ ?_; exact Kd.V_mono (fV_ (Kd.V_mono HO_534003.out (fun k_ hk => (⟨hk, hk.1.2.2.2.2⟩ : _ ∧ k_ ≠ gb535)))) (fun _ hk => ⟨hk.1.1.1, ⟨hk.1.1.2.1, ⟨hk.1.2, ⟨hk.1.1.2.2.1, ⟨hk.1.1.2.2.2.1, hk.1.1.2.2.2.2⟩⟩⟩⟩⟩)⟩, ⟨by refine vV_ ?_; exact Kd.V_mono (fV_ (Kd.V_mono HO_534004.out (fun k_ hk => (⟨hk, hk.1.2.2.2.2⟩ : _ ∧ k_ ≠ gb535)))) (fun _ hk => ⟨hk.1.1.1, ⟨hk.1.1.2.1, ⟨hk.1.2, ⟨hk.1.1.2.2.1, ⟨hk.1.1.2.2.2.1, hk.1.1.2.2.2.2⟩⟩⟩⟩⟩)⟩, ⟨by refine vV_ ?_; exact Kd.V_mono (fV_ (Kd.V_mono HO_534005.out (fun k_ hk => (⟨hk, hk.1.2.2.2.2⟩ : _ ∧ k_ ≠ gb535)))) (fun _ hk => ⟨hk.1.1.1, ⟨hk.1.1.2.1, ⟨hk.1.2, ⟨hk.1.1.2.2.1, ⟨hk.1.1.2.2.2.1, hk.1.1.2.2.2.2⟩⟩⟩⟩⟩)⟩, ⟨by refine vV_ ?_; exact Kd.V_mono (fV_ (Kd.V_mono HO_534007.out (fun k_ hk => (⟨hk, hk.1.2.2.2.2⟩ : _ ∧ k_ ≠ gb535)))) (fun _ hk => ⟨hk.1.1.1, ⟨hk.1.1.2.1, ⟨hk.1.2, ⟨hk.1.1.2.2.1, ⟨hk.1.1.2.2.2.1, hk.1.1.2.2.2.2⟩⟩⟩⟩⟩)⟩, ⟨by refine vR_ ?_; exact Kd.R_mono (fR_ (Kd.R_types HO_536001.out BK535.out (by decide))) (fun _ hk => ⟨hk.1.1, hk.1.2⟩)⟩, ⟨by refine vR_ ?_; exact Kd.R_mono (fR_ (Kd.R_types HO541.out BK535.out (by decide))) (fun _ hk => ⟨hk.1.1, hk.1.2⟩)⟩, ⟨by refine vV_ ?_; exact Kd.V_mono (fV_ (Kd.V_mono HO_536003.out (fun k_ hk => (⟨hk, hk.1.2.2.2.2⟩ : _ ∧ k_ ≠ gb535)))) (fun _ hk => ⟨hk.1.1.1, ⟨hk.1.1.2.1, ⟨hk.1.2, ⟨hk.1.1.2.2.1, ⟨hk.1.1.2.2.2.1, hk.1.1.2.2.2.2⟩⟩⟩⟩⟩)⟩, ⟨by refine vV_ ?_; exact Kd.V_mono (fV_ (Kd.V_mono HO_536004.out (fun k_ hk => (⟨hk, hk.1.2.2.2.2⟩ : _ ∧ k_ ≠ gb535)))) (fun _ hk => ⟨hk.1.1.1, ⟨hk.1.1.2.1, ⟨hk.1.2, ⟨hk.1.1.2.2.1, ⟨hk.1.1.2.2.2.1, hk.1.1.2.2.2.2⟩⟩⟩⟩⟩)⟩, ⟨by refine vV_ ?_; exact Kd.V_mono (fV_ (Kd.V_mono HO_536005.out (fun k_ hk => (⟨hk, hk.1.2.2.2.2⟩ : _ ∧ k_ ≠ gb535)))) (fun _ hk => ⟨hk.1.1.1, ⟨hk.1.1.2.1, ⟨hk.1.2, ⟨hk.1.1.2.2.1, ⟨hk.1.1.2.2.2.1, hk.1.1.2.2.2.2⟩⟩⟩⟩⟩)⟩, ⟨by refine vV_ ?_; exact Kd.V_mono (fV_ (Kd.V_mono HO_536007.out (fun k_ hk => (⟨hk, hk.1.2.2.2.2⟩ : _ ∧ k_ ≠ gb535)))) (fun _ hk => ⟨hk.1.1.1, ⟨hk.1.1.2.1, ⟨hk.1.2, ⟨hk.1.1.2.2.1, ⟨hk.1.1.2.2.2.1, hk.1.1.2.2.2.2⟩⟩⟩⟩⟩)⟩, ⟨by refine bk_ ?_; refine blk_far ?_ NB533_535.out _; refine bk_ ?_; exact BK533.out⟩, ⟨by refine bk_ ?_; refine blk_far ?_ NB534_535.out _; refine bk_ ?_; exact BK534.out⟩, ⟨by refine bk_ ?_; refine blk_put (cs := #[.int .i64 a0_0, u536001, u536002, .slice A0_3 l0_3.length c0_3, .slice A0_4 l0_4.length c0_4, .slice A0_5 l0_5.length c0_5, .int .i64 a0_6, .slice A0_7 l0_7.length c0_7]) ?_ 2 _ rfl; refine bk_ ?_; exact BK535.out⟩, ⟨bel_⟩⟩
       ·
        rw [if_neg c24] at H
        exact absurd H (by simp)
      ·
       rw [if_neg c23] at H
       have c23b0 : decide (x5_2 < (l0_2.length : Int)) = false := decide_eq_false c23
       clear c23
       simp only [Option.some.injEq, Prod.mk.injEq] at H
       obtain ⟨rfl, rfl, rfl, rfl, rfl, rfl, rfl, rfl⟩ := H
       have hnb33 := NB533_534.out
       have hnc33 := NB534_533.out
       have hnb34 := NB533_535.out
       have hnc34 := NB535_533.out
       obtain ⟨_, _, _, _, _, _, _, _, _, _, _, _, _, _, _, _⟩ := cel8_ BK533.out
       have hnb36 := NB535_534.out
       have hnc36 := NB534_535.out
       obtain ⟨_, _, _, _, _, _, _, _, _, _, _, _, _, _, _, _⟩ := cel8_ BK535.out
       obtain ⟨_, _, _, _, _, _, _, _, _, _, _, _, _, _, _, _⟩ := cel8_ BK534.out
       obtain ⟨Ao39, co39, eo39⟩ := Kd.R_slice HO_536001.out
       subst eo39
       obtain ⟨Ao40, co40, eo40⟩ := Kd.R_slice HO_536002.out
       subst eo40
       go_wp2
       refine bodyPost_ret (results_cell_row rfl _ _ gb534 32 #[.int .i64 a0_0, .slice Ao39 x536001_1.length co39, .slice Ao40 x536002_2.length co40, .slice A0_3 l0_3.length c0_3, .slice A0_4 l0_4.length c0_4, .slice A0_5 l0_5.length c0_5, .int .i64 a0_6, .slice A0_7 l0_7.length c0_7] (0, 0) _ rfl (by refine bk_ ?_; refine blk_put (cs := #[.int .i64 a0_0, .slice Ao39 x536001_1.length co39, .slice Ao40 x536002_2.length co40, .slice A0_3 l0_3.length c0_3, .slice A0_4 l0_4.length c0_4, .slice A0_5 l0_5.length c0_5, .int .i64 a0_6, .slice none 0 0]) ?_ 7 _ rfl; refine bk_ ?_; refine blk_put (cs := #[.int .i64 a0_0, .slice Ao39 x536001_1.length co39, .slice Ao40 x536002_2.length co40, .slice A0_3 l0_3.length c0_3, .slice A0_4 l0_4.length c0_4, .slice A0_5 l0_5.length c0_5, .int .i64 0, .slice none 0 0]) ?_ 6 _ rfl; refine bk_ ?_; refine blk_put (cs := #[.int .i64 a0_0, .slice Ao39 x536001_1.length co39, .slice Ao40 x536002_2.length co40, .slice A0_3 l0_3.length c0_3, .slice A0_4 l0_4.length c0_4, .slice none 0 0, .int .i64 0, .slice none 0 0]) ?_ 5 _ rfl; refine bk_ ?_; refine blk_put (cs := #[.int .i64 a0_0, .slice Ao39 x536001_1.length co39, .slice Ao40 x536002_2.length co40, .slice A0_3 l0_3.length c0_3, .slice none 0 0, .slice none 0 0, .int .i64 0, .slice none 0 0]) ?_ 4 _ rfl; refine bk_ ?_; refine blk_put (cs := #[.int .i64 a0_0, .slice Ao39 x536001_1.length co39, .slice Ao40 x536002_2.length co40, .slice none 0 0, .slice none 0 0, .slice none 0 0, .int .i64 0, .slice none 0 0]) ?_ 3 _ rfl; refine bk_ ?_; refine blk_put (cs := #[.int .i64 a0_0, .slice Ao39 x536001_1.length co39, .slice none 0 0, .slice none 0 0, .slice none 0 0, .slice none 0 0, .int .i64 0, .slice none 0 0]) ?_ 2 _ rfl; refine bk_ ?_; refine blk_put (cs := #[.int .i64 a0_0, .slice none 0 0, .slice none 0 0, .slice none 0 0, .slice none 0 0, .slice none 0 0, .int .i64 0, .slice none 0 0]) ?_ 1 _ rfl; refine bk_ ?_; refine blk_put (cs := #[.int .i64 0, .slice none 0 0, .slice none 0 0, .slice none 0 0, .slice none 0 0, .slice none 0 0, .int .i64 0, .slice none 0 0]) ?_ 0 _ rfl; refine bk_ ?_; exact BK534.out) Tryz.underlying32 rfl (by kernel_rfl)) rfl ?_
       exact ⟨_, _, _, _, _, _, by first | rfl | (simp [errW_none, errW_some] <;> rfl) | (simp [*, errW_none, errW_some] <;> rfl), by refine vR_ ?_; exact Kd.R_mono (fR_ (fR_ (fR_ (fR_ (fR_ (fR_ (fR_ (fR_ (Kd.R_types HO_536001.out BK534.out (by decide)))))))))) (fun _ hk => ⟨hk.1.1, hk.1.2⟩), by refine vR_ ?_; exact Kd.R_mono (fR_ (fR_ (fR_ (fR_ (fR_ (fR_ (fR_ (fR_ (Kd.R_types HO_536002.out BK534.out (by decide)))))))))) (fun _ hk => ⟨hk.1.1, hk.1.2⟩), by refine vV_ ?_; exact Kd.V_mono (fV_ (fV_ (fV_ (fV_ (fV_ (fV_ (fV_ (fV_ (Kd.V_mono HO_536003.out (fun k_ hk => (⟨hk, hk.2.2.2.2.1⟩ : _ ∧ k_ ≠ gb534))))))))))) (fun _ hk => ⟨hk.1.1, ⟨hk.1.2.1, hk.1.2.2.1⟩⟩), by refine vV_ ?_; exact Kd.V_mono (fV_ (fV_ (fV_ (fV_ (fV_ (fV_ (fV_ (fV_ (Kd.V_mono HO_536004.out (fun k_ hk => (⟨hk, hk.2.2.2.2.1⟩ : _ ∧ k_ ≠ gb534))))))))))) (fun _ hk => ⟨hk.1.1, ⟨hk.1.2.1, hk.1.2.2.1⟩⟩), by refine vV_ ?_; exact Kd.V_mono (fV_ (fV_ (fV_ (fV_ (fV_ (fV_ (fV_ (fV_ (Kd.V_mono HO_536005.out (fun k_ hk => (⟨hk, hk.2.2.2.2.1⟩ : _ ∧ k_ ≠ gb534))))))))))) (fun _ hk => ⟨hk.1.1, ⟨hk.1.2.1, hk.1.2.2.1⟩⟩), by refine vV_ ?_; exact Kd.V_mono (fV_ (fV_ (fV_ (fV_ (fV_ (fV_ (fV_ (fV_ (Kd.V_mono HO_536007.out (fun k_ hk => (⟨hk, hk.2.2.2.2.1⟩ : _ ∧ k_ ≠ gb534))))))))))) (fun _ hk => ⟨hk.1.1, ⟨hk.1.2.1, hk.1.2.2.1⟩⟩), bel_⟩


/-! ### jigsawref09_logic: function 42 -/
mutual
def jigsawref09_logic.l0 : Nat → List Int → Int → Int → List Int → List Int → List Int → List Int → List Int → Int → List (List Int) → Option (Bool)
 | 0, _, _, _, _, _, _, _, _, _, _ => none
 | k + 1, x1, x5, x543000, x543001, x543002, x543003, x543004, x543005, x543006, x543007 => if x5 < (x543001.length : Int) then (if 0 ≤ x5 then (if 0 ≤ (rd x543001 x5) then (if (rd x543001 x5) < (x1.length : Int) then (if (rd x1 (rd x543001 x5)) = 1 then (some true) else (jigsawref09_logic.l0 k x1 (wrap64 (x5 + 1)) x543000 x543001 x543002 x543003 x543004 x543005 x543006 x543007)) else (none)) else (none)) else (none)) else (jigsawref09_logic.l1 k x1 0 x543000 x543001 x543002 x543003 x543004 x543005 x543006 x543007)
def jigsawref09_logic.l1 : Nat → List Int → Int → Int → List Int → List Int → List Int → List Int → List Int → Int → List (List Int) → Option (Bool)
 | 0, _, _, _, _, _, _, _, _, _, _ => none
 | k + 1, x1, x6, x543000, x543001, x543002, x543003, x543004, x543005, x543006, x543007 => if x6 < (x543002.length : Int) then (if 0 ≤ x6 then (if 0 ≤ (rd x543002 x6) then (if (rd x543002 x6) < (x1.length : Int) then (if (rd x1 (rd x543002 x6)) = 0 then (some true) else (jigsawref09_logic.l1 k x1 (wrap64 (x6 + 1)) x543000 x543001 x543002 x543003 x543004 x543005 x543006 x543007)) else (none)) else (none)) else (none)) else (some false)
end
def jigsawref09_logic.f (k : Nat) (a0_0 : Int) (l0_1 : List Int) (l0_2 : List Int) (l0_3 : List Int) (l0_4 : List Int) (l0_5 : List Int) (a0_6 : Int) (l0_7 : List (List Int)) (l1 : List Int) : Option (Bool) := if a0_0 = 12 then (jigsawref09_logic.l0 k l1 0 a0_0 l0_1 l0_2 l0_3 l0_4 l0_5 a0_6 l0_7) else (none)
theorem jigsawref09_logic.mono_l : ∀ k, (∀ y0 y1 y2 y3 y4 y5 y6 y7 y8 y9, LeO (jigsawref09_logic.l0 k y0 y1 y2 y3 y4 y5 y6 y7 y8 y9) (jigsawref09_logic.l0 (k + 1) y0 y1 y2 y3 y4 y5 y6 y7 y8 y9)) ∧ (∀ y0 y1 y2 y3 y4 y5 y6 y7 y8 y9, LeO (jigsawref09_logic.l1 k y0 y1 y2 y3 y4 y5 y6 y7 y8 y9) (jigsawref09_logic.l1 (k + 1) y0 y1 y2 y3 y4 y5 y6 y7 y8 y9))
 | 0 => ⟨fun _ _ _ _ _ _ _ _ _ _ r h => by simp [jigsawref09_logic.l0] at h, fun _ _ _ _ _ _ _ _ _ _ r h => by simp [jigsawref09_logic.l1] at h⟩
 | k + 1 => by
  obtain ⟨ih0, ih1⟩ := jigsawref09_logic.mono_l k
  refine ⟨?_, ?_⟩
  ·
   intro y0 y1 y2 y3 y4 y5 y6 y7 y8 y9
   unfold jigsawref09_logic.l0
   exact leo_
  ·
   intro y0 y1 y2 y3 y4 y5 y6 y7 y8 y9
   unfold jigsawref09_logic.l1
   exact leo_
theorem jigsawref09_logic.mono : ∀ a0 a1 a2 a3 a4 a5 a6 a7 a8 k, LeO (jigsawref09_logic.f k a0 a1 a2 a3 a4 a5 a6 a7 a8) (jigsawref09_logic.f (k + 1) a0 a1 a2 a3 a4 a5 a6 a7 a8) := by
 intro a0 a1 a2 a3 a4 a5 a6 a7 a8 k
 obtain ⟨ih0, ih1⟩ := jigsawref09_logic.mono_l k
 unfold jigsawref09_logic.f
 exact leo_
set_option maxHeartbeats 8000000 in
set_option maxRecDepth 100000 in
theorem jigsawref09_logic.calls (k : Nat) (a0_0 : Int) (A0_1 : Option Addr) (c0_1 : Nat) (l0_1 : List Int) (A0_2 : Option Addr) (c0_2 : Nat) (l0_2 : List Int) (A0_3 : Option Addr) (c0_3 : Nat) (l0_3 : List Int) (A0_4 : Option Addr) (c0_4 : Nat) (l0_4 : List Int) (A0_5 : Option Addr) (c0_5 : Nat) (l0_5 : List Int) (a0_6 : Int) (A0_7 : Option Addr) (c0_7 : Nat) (l0_7 : List (List Int)) (A1 : Option Addr) (c1 : Nat) (l1 : List Int) (r : Bool) (w : World) (hr0_1 : Kd.C (Kd.int .i64) w A0_1 l0_1.length l0_1) (hc0_1 : l0_1.length ≤ c0_1) (hr0_2 : Kd.C (Kd.int .i64) w A0_2 l0_2.length l0_2) (hc0_2 : l0_2.length ≤ c0_2) (hr0_3 : Kd.C (Kd.int .i64) w A0_3 l0_3.length l0_3) (hc0_3 : l0_3.length ≤ c0_3) (hr0_4 : Kd.C (Kd.int .i64) w A0_4 l0_4.length l0_4) (hc0_4 : l0_4.length ≤ c0_4) (hr0_5 : Kd.C (Kd.int .i64) w A0_5 l0_5.length l0_5) (hc0_5 : l0_5.length ≤ c0_5) (hr0_7 : Kd.C (Kd.slice 3 (Kd.int .i64)) w A0_7 l0_7.length l0_7) (hc0_7 : l0_7.length ≤ c0_7) (hr1 : Kd.C (Kd.int .i64) w A1 l1.length l1) (hc1 : l1.length ≤ c1) (h : jigsawref09_logic.f k a0_0 l0_1 l0_2 l0_3 l0_4 l0_5 a0_6 l0_7 l1 = some r) :
  Calls Tryz.prog 42 #[.agg #[.int .i64 a0_0, .slice A0_1 l0_1.length c0_1, .slice A0_2 l0_2.length c0_2, .slice A0_3 l0_3.length c0_3, .slice A0_4 l0_4.length c0_4, .slice A0_5 l0_5.length c0_5, .int .i64 a0_6, .slice A0_7 l0_7.length c0_7], .slice A1 l1.length c1] w fun e w' => e = .returned (.bool r) ∧ Below w.heap.size w w' := by
 have hu32 := Tryz.underlying32
 have HR0_1 := Aside0.mk hr0_1
 have HC0_1 := Aside0.mk hc0_1
 clear hr0_1 hc0_1
 have HR0_2 := Aside0.mk hr0_2
 have HC0_2 := Aside0.mk hc0_2
 clear hr0_2 hc0_2
 have HC0_3 := Aside0.mk hc0_3
 clear hr0_3 hc0_3
 have HC0_4 := Aside0.mk hc0_4
 clear hr0_4 hc0_4
 have HC0_5 := Aside0.mk hc0_5
 clear hr0_5 hc0_5
 have HC0_7 := Aside0.mk hc0_7
 clear hr0_7 hc0_7
 have HR1 := Aside0.mk hr1
 have HC1 := Aside0.mk hc1
 clear hr1 hc1
 have HB := Aside0.mk (Below.refl w.heap.size w)
 unfold jigsawref09_logic.f at h
 have H := h
 clear h
 by_cases c3 : a0_0 = 12
 ·
  rw [if_pos c3] at H
  have c3b0 : (a0_0 == 12) = true := beq_iff_eq.mpr c3
  have c3b1 : (a0_0 != 12) = false := bne_eq_false_iff_eq.mpr c3
  clear c3
  have H' := Aside0.mk H
  clear H
  go_enter Tryz.func42, Tryz.ntmps42
  go_wp2_with (first | ((with_reducible refine gate_dst (N := 2) rfl ?_); refine bxe_ (N := 2) (cs := #[.int .i64 a0_0, .slice A0_1 l0_1.length c0_1, .slice A0_2 l0_2.length c0_2, .slice A0_3 l0_3.length c0_3, .slice A0_4 l0_4.length c0_4, .slice A0_5 l0_5.length c0_5, .int .i64 a0_6, .slice A0_7 l0_7.length c0_7]) (t := 32) ?_; intro gb542 hg w4 hbox hb; have BK542 := Aside0.mk (hbox); have GW542 := Aside0.mk (by rw [hg]; exact (below_size bel_) : w.heap.size ≤ gb542); have GE542 := GW542; replace HB := Aside0.mk (below_step bel_ hb); clear hb hbox hg; obtain ⟨_, _, _, _, _, _, _, _, _, _, _, _, _, _, _, _⟩ := cel8_ BK542.out))
  repeat (go_quiet (first | ((with_reducible refine gate_dst (N := 2) rfl ?_); refine bxe_ (N := 2) (cs := #[.int .i64 a0_0, .slice A0_1 l0_1.length c0_1, .slice A0_2 l0_2.length c0_2, .slice A0_3 l0_3.length c0_3, .slice A0_4 l0_4.length c0_4, .slice A0_5 l0_5.length c0_5, .int .i64 a0_6, .slice A0_7 l0_7.length c0_7]) (t := 32) ?_; intro gb542 hg w4 hbox hb; have BK542 := Aside0.mk (hbox); have GW542 := Aside0.mk (by rw [hg]; exact (below_size bel_) : w.heap.size ≤ gb542); have GE542 := GW542; replace HB := Aside0.mk (below_step bel_ hb); clear hb hbox hg; obtain ⟨_, _, _, _, _, _, _, _, _, _, _, _, _, _, _, _⟩ := cel8_ BK542.out)); try go_wp2_with (first | ((with_reducible refine gate_dst (N := 2) rfl ?_); refine bxe_ (N := 2) (cs := #[.int .i64 a0_0, .slice A0_1 l0_1.length c0_1, .slice A0_2 l0_2.length c0_2, .slice A0_3 l0_3.length c0_3, .slice A0_4 l0_4.length c0_4, .slice A0_5 l0_5.length c0_5, .int .i64 a0_6, .slice A0_7 l0_7.length c0_7]) (t := 32) ?_; intro gb542 hg w4 hbox hb; have BK542 := Aside0.mk (hbox); have GW542 := Aside0.mk (by rw [hg]; exact (below_size bel_) : w.heap.size ≤ gb542); have GE542 := GW542; replace HB := Aside0.mk (below_step bel_ hb); clear hb hbox hg; obtain ⟨_, _, _, _, _, _, _, _, _, _, _, _, _, _, _, _⟩ := cel8_ BK542.out)))
  go_loopg [5] k (fun kq v5 w' => ∃ (x5_1 : Int), v5 = .int .i64 x5_1 ∧ Aside0 (jigsawref09_logic.l0 kq l1 x5_1 a0_0 l0_1 l0_2 l0_3 l0_4 l0_5 a0_6 l0_7 = some r) ∧ Aside0 (kq ≤ k) ∧ Aside0 (w'.heap[gb542]? = some (.cells #[.int .i64 a0_0, (.slice A0_1 l0_1.length c0_1), (.slice A0_2 l0_2.length c0_2), (.slice A0_3 l0_3.length c0_3), (.slice A0_4 l0_4.length c0_4), (.slice A0_5 l0_5.length c0_5), .int .i64 a0_6, (.slice A0_7 l0_7.length c0_7)] 32 (0, 0))) ∧ Aside0 (Below w.heap.size w w'))
  case atStart => exact ⟨(0), eq_, H', ⟨Nat.le_refl _⟩, ⟨by refine bk_ ?_; exact BK542.out⟩, ⟨bel_⟩⟩
  case round =>
   clear H'
   try clear c1
   try clear p2
   try clear c3
   try clear c3b0
   try clear c3b1
   try clear c4
   obtain ⟨x5_1, rfl, HA, HK1, BK542, HB⟩ := hrel
   cases gk with
   | zero => exact absurd HA.out (by simp [jigsawref09_logic.l0])
   | succ k1 =>
    have H := HA.out
    clear HA
    simp only [jigsawref09_logic.l0] at H
    by_cases c6 : x5_1 < (l0_1.length : Int)
    ·
     rw [if_pos c6] at H
     have c6b0 : decide (x5_1 < (l0_1.length : Int)) = true := decide_eq_true c6
     clear c6
     by_cases c7 : 0 ≤ x5_1
     ·
      rw [if_pos c7] at H
      have c7b0 : decide (0 ≤ x5_1) = true := decide_eq_true c7
      clear c7
      by_cases c8 : 0 ≤ (rd l0_1 x5_1)
      ·
       rw [if_pos c8] at H
       have c8b0 : decide (0 ≤ (rd l0_1 x5_1)) = true := decide_eq_true c8
       clear c8
       by_cases c9 : (rd l0_1 x5_1) < (l1.length : Int)
       ·
        rw [if_pos c9] at H
        have c9b0 : decide ((rd l0_1 x5_1) < (l1.length : Int)) = true := decide_eq_true c9
        clear c9
        by_cases c10 : (rd l1 (rd l0_1 x5_1)) = 1
        ·
         rw [if_pos c10] at H
         have c10b0 : ((rd l1 (rd l0_1 x5_1)) == 1) = true := beq_iff_eq.mpr c10
         have c10b1 : ((rd l1 (rd l0_1 x5_1)) != 1) = false := bne_eq_false_iff_eq.mpr c10
         clear c10
         obtain rfl := Option.some.inj H
         obtain ⟨_, _, _, _, _, _, _, _, _, _, _, _, _, _, _, _⟩ := cel8_ BK542.out
         have p543 : 0 ≤ (x5_1 : Int) := dq_
         have q543 : x5_1 < (l0_1.length : Int) := dq_
         obtain ⟨ad543, e543, hx543_0⟩ := Kd.at_int HR0_1.out x5_1 p543 q543
         cases e543
         replace hx543_0 := (HB.out.cell (World.block_lt_of_cell? w _ hx543_0)).trans hx543_0
         replace p543 := eq_true p543
         replace q543 := eq_true q543
         have p544 : 0 ≤ ((rd l0_1 x5_1) : Int) := dq_
         have q544 : (rd l0_1 x5_1) < (l1.length : Int) := dq_
         obtain ⟨ad544, e544, hx544_0⟩ := Kd.at_int HR1.out (rd l0_1 x5_1) p544 q544
         cases e544
         replace hx544_0 := (HB.out.cell (World.block_lt_of_cell? w _ hx544_0)).trans hx544_0
         replace p544 := eq_true p544
         replace q544 := eq_true q544
         go_wp2
         repeat (go_quiet (fail); try go_wp2)
         go_ret
         exact ⟨by first | rfl | (simp [errW_none, errW_some] <;> rfl) | (simp [*, errW_none, errW_some] <;> rfl), bel_⟩
        ·
         rw [if_neg c10] at H
         have c10b0 : ((rd l1 (rd l0_1 x5_1)) == 1) = false := beq_eq_false_iff_ne.mpr c10
         have c10b1 : ((rd l1 (rd l0_1 x5_1)) != 1) = true := bne_iff_ne.mpr c10
         have H' := Aside0.mk H
         clear H
         obtain ⟨_, _, _, _, _, _, _, _, _, _, _, _, _, _, _, _⟩ := cel8_ BK542.out
         have p543 : 0 ≤ (x5_1 : Int) := dq_
         have q543 : x5_1 < (l0_1.length : Int) := dq_
         obtain ⟨ad543, e543, hx543_0⟩ := Kd.at_int HR0_1.out x5_1 p543 q543
         cases e543
         replace hx543_0 := (HB.out.cell (World.block_lt_of_cell? w _ hx543_0)).trans hx543_0
         replace p543 := eq_true p543
         replace q543 := eq_true q543
         have p544 : 0 ≤ ((rd l0_1 x5_1) : Int) := dq_
         have q544 : (rd l0_1 x5_1) < (l1.length : Int) := dq_
         obtain ⟨ad544, e544, hx544_0⟩ := Kd.at_int HR1.out (rd l0_1 x5_1) p544 q544
         cases e544
         replace hx544_0 := (HB.out.cell (World.block_lt_of_cell? w _ hx544_0)).trans hx544_0
         replace p544 := eq_true p544
         replace q544 := eq_true q544
         go_wp2
         repeat (go_quiet (fail); try go_wp2)
         go_roundg k1
         case measure => have := HK1.out; omega
         case rel => exact ⟨(wrap64 (x5_1 + 1)), eq_, H', ⟨by have := HK1.out; omega⟩, ⟨by refine bk_ ?_; exact BK542.out⟩, ⟨bel_⟩⟩
       ·
        rw [if_neg c9] at H
        exact absurd H (by simp)
      ·
       rw [if_neg c8] at H
       exact absurd H (by simp)
     ·
      rw [if_neg c7] at H
      exact absurd H (by simp)
    ·
     rw [if_neg c6] at H
     have c6b0 : decide (x5_1 < (l0_1.length : Int)) = false := decide_eq_false c6
     clear c6
     have H' := Aside0.mk H
     clear H
     obtain ⟨_, _, _, _, _, _, _, _, _, _, _, _, _, _, _, _⟩ := cel8_ BK542.out
     go_wp2
     repeat (go_quiet (fail); try go_wp2)
     go_loopg [6] k1 (fun kq v6 w' => ∃ (x6_2 : Int), v6 = .int .i64 x6_2 ∧ Aside0 (jigsawref09_logic.l1 kq l1 x6_2 a0_0 l0_1 l0_2 l0_3 l0_4 l0_5 a0_6 l0_7 = some r) ∧ Aside0 (kq ≤ k1) ∧ Aside0 (w'.heap[gb542]? = some (.cells #[.int .i64 a0_0, (.slice A0_1 l0_1.length c0_1), (.slice A0_2 l0_2.length c0_2), (.slice A0_3 l0_3.length c0_3), (.slice A0_4 l0_4.length c0_4), (.slice A0_5 l0_5.length c0_5), .int .i64 a0_6, (.slice A0_7 l0_7.length c0_7)] 32 (0, 0))) ∧ Aside0 (Below w.heap.size w w'))
     case atStart => exact ⟨(0), eq_, H', ⟨Nat.le_refl _⟩, ⟨by refine bk_ ?_; exact BK542.out⟩, ⟨bel_⟩⟩
     case round =>
      clear H'
      try clear c1
      try clear p2
      try clear c3
      try clear c3b0
      try clear c3b1
      try clear c4
      try clear p5
      try clear q5
      try clear hx5
      try clear c6
      try clear c6b0
      try clear p6
      try clear c7
      try clear c7b0
      try clear c8
      try clear c8b0
      try clear c9
      try clear c9b0
      try clear c10
      try clear c10b0
      try clear c10b1
      try clear hx543_0
      try clear hx544_0
      try clear p2
      try clear p543
      try clear p544
      try clear q543
      try clear q544
      obtain ⟨x6_2, rfl, HA, HK2, BK542, HB⟩ := hrel
      cases gk with
      | zero => exact absurd HA.out (by simp [jigsawref09_logic.l1])
      | succ k2 =>
       have H := HA.out
       clear HA
       simp only [jigsawref09_logic.l1] at H
       by_cases c14 : x6_2 < (l0_2.length : Int)
       ·
        rw [if_pos c14] at H
        have c14b0 : decide (x6_2 < (l0_2.length : Int)) = true := decide_eq_true c14
        clear c14
        by_cases c15 : 0 ≤ x6_2
        ·
         rw [if_pos c15] at H
         have c15b0 : decide (0 ≤ x6_2) = true := decide_eq_true c15
         clear c15
         by_cases c16 : 0 ≤ (rd l0_2 x6_2)
         ·
          rw [if_pos c16] at H
          have c16b0 : decide (0 ≤ (rd l0_2 x6_2)) = true := decide_eq_true c16
          clear c16
          by_cases c17 : (rd l0_2 x6_2) < (l1.length : Int)
          ·
           rw [if_pos c17] at H
           have c17b0 : decide ((rd l0_2 x6_2) < (l1.length : Int)) = true := decide_eq_true c17
           clear c17
           by_cases c18 : (rd l1 (rd l0_2 x6_2)) = 0
           ·
            rw [if_pos c18] at H
            have c18b0 : ((rd l1 (rd l0_2 x6_2)) == 0) = true := beq_iff_eq.mpr c18
            have c18b1 : ((rd l1 (rd l0_2 x6_2)) != 0) = false := bne_eq_false_iff_eq.mpr c18
            clear c18
            obtain rfl := Option.some.inj H
            obtain ⟨_, _, _, _, _, _, _, _, _, _, _, _, _, _, _, _⟩ := cel8_ BK542.out
            have p545 : 0 ≤ (x6_2 : Int) := dq_
            have q545 : x6_2 < (l0_2.length : Int) := dq_
            obtain ⟨ad545, e545, hx545_0⟩ := Kd.at_int HR0_2.out x6_2 p545 q545
            cases e545
            replace hx545_0 := (HB.out.cell (World.block_lt_of_cell? w _ hx545_0)).trans hx545_0
            replace p545 := eq_true p545
            replace q545 := eq_true q545
            have p546 : 0 ≤ ((rd l0_2 x6_2) : Int) := dq_
            have q546 : (rd l0_2 x6_2) < (l1.length : Int) := dq_
            obtain ⟨ad546, e546, hx546_0⟩ := Kd.at_int HR1.out (rd l0_2 x6_2) p546 q546
            cases e546
            replace hx546_0 := (HB.out.cell (World.block_lt_of_cell? w _ hx546_0)).trans hx546_0
            replace p546 := eq_true p546
            replace q546 := eq_true q546
            go_wp2
            repeat (go_quiet (fail); try go_wp2)
            go_ret
            exact ⟨by first | rfl | (simp [errW_none, errW_some] <;> rfl) | (simp [*, errW_none, errW_some] <;> rfl), bel_⟩
           ·
            rw [if_neg c18] at H
            have c18b0 : ((rd l1 (rd l0_2 x6_2)) == 0) = false := beq_eq_false_iff_ne.mpr c18
            have c18b1 : ((rd l1 (rd l0_2 x6_2)) != 0) = true := bne_iff_ne.mpr c18
            have H' := Aside0.mk H
            clear H
            obtain ⟨_, _, _, _, _, _, _, _, _, _, _, _, _, _, _, _⟩ := cel8_ BK542.out
            have p545 : 0 ≤ (x6_2 : Int) := dq_
            have q545 : x6_2 < (l0_2.length : Int) := dq_
            obtain ⟨ad545, e545, hx545_0⟩ := Kd.at_int HR0_2.out x6_2 p545 q545
            cases e545
            replace hx545_0 := (HB.out.cell (World.block_lt_of_cell? w _ hx545_0)).trans hx545_0
            replace p545 := eq_true p545
            replace q545 := eq_true q545
            have p546 : 0 ≤ ((rd l0_2 x6_2) : Int) := dq_
            have q546 : (rd l0_2 x6_2) < (l1.length : Int) := dq_
            obtain ⟨ad546, e546, hx546_0⟩ := Kd.at_int HR1.out (rd l0_2 x6_2) p546 q546
            cases e546
            replace hx546_0 := (HB.out.cell (World.block_lt_of_cell? w _ hx546_0)).trans hx546_0
            replace p546 := eq_true p546
            replace q546 := eq_true q546
            go_wp2
            repeat (go_quiet (fail); try go_wp2)
            go_roundg k2
            case measure => have := HK1.out; have := HK2.out; omega
            case rel => exact ⟨(wrap64 (x6_2 + 1)), eq_, H', ⟨by have := HK1.out; have := HK2.out; omega⟩, ⟨by refine bk_ ?_; exact BK542.out⟩, ⟨bel_⟩⟩
          ·
           rw [if_neg c17] at H
           exact absurd H (by simp)
         ·
          rw [if_neg c16] at H
          exact absurd H (by simp)
        ·
         rw [if_neg c15] at H
         exact absurd H (by simp)
       ·
        rw [if_neg c14] at H
        have c14b0 : decide (x6_2 < (l0_2.length : Int)) = false := decide_eq_false c14
        clear c14
        obtain rfl := Option.some.inj H
        obtain ⟨_, _, _, _, _, _, _, _, _, _, _, _, _, _, _, _⟩ := cel8_ BK542.out
        go_wp2
        repeat (go_quiet (fail); try go_wp2)
        go_ret
        exact ⟨by first | rfl | (simp [errW_none, errW_some] <;> rfl) | (simp [*, errW_none, errW_some] <;> rfl), bel_⟩
 ·
  rw [if_neg c3] at H
  exact absurd H (by simp)

/-! ### jigsawref09_Holds: function 21 -/
def jigsawref09_Holds.f (k : Nat) (a0_0 : Int) (l0_1 : List Int) (l0_2 : List Int) (l0_3 : List Int) (l0_4 : List Int) (l0_5 : List Int) (a0_6 : Int) (l0_7 : List (List Int)) (l1 : List Int) : Option (Bool) := if a0_0 ≤ 4 then (none) else (if a0_0 ≤ 11 then (none) else (if a0_0 ≤ 16 then ((jigsawref09_logic.f k a0_0 l0_1 l0_2 l0_3 l0_4 l0_5 a0_6 l0_7 l1).bind fun t548 => (some t548)) else (none)))
theorem jigsawref09_Holds.mono : ∀ a0 a1 a2 a3 a4 a5 a6 a7 a8 k, LeO (jigsawref09_Holds.f k a0 a1 a2 a3 a4 a5 a6 a7 a8) (jigsawref09_Holds.f (k + 1) a0 a1 a2 a3 a4 a5 a6 a7 a8) := by
 intro a0 a1 a2 a3 a4 a5 a6 a7 a8 k
 unfold jigsawref09_Holds.f
 have m0 := @jigsawref09_logic.mono
 exact leo_
set_option maxHeartbeats 8000000 in
set_option maxRecDepth 100000 in
theorem jigsawref09_Holds.calls (k : Nat) (a0_0 : Int) (A0_1 : Option Addr) (c0_1 : Nat) (l0_1 : List Int) (A0_2 : Option Addr) (c0_2 : Nat) (l0_2 : List Int) (A0_3 : Option Addr) (c0_3 : Nat) (l0_3 : List Int) (A0_4 : Option Addr) (c0_4 : Nat) (l0_4 : List Int) (A0_5 : Option Addr) (c0_5 : Nat) (l0_5 : List Int) (a0_6 : Int) (A0_7 : Option Addr) (c0_7 : Nat) (l0_7 : List (List Int)) (A1 : Option Addr) (c1 : Nat) (l1 : List Int) (r : Bool) (w : World) (hr0_1 : Kd.C (Kd.int .i64) w A0_1 l0_1.length l0_1) (hc0_1 : l0_1.length ≤ c0_1) (hr0_2 : Kd.C (Kd.int .i64) w A0_2 l0_2.length l0_2) (hc0_2 : l0_2.length ≤ c0_2) (hr0_3 : Kd.C (Kd.int .i64) w A0_3 l0_3.length l0_3) (hc0_3 : l0_3.length ≤ c0_3) (hr0_4 : Kd.C (Kd.int .i64) w A0_4 l0_4.length l0_4) (hc0_4 : l0_4.length ≤ c0_4) (hr0_5 : Kd.C (Kd.int .i64) w A0_5 l0_5.length l0_5) (hc0_5 : l0_5.length ≤ c0_5) (hr0_7 : Kd.C (Kd.slice 3 (Kd.int .i64)) w A0_7 l0_7.length l0_7) (hc0_7 : l0_7.length ≤ c0_7) (hr1 : Kd.C (Kd.int .i64) w A1 l1.length l1) (hc1 : l1.length ≤ c1) (h : jigsawref09_Holds.f k a0_0 l0_1 l0_2 l0_3 l0_4 l0_5 a0_6 l0_7 l1 = some r) :
  Calls Tryz.prog 21 #[.agg #[.int .i64 a0_0, .slice A0_1 l0_1.length c0_1, .slice A0_2 l0_2.length c0_2, .slice A0_3 l0_3.length c0_3, .slice A0_4 l0_4.length c0_4, .slice A0_5 l0_5.length c0_5, .int .i64 a0_6, .slice A0_7 l0_7.length c0_7], .slice A1 l1.length c1] w fun e w' => e = .returned (.bool r) ∧ Below w.heap.size w w' := by
 have hu32 := Tryz.underlying32
 have HR0_1 := Aside0.mk hr0_1
 have HC0_1 := Aside0.mk hc0_1
 clear hr0_1 hc0_1
 have HR0_2 := Aside0.mk hr0_2
 have HC0_2 := Aside0.mk hc0_2
 clear hr0_2 hc0_2
 have HR0_3 := Aside0.mk hr0_3
 have HC0_3 := Aside0.mk hc0_3
 clear hr0_3 hc0_3
 have HR0_4 := Aside0.mk hr0_4
 have HC0_4 := Aside0.mk hc0_4
 clear hr0_4 hc0_4
 have HR0_5 := Aside0.mk hr0_5
 have HC0_5 := Aside0.mk hc0_5
 clear hr0_5 hc0_5
 have HR0_7 := Aside0.mk hr0_7
 have HC0_7 := Aside0.mk hc0_7
 clear hr0_7 hc0_7
 have HR1 := Aside0.mk hr1
 have HC1 := Aside0.mk hc1
 clear hr1 hc1
 have HB := Aside0.mk (Below.refl w.heap.size w)
 unfold jigsawref09_Holds.f at h
 have H := h
 clear h
 by_cases c3 : a0_0 ≤ 4
 ·
  rw [if_pos c3] at H
  exact absurd H (by simp)
 ·
  rw [if_neg c3] at H
  have c3b0 : decide (a0_0 ≤ 4) = false := decide_eq_false c3
  clear c3
  by_cases c4 : a0_0 ≤ 11
  ·
   rw [if_pos c4] at H
   exact absurd H (by simp)
  ·
   rw [if_neg c4] at H
   have c4b0 : decide (a0_0 ≤ 11) = false := decide_eq_false c4
   clear c4
   by_cases c5 : a0_0 ≤ 16
   ·
    rw [if_pos c5] at H
    have c5b0 : decide (a0_0 ≤ 16) = true := decide_eq_true c5
    clear c5
    replace H := Option.bind_eq_some_iff.mp H
    obtain ⟨t548, A60, H⟩ := H
    try dsimp only at H
    have A6 := Aside0.mk A60
    clear A60
    obtain rfl := Option.some.inj H
    go_enter Tryz.func21, Tryz.ntmps21
    go_wp2_with (first | ((with_reducible refine gate_dst (N := 2) rfl ?_); refine bxe_ (N := 2) (cs := #[.int .i64 a0_0, .slice A0_1 l0_1.length c0_1, .slice A0_2 l0_2.length c0_2, .slice A0_3 l0_3.length c0_3, .slice A0_4 l0_4.length c0_4, .slice A0_5 l0_5.length c0_5, .int .i64 a0_6, .slice A0_7 l0_7.length c0_7]) (t := 32) ?_; intro gb547 hg w7 hbox hb; have BK547 := Aside0.mk (hbox); have GW547 := Aside0.mk (by rw [hg]; exact (below_size bel_) : w.heap.size ≤ gb547); have GE547 := GW547; replace HB := Aside0.mk (below_step bel_ hb); clear hb hbox hg; obtain ⟨_, _, _, _, _, _, _, _, _, _, _, _, _, _, _, _⟩ := cel8_ BK547.out) | (go_at_call 42; (with_reducible refine (jigsawref09_logic.calls k a0_0 _ _ l0_1 _ _ l0_2 _ _ l0_3 _ _ l0_4 _ _ l0_5 a0_6 _ _ l0_7 _ _ l1 t548 _ ?_ ?_ ?_ ?_ ?_ ?_ ?_ ?_ ?_ ?_ ?_ ?_ ?_ ?_ A6.out).mono ?_); exact ca_ ((Kd.C_below HR0_1.out HB.out)); exact HC0_1.out; exact ca_ ((Kd.C_below HR0_2.out HB.out)); exact HC0_2.out; exact ca_ ((Kd.C_below HR0_3.out HB.out)); exact HC0_3.out; exact ca_ ((Kd.C_below HR0_4.out HB.out)); exact HC0_4.out; exact ca_ ((Kd.C_below HR0_5.out HB.out)); exact HC0_5.out; exact ca_ ((Kd.C_below HR0_7.out HB.out)); exact HC0_7.out; exact ca_ ((Kd.C_below HR1.out HB.out)); exact HC1.out; rintro e w9 ⟨rfl, hb⟩; replace BK547 := Aside0.mk (blk_below (bk_ BK547.out) hb); replace HB := Aside0.mk (below_step bel_ hb); clear hb))
    repeat (go_quiet (first | ((with_reducible refine gate_dst (N := 2) rfl ?_); refine bxe_ (N := 2) (cs := #[.int .i64 a0_0, .slice A0_1 l0_1.length c0_1, .slice A0_2 l0_2.length c0_2, .slice A0_3 l0_3.length c0_3, .slice A0_4 l0_4.length c0_4, .slice A0_5 l0_5.length c0_5, .int .i64 a0_6, .slice A0_7 l0_7.length c0_7]) (t := 32) ?_; intro gb547 hg w7 hbox hb; have BK547 := Aside0.mk (hbox); have GW547 := Aside0.mk (by rw [hg]; exact (below_size bel_) : w.heap.size ≤ gb547); have GE547 := GW547; replace HB := Aside0.mk (below_step bel_ hb); clear hb hbox hg; obtain ⟨_, _, _, _, _, _, _, _, _, _, _, _, _, _, _, _⟩ := cel8_ BK547.out) | (go_at_call 42; (with_reducible refine (jigsawref09_logic.calls k a0_0 _ _ l0_1 _ _ l0_2 _ _ l0_3 _ _ l0_4 _ _ l0_5 a0_6 _ _ l0_7 _ _ l1 t548 _ ?_ ?_ ?_ ?_ ?_ ?_ ?_ ?_ ?_ ?_ ?_ ?_ ?_ ?_ A6.out).mono ?_); exact ca_ ((Kd.C_below HR0_1.out HB.out)); exact HC0_1.out; exact ca_ ((Kd.C_below HR0_2.out HB.out)); exact HC0_2.out; exact ca_ ((Kd.C_below HR0_3.out HB.out)); exact HC0_3.out; exact ca_ ((Kd.C_below HR0_4.out HB.out)); exact HC0_4.out; exact ca_ ((Kd.C_below HR0_5.out HB.out)); exact HC0_5.out; exact ca_ ((Kd.C_below HR0_7.out HB.out)); exact HC0_7.out; exact ca_ ((Kd.C_below HR1.out HB.out)); exact HC1.out; rintro e w9 ⟨rfl, hb⟩; replace BK547 := Aside0.mk (blk_below (bk_ BK547.out) hb); replace HB := Aside0.mk (below_step bel_ hb); clear hb)); try go_wp2_with (first | ((with_reducible refine gate_dst (N := 2) rfl ?_); refine bxe_ (N := 2) (cs := #[.int .i64 a0_0, .slice A0_1 l0_1.length c0_1, .slice A0_2 l0_2.length c0_2, .slice A0_3 l0_3.length c0_3, .slice A0_4 l0_4.length c0_4, .slice A0_5 l0_5.length c0_5, .int .i64 a0_6, .slice A0_7 l0_7.length c0_7]) (t := 32) ?_; intro gb547 hg w7 hbox hb; have BK547 := Aside0.mk (hbox); have GW547 := Aside0.mk (by rw [hg]; exact (below_size bel_) : w.heap.size ≤ gb547); have GE547 := GW547; replace HB := Aside0.mk (below_step bel_ hb); clear hb hbox hg; obtain ⟨_, _, _, _, _, _, _, _, _, _, _, _, _, _, _, _⟩ := cel8_ BK547.out) | (go_at_call 42; (with_reducible refine (jigsawref09_logic.calls k a0_0 _ _ l0_1 _ _ l0_2 _ _ l0_3 _ _ l0_4 _ _ l0_5 a0_6 _ _ l0_7 _ _ l1 t548 _ ?_ ?_ ?_ ?_ ?_ ?_ ?_ ?_ ?_ ?_ ?_ ?_ ?_ ?_ A6.out).mono ?_); exact ca_ ((Kd.C_below HR0_1.out HB.out)); exact HC0_1.out; exact ca_ ((Kd.C_below HR0_2.out HB.out)); exact HC0_2.out; exact ca_ ((Kd.C_below HR0_3.out HB.out)); exact HC0_3.out; exact ca_ ((Kd.C_below HR0_4.out HB.out)); exact HC0_4.out; exact ca_ ((Kd.C_below HR0_5.out HB.out)); exact HC0_5.out; exact ca_ ((Kd.C_below HR0_7.out HB.out)); exact HC0_7.out; exact ca_ ((Kd.C_below HR1.out HB.out)); exact HC1.out; rintro e w9 ⟨rfl, hb⟩; replace HB := Aside0.mk (below_step bel_ hb); clear hb)))
    go_ret
    exact ⟨by first | rfl | (simp [errW_none, errW_some] <;> rfl) | (simp [*, errW_none, errW_some] <;> rfl), bel_⟩
   ·
    rw [if_neg c5] at H
    exact absurd H (by simp)


/-! ### jigsawref09_Product: function 34 -/
mutual
def jigsawref09_Product.l0 : Nat → List (List Int) → Int → Int → Int → Option ((List (List Int)))
 | 0, _, _, _, _ => none
 | k + 1, x0, x1, x5, x6 => if x6 < (x0.length : Int) then (if 0 ≤ x6 then (if (wrap64 (x5 * ((rd_L7 x0 x6).length : Int))) > x1 then (some ([] : List (List Int))) else (jigsawref09_Product.l0 k x0 x1 (wrap64 (x5 * ((rd_L7 x0 x6).length : Int))) (wrap64 (x6 + 1)))) else (none)) else (jigsawref09_Product.l1 k x0 x5 ([] : List (List Int)) 0)
def jigsawref09_Product.l1 : Nat → List (List Int) → Int → List (List Int) → Int → Option ((List (List Int)))
 | 0, _, _, _, _ => none
 | k + 1, x0, x5, x7, x8 => if x8 < x5 then (if 0 ≤ (x0.length : Int) then (if ((x0.length : Int) : Int).toNat ≤ 35184372088832 then (jigsawref09_Product.l2 k x0 x5 x7 x8 (List.replicate ((x0.length : Int) : Int).toNat 0) x8 (wrap64 ((x0.length : Int) - 1))) else (none)) else (none)) else (some x7)
def jigsawref09_Product.l2 : Nat → List (List Int) → Int → List (List Int) → Int → List Int → Int → Int → Option ((List (List Int)))
 | 0, _, _, _, _, _, _, _ => none
 | k + 1, x0, x5, x7, x8, x9, x10, x11 => if x11 ≥ 0 then (if 0 ≤ x11 then (if x11 < (x0.length : Int) then (if ((rd_L7 x0 x11).length : Int) = 0 then (none) else (if 0 ≤ (Int.tmod x10 ((rd_L7 x0 x11).length : Int)) then (if (Int.tmod x10 ((rd_L7 x0 x11).length : Int)) < ((rd_L7 x0 x11).length : Int) then (if x11 < (x9.length : Int) then (jigsawref09_Product.l2 k x0 x5 x7 x8 (x9.set (x11 : Int).toNat (rd (rd_L7 x0 x11) (Int.tmod x10 ((rd_L7 x0 x11).length : Int)))) (wrap64 (Int.tdiv x10 ((rd_L7 x0 x11).length : Int))) (wrap64 (x11 - 1))) else (none)) else (none)) else (none))) else (none)) else (none)) else (if x7.length < 5864062014805 then (jigsawref09_Product.l1 k x0 x5 (x7 ++ [x9]) (wrap64 (x8 + 1))) else (none))
end
def jigsawref09_Product.f (k : Nat) (l0 : List (List Int)) (a1 : Int) : Option ((List (List Int))) := jigsawref09_Product.l0 k l0 a1 1 0
theorem jigsawref09_Product.mono_l : ∀ k, (∀ y0 y1 y2 y3, LeO (jigsawref09_Product.l0 k y0 y1 y2 y3) (jigsawref09_Product.l0 (k + 1) y0 y1 y2 y3)) ∧ (∀ y0 y1 y2 y3, LeO (jigsawref09_Product.l1 k y0 y1 y2 y3) (jigsawref09_Product.l1 (k + 1) y0 y1 y2 y3)) ∧ (∀ y0 y1 y2 y3 y4 y5 y6, LeO (jigsawref09_Product.l2 k y0 y1 y2 y3 y4 y5 y6) (jigsawref09_Product.l2 (k + 1) y0 y1 y2 y3 y4 y5 y6))
 | 0 => ⟨fun _ _ _ _ r h => by simp [jigsawref09_Product.l0] at h, fun _ _ _ _ r h => by simp [jigsawref09_Product.l1] at h, fun _ _ _ _ _ _ _ r h => by simp [jigsawref09_Product.l2] at h⟩
 | k + 1 => by
  obtain ⟨ih0, ih1, ih2⟩ := jigsawref09_Product.mono_l k
  refine ⟨?_, ?_, ?_⟩
  ·
   intro y0 y1 y2 y3
   unfold jigsawref09_Product.l0
   exact leo_
  ·
   intro y0 y1 y2 y3
   unfold jigsawref09_Product.l1
   exact leo_
  ·
   intro y0 y1 y2 y3 y4 y5 y6
   unfold jigsawref09_Product.l2
   exact leo_
theorem jigsawref09_Product.mono : ∀ a0 a1 k, LeO (jigsawref09_Product.f k a0 a1) (jigsawref09_Product.f (k + 1) a0 a1) := by
 intro a0 a1 k
 obtain ⟨ih0, ih1, ih2⟩ := jigsawref09_Product.mono_l k
 unfold jigsawref09_Product.f
 exact leo_
def jigsawref09_Product.T17 : Bool × List (List Nat × List Nat) := (true, [([], []), ([], []), ([], []), ([], []), ([2, 3], [2, 3]), ([4], [4]), ([], []), ([], []), ([], []), ([7, 8], [7, 8]), ([9], [9]), ([10], [10]), ([6, 11], [6, 11]), ([5, 12], [5, 12]), ([13], [13]), ([0, 1, 0, 1, 2, 3, 4, 5, 6, 7, 8, 9, 10, 11, 12, 13, 14], [0, 1]), ([15, 14, 0, 1, 2, 3, 4, 5, 6, 7, 8, 9, 10, 11, 12, 13, 14], [14, 15])])
def jigsawref09_Product.B17 : List Nat := [0, 0, 0, 0, 12, 28, 0, 0, 0, 384, 896, 1920, 4032, 8188, 16380, 32767, 65535]
theorem jigsawref09_Product.tab17 : rtab .any (opsOf Tryz.f34 17) = jigsawref09_Product.T17 := by kernel_rfl
theorem jigsawref09_Product.bits17 : waitsOk jigsawref09_Product.T17.2 jigsawref09_Product.B17 = true := by kernel_rfl
set_option maxHeartbeats 8000000 in
set_option maxRecDepth 100000 in
theorem jigsawref09_Product.calls (k : Nat) (A0 : Option Addr) (c0 : Nat) (l0 : List (List Int)) (a1 : Int) (r : List (List Int)) (w : World) (hr0 : Kd.C (Kd.slice 3 (Kd.int .i64)) w A0 l0.length l0) (hc0 : l0.length ≤ c0) (h : jigsawref09_Product.f k l0 a1 = some r) :
  Calls Tryz.prog 34 #[.slice A0 l0.length c0, .int .i64 a1] w fun e w' => ∃ v0_ : Value, e = .returned (v0_) ∧ Kd.S (Kd.slice 3 (Kd.int .i64)) 30 w' w.heap.size (fun _ => True) v0_ r ∧ Below w.heap.size w w' := by
 have HR0 := Aside0.mk hr0
 have HC0 := Aside0.mk hc0
 clear hr0 hc0
 have HB := Aside0.mk (Below.refl w.heap.size w)
 unfold jigsawref09_Product.f at h
 have H := h
 clear h
 have H' := Aside0.mk H
 clear H
 go_enter Tryz.func34, Tryz.ntmps34
 go_wp2
 go_loopg [5, 6] k (fun kq v5 v6 w' => ∃ (x5_1 : Int) (x6_1 : Int), v5 = .int .i64 x5_1 ∧ v6 = .int .i64 x6_1 ∧ Aside0 (jigsawref09_Product.l0 kq l0 a1 x5_1 x6_1 = some r) ∧ Aside0 (kq ≤ k) ∧ Aside0 (Below w.heap.size w w'))
 case atStart => exact ⟨(1), (0), eq_, eq_, H', ⟨Nat.le_refl _⟩, ⟨bel_⟩⟩
 case round =>
  clear H'
  try clear p2
  obtain ⟨x5_1, x6_1, rfl, rfl, HA, HK1, HB⟩ := hrel
  cases gk with
  | zero => exact absurd HA.out (by simp [jigsawref09_Product.l0])
  | succ k1 =>
   have H := HA.out
   clear HA
   simp only [jigsawref09_Product.l0] at H
   by_cases c3 : x6_1 < (l0.length : Int)
   ·
    rw [if_pos c3] at H
    have c3b0 : decide (x6_1 < (l0.length : Int)) = true := decide_eq_true c3
    clear c3
    by_cases c4 : 0 ≤ x6_1
    ·
     rw [if_pos c4] at H
     have c4b0 : decide (0 ≤ x6_1) = true := decide_eq_true c4
     clear c4
     by_cases c5 : (wrap64 (x5_1 * ((rd_L7 l0 x6_1).length : Int))) > a1
     ·
      rw [if_pos c5] at H
      have c5b0 : decide (a1 < (wrap64 (x5_1 * ((rd_L7 l0 x6_1).length : Int)))) = true := decide_eq_true c5
      clear c5
      obtain rfl := Option.some.inj H
      have p549 : 0 ≤ (x6_1 : Int) := dq_
      have q549 : x6_1 < (l0.length : Int) := dq_
      obtain ⟨ad549, A549_0, c549_0, e549, hx549_0, hl549_0, hi549_0⟩ := at_L7 HR0.out x6_1 p549 q549
      cases e549
      replace hx549_0 := (HB.out.cell (World.block_lt_of_cell? w _ hx549_0)).trans hx549_0
      have HC549_0 := Aside0.mk hl549_0
      clear hi549_0 hl549_0
      replace p549 := eq_true p549
      replace q549 := eq_true q549
      go_wp2
      go_ret
      exact ⟨_, by first | rfl | (simp [errW_none, errW_some] <;> rfl) | (simp [*, errW_none, errW_some] <;> rfl), by first | exact Kd.S_nil _ _ _ _ _ | exact Kd.N_nil _ _ _ _ _ | exact Kd.V_nil _ _ _ _ _ | exact Kd.Q_nil _ _ _ _ _ | exact Kd.R_nil _ _ _ _ _, bel_⟩
     ·
      rw [if_neg c5] at H
      have c5b0 : decide (a1 < (wrap64 (x5_1 * ((rd_L7 l0 x6_1).length : Int)))) = false := decide_eq_false c5
      clear c5
      have H' := Aside0.mk H
      clear H
      have p549 : 0 ≤ (x6_1 : Int) := dq_
      have q549 : x6_1 < (l0.length : Int) := dq_
      obtain ⟨ad549, A549_0, c549_0, e549, hx549_0, hl549_0, hi549_0⟩ := at_L7 HR0.out x6_1 p549 q549
      cases e549
      replace hx549_0 := (HB.out.cell (World.block_lt_of_cell? w _ hx549_0)).trans hx549_0
      have HC549_0 := Aside0.mk hl549_0
      clear hi549_0 hl549_0
      replace p549 := eq_true p549
      replace q549 := eq_true q549
      go_wp2
      go_roundg k1
      case measure => have := HK1.out; omega
      case rel => exact ⟨(wrap64 (x5_1 * ((rd_L7 l0 x6_1).length : Int))), (wrap64 (x6_1 + 1)), eq_, eq_, H', ⟨by have := HK1.out; omega⟩, ⟨bel_⟩⟩
    ·
     rw [if_neg c4] at H
     exact absurd H (by simp)
   ·
    rw [if_neg c3] at H
    have c3b0 : decide (x6_1 < (l0.length : Int)) = false := decide_eq_false c3
    clear c3
    have H' := Aside0.mk H
    clear H
    go_wp2
    go_loopg [7, 8] k1 (fun kq v7 v8 w' => ∃ (x7_2 : List (List Int)) (x8_2 : Int), v8 = .int .i64 x8_2 ∧ Aside0 (jigsawref09_Product.l1 kq l0 x5_1 x7_2 x8_2 = some r) ∧ Aside0 (kq ≤ k1) ∧ Aside0 (Kd.S (Kd.slice 3 (Kd.int .i64)) 30 w' w.heap.size (fun _ => True) v7 x7_2) ∧ Aside0 (Below w.heap.size w w'))
    case atStart => exact ⟨(([] : List (List Int))), (0), eq_, H', ⟨Nat.le_refl _⟩, ⟨nil_⟩, ⟨bel_⟩⟩
    case round =>
     clear H'
     try clear p2
     try clear c3
     try clear c3b0
     try clear c4
     try clear c4b0
     try clear c5
     try clear c5b0
     try clear p5
     try clear q5
     try clear hx5
     try clear hx549_0
     try clear p2
     try clear p549
     try clear q549
     obtain ⟨x7_2, x8_2, rfl, HA, HK2, HO_7, HB⟩ := hrel
     cases gk with
     | zero => exact absurd HA.out (by simp [jigsawref09_Product.l1])
     | succ k2 =>
      have H := HA.out
      clear HA
      simp only [jigsawref09_Product.l1] at H
      by_cases c6 : x8_2 < x5_1
      ·
       rw [if_pos c6] at H
       have c6b0 : decide (x8_2 < x5_1) = true := decide_eq_true c6
       clear c6
       by_cases c7 : 0 ≤ (l0.length : Int)
       ·
        rw [if_pos c7] at H
        have c7b0 := eq_true c7
        have c7b1 : decide (0 ≤ (l0.length : Int)) = true := decide_eq_true c7
        clear c7
        by_cases c8 : ((l0.length : Int) : Int).toNat ≤ 35184372088832
        ·
         rw [if_pos c8] at H
         have c8b0 := eq_true c8
         have c8b1 : decide (((l0.length : Int) : Int).toNat ≤ 35184372088832) = true := decide_eq_true c8
         clear c8
         obtain ⟨y550, hy550⟩ : ∃ y_ : List Int, y_ = (List.replicate ((l0.length : Int) : Int).toNat 0) := ⟨_, rfl⟩
         replace H : (jigsawref09_Product.l2 k2 l0 x5_1 x7_2 x8_2 y550 x8_2 (wrap64 ((l0.length : Int) - 1))) = some r := by first | (rw [hy550]; with_reducible exact H) | (have H2_ := (Option.bind_some _ _).symm.trans H; rw [hy550]; with_reducible exact H2_) | (have H2_ := (Option.bind_some _ _).symm.trans H; with_reducible exact H2_) | with_reducible exact H | (rw [hy550]; exact H) | exact H
         have Ny550 := Aside0.mk hy550
         clear hy550
         have H' := Aside0.mk H
         clear H
         go_wp2_with (first | ((with_reducible refine gate_dst (N := 35) rfl ?_); refine Kd.R_make (Kd.int .i64) _ 3 rfl (N := 35) rfl 30 _ _ rfl (l0.length : Int) rfl rfl Tryz.underlying30 (.int .i64 0) 8 info3 rfl (by decide) (by omega) 0 (ok := fun _ => True) (okp := fun _ => True) rfl (fun _ hk => hk) trivial (dq_) (Nat.le_trans (Nat.mul_le_mul_right _ (dq_ : (l0.length : Int).toNat ≤ 35184372088832)) (by omega)) (Below.refl _ _) (Nat.le_refl _) ?_; intro v551 w9 ho10 hb hg_ hnew_; clear hg_ hnew_; (first | rw [← Ny550.out] at ho10 | (simp only [Int.reduceToNat] at ho10; rw [← Ny550.out] at ho10)); replace HO_7 := Aside0.mk (Kd.S_elder' (vS_ HO_7.out) (Kd.R_base ho10) hb); have HO552 := Aside0.mk (Kd.R_lower ho10 (below_size bel_)); replace HB := Aside0.mk (below_step bel_ hb); clear hb ho10))
         go_loopg [10, 11] k2 (fun kq v10 v11 w' => ∃ (x9_3 : List Int) (x10_3 : Int) (x11_3 : Int), v10 = .int .i64 x10_3 ∧ v11 = .int .i64 x11_3 ∧ Aside0 (jigsawref09_Product.l2 kq l0 x5_1 x7_2 x8_2 x9_3 x10_3 x11_3 = some r) ∧ Aside0 (kq ≤ k2) ∧ Aside0 (Kd.S (Kd.slice 3 (Kd.int .i64)) 30 w' w.heap.size (fun k_ => some k_ ≠ (v551 : Value).ownBlock) u7 x7_2) ∧ Aside0 (Kd.R (Kd.int .i64) 3 w' w.heap.size (fun _ => True) v551 x9_3) ∧ Aside0 (Below w.heap.size w w'))
         case atStart => exact ⟨(y550), (x8_2), (wrap64 ((l0.length : Int) - 1)), eq_, eq_, H', ⟨Nat.le_refl _⟩, ⟨by refine vS_ ?_; exact Kd.S_mono HO_7.out (fun _ hk => hk.2)⟩, ⟨by refine vR_ ?_; exact HO552.out⟩, ⟨bel_⟩⟩
         case round =>
          clear H'
          try clear p2
          try clear c3
          try clear c3b0
          try clear c4
          try clear c4b0
          try clear c5
          try clear c5b0
          try clear p5
          try clear q5
          try clear hx5
          try clear c6
          try clear c6b0
          try clear p6
          try clear c7
          try clear c7b0
          try clear c7b1
          try clear c8
          try clear c8b0
          try clear c8b1
          try clear hx549_0
          try clear p2
          try clear p5
          try clear p549
          try clear q5
          try clear q549
          obtain ⟨x9_3, x10_3, x11_3, rfl, rfl, HA, HK3, HO_7, HO_9, HB⟩ := hrel
          cases gk with
          | zero => exact absurd HA.out (by simp [jigsawref09_Product.l2])
          | succ k3 =>
           have H := HA.out
           clear HA
           simp only [jigsawref09_Product.l2] at H
           by_cases c11 : x11_3 ≥ 0
           ·
            rw [if_pos c11] at H
            have c11b0 : decide (0 ≤ x11_3) = true := decide_eq_true c11
            clear c11
            by_cases c12 : 0 ≤ x11_3
            ·
             rw [if_pos c12] at H
             have c12b0 : decide (0 ≤ x11_3) = true := decide_eq_true c12
             clear c12
             by_cases c13 : x11_3 < (l0.length : Int)
             ·
              rw [if_pos c13] at H
              have c13b0 : decide (x11_3 < (l0.length : Int)) = true := decide_eq_true c13
              clear c13
              by_cases c14 : ((rd_L7 l0 x11_3).length : Int) = 0
              ·
               rw [if_pos c14] at H
               exact absurd H (by simp)
              ·
               rw [if_neg c14] at H
               have c14b0 : (((rd_L7 l0 x11_3).length : Int) == 0) = false := beq_eq_false_iff_ne.mpr c14
               have c14b1 : (((rd_L7 l0 x11_3).length : Int) != 0) = true := bne_iff_ne.mpr c14
               have c14b2 : ¬ ((rd_L7 l0 x11_3) = []) := fun h_ => c14 (by rw [h_]; rfl)
               obtain ⟨ji15, hji15⟩ : ∃ j_ : Int, (Int.tmod x10_3 ((rd_L7 l0 x11_3).length : Int)) = j_ := ⟨_, rfl⟩
               replace H : (if 0 ≤ (ji15) then (if (ji15) < ((rd_L7 l0 x11_3).length : Int) then (if x11_3 < (x9_3.length : Int) then (jigsawref09_Product.l2 k3 l0 x5_1 x7_2 x8_2 (x9_3.set (x11_3 : Int).toNat (rd (rd_L7 l0 x11_3) (ji15))) (wrap64 (Int.tdiv x10_3 ((rd_L7 l0 x11_3).length : Int))) (wrap64 (x11_3 - 1))) else (none)) else (none)) else (none)) = some r := by first | (rw [hji15] at H; exact H) | (simp only [hji15] at H ⊢; exact H)
               by_cases c16 : 0 ≤ (ji15)
               ·
                rw [if_pos c16] at H
                have c16b0 : decide (0 ≤ (ji15)) = true := decide_eq_true c16
                clear c16
                by_cases c17 : (ji15) < ((rd_L7 l0 x11_3).length : Int)
                ·
                 rw [if_pos c17] at H
                 have c17b0 : decide ((ji15) < ((rd_L7 l0 x11_3).length : Int)) = true := decide_eq_true c17
                 clear c17
                 by_cases c18 : x11_3 < (x9_3.length : Int)
                 ·
                  rw [if_pos c18] at H
                  have c18b0 : decide (x11_3 < (x9_3.length : Int)) = true := decide_eq_true c18
                  clear c18
                  obtain ⟨y556, hy556⟩ : ∃ y_ : List Int, y_ = (x9_3.set (x11_3 : Int).toNat (rd (rd_L7 l0 x11_3) (ji15))) := ⟨_, rfl⟩
                  replace H : (jigsawref09_Product.l2 k3 l0 x5_1 x7_2 x8_2 y556 (wrap64 (Int.tdiv x10_3 ((rd_L7 l0 x11_3).length : Int))) (wrap64 (x11_3 - 1))) = some r := by first | (rw [hy556]; with_reducible exact H) | (have H2_ := (Option.bind_some _ _).symm.trans H; rw [hy556]; with_reducible exact H2_) | (have H2_ := (Option.bind_some _ _).symm.trans H; with_reducible exact H2_) | with_reducible exact H | (rw [hy556]; exact H) | exact H
                  have Ny556 := Aside0.mk hy556
                  clear hy556
                  have H' := Aside0.mk H
                  clear H
                  try go_wp2
                  replace HO_7 := Aside0.mk (Kd.S_drew HO_7.out)
                  replace HO_9 := Aside0.mk (Kd.R_drew HO_9.out)
                  replace HB := Aside0.mk (below_drew1 HB.out)
                  have p553 : 0 ≤ (x11_3 : Int) := dq_
                  have q553 : x11_3 < (l0.length : Int) := dq_
                  obtain ⟨ad553, A553_0, c553_0, e553, hx553_0, hl553_0, hi553_0⟩ := at_L7 HR0.out x11_3 p553 q553
                  have hw553_0 := hx553_0
                  cases e553
                  replace hx553_0 := (HB.out.cell (World.block_lt_of_cell? w _ hx553_0)).trans hx553_0
                  have HR553_0 := Aside0.mk hi553_0
                  have HC553_0 := Aside0.mk hl553_0
                  clear hi553_0 hl553_0
                  replace p553 := eq_true p553
                  replace q553 := eq_true q553
                  have p554 : 0 ≤ (x11_3 : Int) := dq_
                  have q554 : x11_3 < (l0.length : Int) := dq_
                  obtain ⟨ad554, A554_0, c554_0, e554, hx554_0, hl554_0, hi554_0⟩ := at_L7 HR0.out x11_3 p554 q554
                  have hw554_0 := hx554_0
                  obtain rfl : ad553 = ad554 := (by injection e554)
                  replace hx554_0 := (HB.out.cell (World.block_lt_of_cell? w _ hx554_0)).trans hx554_0
                  have HC554_0 := Aside0.mk hl554_0
                  clear hi554_0 hl554_0
                  replace p554 := eq_true p554
                  replace q554 := eq_true q554
                  have ea_ := Option.some.inj (hx553_0.symm.trans hx554_0)
                  injection ea_ with ea_ en_ ec_
                  subst ea_
                  subst ec_
                  clear en_
                  have p555 : 0 ≤ ((ji15) : Int) := dq_
                  have q555 : (ji15) < ((rd_L7 l0 x11_3).length : Int) := dq_
                  obtain ⟨ad555, e555, hx555_0⟩ := Kd.at_int HR553_0.out (ji15) p555 q555
                  have hw555_0 := hx555_0
                  cases e555
                  replace hx555_0 := (HB.out.cell (World.block_lt_of_cell? w _ hx555_0)).trans hx555_0
                  replace p555 := eq_true p555
                  replace q555 := eq_true q555
                  have p19 : 0 ≤ (x11_3 : Int) := dq_
                  have q19 : (x11_3 : Int) < ((x9_3.length : Int) : Int) := dq_
                  obtain ⟨go19, co19, eo19, gb19, gl19, cl19, HG19⟩ := Kd.R_form HO_9.out (by omega)
                  (first | cases eo19 | (injection eo19 with ea_ en_ ec_; (first | subst ea_ | (injection ea_ with ea_; subst ea_)); subst ec_; clear en_))
                  have GB19 := Aside0.mk gb19
                  have GG19 := Aside0.mk HG19
                  clear gb19 gl19 HG19
                  obtain ⟨hx19_0, hf19_0⟩ := Kd.R_celln 0 HO_9.out (x11_3 : Int) p19 q19
                  replace p19 := eq_true p19
                  replace q19 := eq_true q19
                  have HP21 := Kd.R_putn HO_9.out (x11_3 : Int) (rd (rd_L7 l0 x11_3) (ji15))
                  rw [← Ny556.out] at HP21
                  have HQ21 := Aside0.mk HP21
                  clear HP21
                  refine start_ (n := 17) (S := fun w' => w'.cell? (ad553.add (x11_3).toNat) = some (.slice (some ad555) (rd_L7 l0 x11_3).length c553_0) ∧ w'.cell? (ad553.add (x11_3).toNat) = some (.slice (some ad555) (rd_L7 l0 x11_3).length c553_0) ∧ w'.cell? (ad555.add ((ji15)).toNat) = some (.int .i64 (rd (rd_L7 l0 x11_3) (ji15)))) (ds := [16]) #[false, false, false, false, false, false, false, false, false, false, false, false, false, false, false, false, false] (by kernel_rfl) rfl rfl ⟨((HB.out.cell (World.block_lt_of_cell? w _ hw553_0)).trans hw553_0), ((HB.out.cell (World.block_lt_of_cell? w _ hw554_0)).trans hw554_0), ((HB.out.cell (World.block_lt_of_cell? w _ hw555_0)).trans hw555_0)⟩ (fun hHeld => ?_); refine with_tabW jigsawref09_Product.tab17 jigsawref09_Product.bits17 (fun HT_ HW_ => ?_)
                  generalize wr.drew = w20 at HO_7 HO_9 HB GG19 HQ21 HR553_0 hf19_0 hx19_0 hx553_0 hx554_0 hx555_0 hHeld ⊢
                  refine pu_ (i := 0) (N := some 44) (any_of HT_.out (by kernel_rfl)) ?_
                  refine pu_ (i := 1) (N := some 45) (any_of HT_.out (by kernel_rfl)) ?_
                  refine pu_ (i := 2) (N := some 46) (any_of HT_.out (by kernel_rfl)) ?_
                  refine pu_ (i := 3) (N := some 47) (any_of HT_.out (by kernel_rfl)) ?_
                  refine pu_ (i := 4) (N := some 48) (any_of HT_.out (by kernel_rfl)) ?_
                  refine pu_ (i := 6) (N := some 50) (any_of HT_.out (by kernel_rfl)) ?_
                  refine pu_ (i := 7) (N := some 51) (any_of HT_.out (by kernel_rfl)) ?_
                  refine pu_ (i := 8) (N := some 52) (any_of HT_.out (by kernel_rfl)) ?_
                  refine pu_ (i := 9) (N := some 53) (any_of HT_.out (by kernel_rfl)) ?_
                  refine tak_ (i := 5) (N := some 49) (take_ofW HT_.out HW_.out (by kernel_rfl)) hHeld ?_
                  refine tak_ (i := 10) (N := some 54) (take_ofW HT_.out HW_.out (by kernel_rfl)) hHeld ?_
                  refine pu_ (i := 11) (N := some 55) (any_of HT_.out (by kernel_rfl)) ?_
                  refine pu_ (i := 12) (N := some 56) (any_of HT_.out (by kernel_rfl)) ?_
                  refine pu_ (i := 13) (N := some 57) (any_of HT_.out (by kernel_rfl)) ?_
                  refine tak_ (i := 14) (N := some 58) (take_ofW HT_.out HW_.out (by kernel_rfl)) hHeld ?_
                  refine pu_ (i := 15) (N := some 59) (any_of HT_.out (by kernel_rfl)) ?_
                  refine last_ (i := 16) (N := none) #[true, true, true, true, true, true, true, true, true, true, true, true, true, true, true, true, true] rfl rfl (one_of HT_.out (by kernel_rfl)) (by decide) (fun K hK => ?_)
                  refine skip_ (w1 := ?_) (by rfl) rfl ?_ ?_
                  rotate_left
                  ·
                   go_simp
                   rfl
                  refine hK.out _ _ ?_
                  clear hK K
                  refine done_ (done_of HT_.out (by kernel_rfl)) ?_
                  have p557 : 0 ≤ (x11_3 : Int) := dq_
                  have q557 : x11_3 < (l0.length : Int) := dq_
                  obtain ⟨ad557, A557_0, c557_0, e557, hx557_0, hl557_0, hi557_0⟩ := at_L7 HR0.out x11_3 p557 q557
                  obtain rfl : ad553 = ad557 := (by injection e557)
                  have hn557_0 : ad553.block ≠ go19 := Nat.ne_of_lt (Nat.lt_of_lt_of_le (by have := World.block_lt_of_cell? _ _ hx557_0; first | rwa [add_block] at this | exact this) GB19.out)
                  replace hx557_0 := (HB.out.cell (World.block_lt_of_cell? w _ hx557_0)).trans hx557_0
                  have HC557_0 := Aside0.mk hl557_0
                  clear hi557_0 hl557_0
                  replace hx557_0 := (cell_far (p := ⟨go19, (x11_3 : Int).toNat, none⟩) (by first | (rw [add_block]; exact hn557_0) | (show (Addr.add _ _).block ≠ _; rw [add_block]; exact hn557_0) | exact hn557_0) (.int .i64 (rd (rd_L7 l0 x11_3) (ji15)))).trans hx557_0
                  clear hn557_0
                  replace p557 := eq_true p557
                  replace q557 := eq_true q557
                  try go_wp2
                  go_roundg k3
                  case measure => have := HK1.out; have := HK2.out; have := HK3.out; omega
                  case rel => exact ⟨(y556), (wrap64 (Int.tdiv x10_3 ((rd_L7 l0 x11_3).length : Int))), (wrap64 (x11_3 - 1)), eq_, eq_, H', ⟨by have := HK1.out; have := HK2.out; have := HK3.out; omega⟩, ⟨by refine vS_ ?_; exact Kd.S_mono (Kd.S_far (p := ⟨go19, (x11_3 : Int).toNat, none⟩) (Kd.S_mono HO_7.out (fun k_ hk => (⟨hk, fun e_ => hk (by rw [e_]; rfl)⟩ : _ ∧ k_ ≠ go19))) (fun _ hk => hk.2) _) (fun _ hk => hk.1)⟩, ⟨by refine vR_ ?_; exact HQ21.out⟩, ⟨by repeat (first | (with_reducible first | exact HB.out | apply below_alloc | apply pw_below_drewN | apply below_drew1 | refine below_set ?_ GB19.out) | exact HB.out)⟩⟩
                 ·
                  rw [if_neg c18] at H
                  exact absurd H (by simp)
                ·
                 rw [if_neg c17] at H
                 exact absurd H (by simp)
               ·
                rw [if_neg c16] at H
                exact absurd H (by simp)
             ·
              rw [if_neg c13] at H
              exact absurd H (by simp)
            ·
             rw [if_neg c12] at H
             exact absurd H (by simp)
           ·
            rw [if_neg c11] at H
            have c11b0 : decide (0 ≤ x11_3) = false := decide_eq_false c11
            clear c11
            by_cases c22 : x7_2.length < 5864062014805
            ·
             rw [if_pos c22] at H
             have LMc22 := Aside0.mk c22
             clear c22
             obtain ⟨y558, hy558⟩ : ∃ y_ : List (List Int), y_ = (x7_2 ++ [x9_3]) := ⟨_, rfl⟩
             replace H : (jigsawref09_Product.l1 k3 l0 x5_1 y558 (wrap64 (x8_2 + 1))) = some r := by first | (rw [hy558]; with_reducible exact H) | (have H2_ := (Option.bind_some _ _).symm.trans H; rw [hy558]; with_reducible exact H2_) | (have H2_ := (Option.bind_some _ _).symm.trans H; with_reducible exact H2_) | with_reducible exact H | (rw [hy558]; exact H) | exact H
             have Ny558 := Aside0.mk hy558
             clear hy558
             have H' := Aside0.mk H
             clear H
             obtain ⟨Ao24, co24, eo24⟩ := Kd.R_slice HO_9.out
             subst eo24
             go_wp2_with (first | ((with_reducible refine gate_builtin (b := .append) (xs := #[.tmp 67, .tmp 69]) rfl ?_); at_builtin; refine Kd.S_append (Kd.slice 3 (Kd.int .i64)) (w0 := w) w.heap.size rfl (.tmp 67) (.tmp 69) 27 30 (.slice none 0 0) 24 rfl Tryz.underlying27 info30 rfl (by decide) (by omega) u7 x7_2 x9_3 [.slice Ao24 x9_3.length co24] (fun _ => True) (fun k_ => some k_ = (.slice Ao24 x9_3.length co24 : Value).ownBlock) rfl rfl ?aP (fun k_ hk_ => ((Kd.R_mono (ok' := fun k_ => ((fun _ => True)) k_ ∧ some k_ ≠ (u7 : Value).ownBlock) (Kd.R_apart' (HO_9.out) (Kd.S_typed HO_7.out) (by decide)) (fun k_ hk => ⟨trivial, hk.2⟩))).1 k_ hk_.symm) ?aF ?aO ?aB ?aS ?aL ?_; (case aP => exact Kd.M_row (Kd.R_mono (Kd.R_tight rfl (Kd.R_mono (ok' := fun k_ => ((fun _ => True)) k_ ∧ some k_ ≠ (u7 : Value).ownBlock) (Kd.R_apart' (HO_9.out) (Kd.S_typed HO_7.out) (by decide)) (fun k_ hk => ⟨trivial, hk.2⟩))) (fun _ h_ => h_))); (case aB => exact bel_); (case aF => exact (fun _ _ => trivial)); (case aO => exact (by refine vS_ ?_; exact Kd.S_mono HO_7.out (fun k_ hk => ⟨trivial, fun e_ => hk e_⟩))); (case aS => exact (below_size bel_)); (case aL => have := LMc22.out; omega); intro v559 w23 ho hb hg hat; rw [← Ny558.out] at ho; replace HB := Aside0.mk (hb); have HO560 := Aside0.mk (ho); clear HO_7 HO_9; clear ho hb hg hat))
             go_roundg k3
             case measure => have := HK1.out; have := HK2.out; have := HK3.out; omega
             case rel => exact ⟨(y558), (wrap64 (x8_2 + 1)), eq_, H', ⟨by have := HK1.out; have := HK2.out; have := HK3.out; omega⟩, ⟨by refine vS_ ?_; exact HO560.out⟩, ⟨bel_⟩⟩
            ·
             rw [if_neg c22] at H
             exact absurd H (by simp)
        ·
         rw [if_neg c8] at H
         exact absurd H (by simp)
       ·
        rw [if_neg c7] at H
        exact absurd H (by simp)
      ·
       rw [if_neg c6] at H
       have c6b0 : decide (x8_2 < x5_1) = false := decide_eq_false c6
       clear c6
       obtain rfl := Option.some.inj H
       go_wp2
       go_ret
       exact ⟨_, by first | rfl | (simp [errW_none, errW_some] <;> rfl) | (simp [*, errW_none, errW_some] <;> rfl), by refine vS_ ?_; exact HO_7.out, bel_⟩


/-! ### jigsawref10_Solutions: function 15 -/
mutual
def jigsawref10_Solutions.l0 : Nat → List (List Int) → Int → Int → Int → Int → List Int → List Int → List Int → List Int → List Int → Int → List (List Int) → Option ((List (List Int)) × Bool)
 | 0, _, _, _, _, _, _, _, _, _, _, _, _ => none
 | k + 1, x1, x2, x8, x9, x562000, x562001, x562002, x562003, x562004, x562005, x562006, x562007 => if x9 < (x1.length : Int) then (if 0 ≤ x9 then (if (wrap64 (x8 * ((rd_L7 x1 x9).length : Int))) > x2 then (some (([] : List (List Int)), false)) else (jigsawref10_Solutions.l0 k x1 x2 (wrap64 (x8 * ((rd_L7 x1 x9).length : Int))) (wrap64 (x9 + 1)) x562000 x562001 x562002 x562003 x562004 x562005 x562006 x562007)) else (none)) else ((jigsawref10_Local.f k x562000 x562001 x562002 x562003 x562004 x562005 x562006 x562007).bind fun bt563 => ((jigsawref09_Product.f k x1 x2).bind fun t584 => (jigsawref10_Solutions.l1 k t584 ([] : List (List Int)) 0 bt563.1 bt563.2.1 bt563.2.2.1 bt563.2.2.2.1 bt563.2.2.2.2.1 bt563.2.2.2.2.2.1 bt563.2.2.2.2.2.2.1 bt563.2.2.2.2.2.2.2)))
def jigsawref10_Solutions.l1 : Nat → List (List Int) → List (List Int) → Int → Int → List Int → List Int → List Int → List Int → List Int → Int → List (List Int) → Option ((List (List Int)) × Bool)
 | 0, _, _, _, _, _, _, _, _, _, _, _ => none
 | k + 1, x11, x12, x13, x584000, x584001, x584002, x584003, x584004, x584005, x584006, x584007 => if x13 < (x11.length : Int) then (if 0 ≤ x13 then ((jigsawref09_Holds.f k x584000 x584001 x584002 x584003 x584004 x584005 x584006 x584007 (rd_L7 x11 x13)).bind fun t588 => (if t588 = true then (if x12.length < 5864062014805 then (jigsawref10_Solutions.l1 k x11 (x12 ++ [rd_L7 x11 x13]) (wrap64 (x13 + 1)) x584000 x584001 x584002 x584003 x584004 x584005 x584006 x584007) else (none)) else (jigsawref10_Solutions.l1 k x11 x12 (wrap64 (x13 + 1)) x584000 x584001 x584002 x584003 x584004 x584005 x584006 x584007))) else (none)) else (some (x12, true))
end
def jigsawref10_Solutions.f (k : Nat) (a0_0 : Int) (l0_1 : List Int) (l0_2 : List Int) (l0_3 : List Int) (l0_4 : List Int) (l0_5 : List Int) (a0_6 : Int) (l0_7 : List (List Int)) (l1 : List (List Int)) (a2 : Int) : Option ((List (List Int)) × Bool) := jigsawref10_Solutions.l0 k l1 a2 1 0 a0_0 l0_1 l0_2 l0_3 l0_4 l0_5 a0_6 l0_7
theorem jigsawref10_Solutions.mono_l : ∀ k, (∀ y0 y1 y2 y3 y4 y5 y6 y7 y8 y9 y10 y11, LeO (jigsawref10_Solutions.l0 k y0 y1 y2 y3 y4 y5 y6 y7 y8 y9 y10 y11) (jigsawref10_Solutions.l0 (k + 1) y0 y1 y2 y3 y4 y5 y6 y7 y8 y9 y10 y11)) ∧ (∀ y0 y1 y2 y3 y4 y5 y6 y7 y8 y9 y10, LeO (jigsawref10_Solutions.l1 k y0 y1 y2 y3 y4 y5 y6 y7 y8 y9 y10) (jigsawref10_Solutions.l1 (k + 1) y0 y1 y2 y3 y4 y5 y6 y7 y8 y9 y10))
 | 0 => ⟨fun _ _ _ _ _ _ _ _ _ _ _ _ r h => by simp [jigsawref10_Solutions.l0] at h, fun _ _ _ _ _ _ _ _ _ _ _ r h => by simp [jigsawref10_Solutions.l1] at h⟩
 | k + 1 => by
  obtain ⟨ih0, ih1⟩ := jigsawref10_Solutions.mono_l k
  refine ⟨?_, ?_⟩
  ·
   intro y0 y1 y2 y3 y4 y5 y6 y7 y8 y9 y10 y11
   unfold jigsawref10_Solutions.l0
   have m0 := @jigsawref09_Holds.mono
   have m1 := @jigsawref09_Product.mono
   have m2 := @jigsawref10_Local.mono
   exact leo_
  ·
   intro y0 y1 y2 y3 y4 y5 y6 y7 y8 y9 y10
   unfold jigsawref10_Solutions.l1
   have m0 := @jigsawref09_Holds.mono
   have m1 := @jigsawref09_Product.mono
   have m2 := @jigsawref10_Local.mono
   exact leo_
theorem jigsawref10_Solutions.mono : ∀ a0 a1 a2 a3 a4 a5 a6 a7 a8 a9 k, LeO (jigsawref10_Solutions.f k a0 a1 a2 a3 a4 a5 a6 a7 a8 a9) (jigsawref10_Solutions.f (k + 1) a0 a1 a2 a3 a4 a5 a6 a7 a8 a9) := by
 intro a0 a1 a2 a3 a4 a5 a6 a7 a8 a9 k
 obtain ⟨ih0, ih1⟩ := jigsawref10_Solutions.mono_l k
 unfold jigsawref10_Solutions.f
 have m0 := @jigsawref09_Holds.mono
 have m1 := @jigsawref09_Product.mono
 have m2 := @jigsawref10_Local.mono
 exact leo_
set_option maxHeartbeats 8000000 in
set_option maxRecDepth 100000 in
theorem jigsawref10_Solutions.calls (k : Nat) (a0_0 : Int) (A0_1 : Option Addr) (c0_1 : Nat) (l0_1 : List Int) (A0_2 : Option Addr) (c0_2 : Nat) (l0_2 : List Int) (P0_3_ : Nat → Prop) (A0_3 : Option Addr) (c0_3 : Nat) (l0_3 : List Int) (P0_4_ : Nat → Prop) (A0_4 : Option Addr) (c0_4 : Nat) (l0_4 : List Int) (P0_5_ : Nat → Prop) (A0_5 : Option Addr) (c0_5 : Nat) (l0_5 : List Int) (a0_6 : Int) (P0_7_ : Nat → Prop) (A0_7 : Option Addr) (c0_7 : Nat) (l0_7 : List (List Int)) (A1 : Option Addr) (c1 : Nat) (l1 : List (List Int)) (a2 : Int) (r1 : List (List Int)) (r2 : Bool) (w : World) (hr0_1 : Kd.C (Kd.int .i64) w A0_1 l0_1.length l0_1) (hc0_1 : l0_1.length ≤ c0_1) (hr0_2 : Kd.C (Kd.int .i64) w A0_2 l0_2.length l0_2) (hc0_2 : l0_2.length ≤ c0_2) (hs0_3 : Kd.V (Kd.int .i64) 3 w w.heap.size (fun k_ => P0_3_ k_) (.slice A0_3 l0_3.length c0_3) l0_3) (hs0_4 : Kd.V (Kd.int .i64) 3 w w.heap.size (fun k_ => P0_4_ k_) (.slice A0_4 l0_4.length c0_4) l0_4) (hs0_5 : Kd.V (Kd.int .i64) 3 w w.heap.size (fun k_ => P0_5_ k_) (.slice A0_5 l0_5.length c0_5) l0_5) (hs0_7 : Kd.V (Kd.slice 3 (Kd.int .i64)) 30 w w.heap.size (fun k_ => P0_7_ k_) (.slice A0_7 l0_7.length c0_7) l0_7) (hr1 : Kd.C (Kd.slice 3 (Kd.int .i64)) w A1 l1.length l1) (hc1 : l1.length ≤ c1) (h : jigsawref10_Solutions.f k a0_0 l0_1 l0_2 l0_3 l0_4 l0_5 a0_6 l0_7 l1 a2 = some (r1, r2)) :
  Calls Tryz.prog 15 #[.agg #[.int .i64 a0_0, .slice A0_1 l0_1.length c0_1, .slice A0_2 l0_2.length c0_2, .slice A0_3 l0_3.length c0_3, .slice A0_4 l0_4.length c0_4, .slice A0_5 l0_5.length c0_5, .int .i64 a0_6, .slice A0_7 l0_7.length c0_7], .slice A1 l1.length c1, .int .i64 a2] w fun e w' => ∃ v0_ : Value, e = .returned (.tuple #[v0_, .bool r2]) ∧ Kd.N (Kd.slice 3 (Kd.int .i64)) 30 w' w.heap.size (fun k_ => ((P0_3_ k_ ∨ P0_4_ k_ ∨ P0_5_ k_ ∨ P0_7_ k_) ∨ w.heap.size ≤ k_)) v0_ r1 ∧ Below w.heap.size w w' := by
 have hu32 := Tryz.underlying32
 have HR0_1 := Aside0.mk hr0_1
 have HC0_1 := Aside0.mk hc0_1
 clear hr0_1 hc0_1
 have HR0_2 := Aside0.mk hr0_2
 have HC0_2 := Aside0.mk hc0_2
 clear hr0_2 hc0_2
 have HO0_3 := Aside0.mk (show Kd.V (Kd.int .i64) 3 w w.heap.size (fun k_ => ((P0_3_ k_ ∨ P0_4_ k_ ∨ P0_5_ k_ ∨ P0_7_ k_) ∨ w.heap.size ≤ k_)) (.slice A0_3 l0_3.length c0_3) l0_3 from Kd.V_mono hs0_3 (fun k_ hk => .inl (.inl hk)))
 have HO0_4 := Aside0.mk (show Kd.V (Kd.int .i64) 3 w w.heap.size (fun k_ => ((P0_3_ k_ ∨ P0_4_ k_ ∨ P0_5_ k_ ∨ P0_7_ k_) ∨ w.heap.size ≤ k_)) (.slice A0_4 l0_4.length c0_4) l0_4 from Kd.V_mono hs0_4 (fun k_ hk => .inl (.inr (.inl hk))))
 have HO0_5 := Aside0.mk (show Kd.V (Kd.int .i64) 3 w w.heap.size (fun k_ => ((P0_3_ k_ ∨ P0_4_ k_ ∨ P0_5_ k_ ∨ P0_7_ k_) ∨ w.heap.size ≤ k_)) (.slice A0_5 l0_5.length c0_5) l0_5 from Kd.V_mono hs0_5 (fun k_ hk => .inl (.inr (.inr (.inl hk)))))
 have HO0_7 := Aside0.mk (show Kd.V (Kd.slice 3 (Kd.int .i64)) 30 w w.heap.size (fun k_ => ((P0_3_ k_ ∨ P0_4_ k_ ∨ P0_5_ k_ ∨ P0_7_ k_) ∨ w.heap.size ≤ k_)) (.slice A0_7 l0_7.length c0_7) l0_7 from Kd.V_mono hs0_7 (fun k_ hk => .inl (.inr (.inr (.inr hk)))))
 have HR1 := Aside0.mk hr1
 have HC1 := Aside0.mk hc1
 clear hr1 hc1
 have HB := Aside0.mk (Below.refl w.heap.size w)
 unfold jigsawref10_Solutions.f at h
 have H := h
 clear h
 have H' := Aside0.mk H
 clear H
 go_enter Tryz.func15, Tryz.ntmps15
 go_wp2_with (first | ((with_reducible refine gate_dst (N := 3) rfl ?_); refine bxe_ (N := 3) (cs := #[.int .i64 a0_0, .slice A0_1 l0_1.length c0_1, .slice A0_2 l0_2.length c0_2, .slice A0_3 l0_3.length c0_3, .slice A0_4 l0_4.length c0_4, .slice A0_5 l0_5.length c0_5, .int .i64 a0_6, .slice A0_7 l0_7.length c0_7]) (t := 32) ?_; intro gb561 hg w4 hbox hb; replace HO0_3 := Aside0.mk (Kd.V_below (Kd.V_elderB (vV_ HO0_3.out) gb561 (Nat.le_of_eq hg.symm)) hb); replace HO0_4 := Aside0.mk (Kd.V_below (Kd.V_elderB (vV_ HO0_4.out) gb561 (Nat.le_of_eq hg.symm)) hb); replace HO0_5 := Aside0.mk (Kd.V_below (Kd.V_elderB (vV_ HO0_5.out) gb561 (Nat.le_of_eq hg.symm)) hb); replace HO0_7 := Aside0.mk (Kd.V_below (Kd.V_elderB (vV_ HO0_7.out) gb561 (Nat.le_of_eq hg.symm)) hb); have BK561 := Aside0.mk (hbox); have GW561 := Aside0.mk (by rw [hg]; exact (below_size bel_) : w.heap.size ≤ gb561); have GE561 := GW561; replace HB := Aside0.mk (below_step bel_ hb); clear hb hbox hg))
 go_loopg [8, 9] k (fun kq v8 v9 w' => ∃ (x8_1 : Int) (x9_1 : Int), v8 = .int .i64 x8_1 ∧ v9 = .int .i64 x9_1 ∧ Aside0 (jigsawref10_Solutions.l0 kq l1 a2 x8_1 x9_1 a0_0 l0_1 l0_2 l0_3 l0_4 l0_5 a0_6 l0_7 = some (r1, r2)) ∧ Aside0 (kq ≤ k) ∧ Aside0 (Kd.V (Kd.int .i64) 3 w' w.heap.size (fun k_ => ((P0_3_ k_ ∨ P0_4_ k_ ∨ P0_5_ k_ ∨ P0_7_ k_) ∨ w.heap.size ≤ k_) ∧ k_ ≠ gb561) (.slice A0_3 l0_3.length c0_3) l0_3) ∧ Aside0 (Kd.V (Kd.int .i64) 3 w' w.heap.size (fun k_ => ((P0_3_ k_ ∨ P0_4_ k_ ∨ P0_5_ k_ ∨ P0_7_ k_) ∨ w.heap.size ≤ k_) ∧ k_ ≠ gb561) (.slice A0_4 l0_4.length c0_4) l0_4) ∧ Aside0 (Kd.V (Kd.int .i64) 3 w' w.heap.size (fun k_ => ((P0_3_ k_ ∨ P0_4_ k_ ∨ P0_5_ k_ ∨ P0_7_ k_) ∨ w.heap.size ≤ k_) ∧ k_ ≠ gb561) (.slice A0_5 l0_5.length c0_5) l0_5) ∧ Aside0 (Kd.V (Kd.slice 3 (Kd.int .i64)) 30 w' w.heap.size (fun k_ => ((P0_3_ k_ ∨ P0_4_ k_ ∨ P0_5_ k_ ∨ P0_7_ k_) ∨ w.heap.size ≤ k_) ∧ k_ ≠ gb561) (.slice A0_7 l0_7.length c0_7) l0_7) ∧ Aside0 (w'.heap[gb561]? = some (.cells #[.int .i64 a0_0, (.slice A0_1 l0_1.length c0_1), (.slice A0_2 l0_2.length c0_2), (.slice A0_3 l0_3.length c0_3), (.slice A0_4 l0_4.length c0_4), (.slice A0_5 l0_5.length c0_5), .int .i64 a0_6, (.slice A0_7 l0_7.length c0_7)] 32 (0, 0))) ∧ Aside0 (Below w.heap.size w w'))
 case atStart => exact ⟨(1), (0), eq_, eq_, H', ⟨Nat.le_refl _⟩, ⟨by refine vV_ ?_; exact HO0_3.out⟩, ⟨by refine vV_ ?_; exact HO0_4.out⟩, ⟨by refine vV_ ?_; exact HO0_5.out⟩, ⟨by refine vV_ ?_; exact HO0_7.out⟩, ⟨by refine bk_ ?_; exact BK561.out⟩, ⟨bel_⟩⟩
 case round =>
  clear H'
  try clear c1
  try clear p2
  obtain ⟨x8_1, x9_1, rfl, rfl, HA, HK1, HO_562003, HO_562004, HO_562005, HO_562007, BK561, HB⟩ := hrel
  cases gk with
  | zero => exact absurd HA.out (by simp [jigsawref10_Solutions.l0])
  | succ k1 =>
   have H := HA.out
   clear HA
   simp only [jigsawref10_Solutions.l0] at H
   by_cases c5 : x9_1 < (l1.length : Int)
   ·
    rw [if_pos c5] at H
    have c5b0 : decide (x9_1 < (l1.length : Int)) = true := decide_eq_true c5
    clear c5
    by_cases c6 : 0 ≤ x9_1
    ·
     rw [if_pos c6] at H
     have c6b0 : decide (0 ≤ x9_1) = true := decide_eq_true c6
     clear c6
     by_cases c7 : (wrap64 (x8_1 * ((rd_L7 l1 x9_1).length : Int))) > a2
     ·
      rw [if_pos c7] at H
      have c7b0 : decide (a2 < (wrap64 (x8_1 * ((rd_L7 l1 x9_1).length : Int)))) = true := decide_eq_true c7
      clear c7
      simp only [Option.some.injEq, Prod.mk.injEq] at H
      obtain ⟨rfl, rfl⟩ := H
      have p562 : 0 ≤ (x9_1 : Int) := dq_
      have q562 : x9_1 < (l1.length : Int) := dq_
      obtain ⟨ad562, A562_0, c562_0, e562, hx562_0, hl562_0, hi562_0⟩ := at_L7 HR1.out x9_1 p562 q562
      cases e562
      replace hx562_0 := (HB.out.cell (World.block_lt_of_cell? w _ hx562_0)).trans hx562_0
      have HC562_0 := Aside0.mk hl562_0
      clear hi562_0 hl562_0
      replace p562 := eq_true p562
      replace q562 := eq_true q562
      go_wp2
      go_ret2
      exact ⟨_, by first | rfl | (simp [errW_none, errW_some] <;> rfl) | (simp [*, errW_none, errW_some] <;> rfl), by first | exact Kd.S_nil _ _ _ _ _ | exact Kd.N_nil _ _ _ _ _ | exact Kd.V_nil _ _ _ _ _ | exact Kd.Q_nil _ _ _ _ _ | exact Kd.R_nil _ _ _ _ _, bel_⟩
     ·
      rw [if_neg c7] at H
      have c7b0 : decide (a2 < (wrap64 (x8_1 * ((rd_L7 l1 x9_1).length : Int)))) = false := decide_eq_false c7
      clear c7
      have H' := Aside0.mk H
      clear H
      have p562 : 0 ≤ (x9_1 : Int) := dq_
      have q562 : x9_1 < (l1.length : Int) := dq_
      obtain ⟨ad562, A562_0, c562_0, e562, hx562_0, hl562_0, hi562_0⟩ := at_L7 HR1.out x9_1 p562 q562
      cases e562
      replace hx562_0 := (HB.out.cell (World.block_lt_of_cell? w _ hx562_0)).trans hx562_0
      have HC562_0 := Aside0.mk hl562_0
      clear hi562_0 hl562_0
      replace p562 := eq_true p562
      replace q562 := eq_true q562
      go_wp2
      go_roundg k1
      case measure => have := HK1.out; omega
      case rel => exact ⟨(wrap64 (x8_1 * ((rd_L7 l1 x9_1).length : Int))), (wrap64 (x9_1 + 1)), eq_, eq_, H', ⟨by have := HK1.out; omega⟩, ⟨by refine vV_ ?_; exact HO_562003.out⟩, ⟨by refine vV_ ?_; exact HO_562004.out⟩, ⟨by refine vV_ ?_; exact HO_562005.out⟩, ⟨by refine vV_ ?_; exact HO_562007.out⟩, ⟨by refine bk_ ?_; exact BK561.out⟩, ⟨bel_⟩⟩
    ·
     rw [if_neg c6] at H
     exact absurd H (by simp)
   ·
    rw [if_neg c5] at H
    have c5b0 : decide (x9_1 < (l1.length : Int)) = false := decide_eq_false c5
    clear c5
    replace H := Option.bind_eq_some_iff.mp H
    obtain ⟨⟨t563, t564, t567, t570, t573, t576, t579, t580⟩, A80, H⟩ := H
    try dsimp only at H
    have A8 := Aside0.mk A80
    clear A80
    replace H := Option.bind_eq_some_iff.mp H
    obtain ⟨t584, A90, H⟩ := H
    try dsimp only at H
    have A9 := Aside0.mk A90
    clear A90
    have H' := Aside0.mk H
    clear H
    obtain ⟨_, _, _, _, _, _, _, _, _, _, _, _, _, _, _, _⟩ := cel8_ BK561.out
    go_wp2_with (first | ((with_reducible refine gate_callee (f := 20) rfl ?_); refine goesL_ (some 32) rfl rfl Tryz.func20 (by kernel_rfl) rfl #[.agg #[.int .i64 a0_0, .slice A0_1 l0_1.length c0_1, .slice A0_2 l0_2.length c0_2, .slice A0_3 l0_3.length c0_3, .slice A0_4 l0_4.length c0_4, .slice A0_5 l0_5.length c0_5, .int .i64 a0_6, .slice A0_7 l0_7.length c0_7]] rfl ar_ ?_; (with_reducible refine (jigsawref10_Local.calls k1 a0_0 _ _ l0_1 _ _ l0_2 (fun k_ => (((P0_3_ k_ ∨ P0_4_ k_ ∨ P0_5_ k_ ∨ P0_7_ k_) ∨ w.heap.size ≤ k_) ∧ k_ ≠ gb561)) _ _ l0_3 (fun k_ => (((P0_3_ k_ ∨ P0_4_ k_ ∨ P0_5_ k_ ∨ P0_7_ k_) ∨ w.heap.size ≤ k_) ∧ k_ ≠ gb561)) _ _ l0_4 (fun k_ => (((P0_3_ k_ ∨ P0_4_ k_ ∨ P0_5_ k_ ∨ P0_7_ k_) ∨ w.heap.size ≤ k_) ∧ k_ ≠ gb561)) _ _ l0_5 a0_6 (fun k_ => (((P0_3_ k_ ∨ P0_4_ k_ ∨ P0_5_ k_ ∨ P0_7_ k_) ∨ w.heap.size ≤ k_) ∧ k_ ≠ gb561)) _ _ l0_7 t563 t564 t567 t570 t573 t576 t579 t580 _ ?_ ?_ ?_ ?_ ?_ ?_ ?_ ?_ A8.out).mono ?_); exact ca_ ((Kd.C_below HR0_1.out HB.out)); exact HC0_1.out; exact ca_ ((Kd.C_below HR0_2.out HB.out)); exact HC0_2.out; exact HO_562003.out; exact HO_562004.out; exact HO_562005.out; exact HO_562007.out; rintro e w11 ⟨v565, v568, v571, v574, v577, v581, rfl, ho0, ho1, ho2, ho3, ho4, ho5, hb⟩; refine ⟨_, rfl, ?_⟩; replace HO_562003 := Aside0.mk (Kd.V_mono (Kd.V_told (Kd.V_told (Kd.V_old (vV_ HO_562003.out) hb) (Kd.R_base ho0)) (Kd.R_base ho1)) (fun _ h_ => h_.1)); replace HO_562004 := Aside0.mk (Kd.V_mono (Kd.V_told (Kd.V_told (Kd.V_old (vV_ HO_562004.out) hb) (Kd.R_base ho0)) (Kd.R_base ho1)) (fun _ h_ => h_.1)); replace HO_562005 := Aside0.mk (Kd.V_mono (Kd.V_told (Kd.V_told (Kd.V_old (vV_ HO_562005.out) hb) (Kd.R_base ho0)) (Kd.R_base ho1)) (fun _ h_ => h_.1)); replace HO_562007 := Aside0.mk (Kd.V_mono (Kd.V_told (Kd.V_told (Kd.V_old (vV_ HO_562007.out) hb) (Kd.R_base ho0)) (Kd.R_base ho1)) (fun _ h_ => h_.1)); have HO566 := Aside0.mk (Kd.R_lower (Kd.R_newM (M := fun k_ => (w.heap.size ≤ k_)) (Kd.R_mono (ok' := fun k_ => some k_ ≠ (v568 : Value).ownBlock) ho0 (fun _ hk_ => hk_.2)) (below_size bel_) (fun k_ h_ => h_)) (below_size bel_)); have HO569 := Aside0.mk (Kd.R_lower (Kd.R_newM (M := fun k_ => (w.heap.size ≤ k_)) (Kd.R_mono (ok' := fun k_ => some k_ ≠ (v565 : Value).ownBlock) ho1 (fun _ hk_ => hk_.2)) (below_size bel_) (fun k_ h_ => h_)) (below_size bel_)); have HO572 := Aside0.mk (Kd.V_lower (Kd.V_mono (ok' := fun k_ => ((P0_3_ k_ ∨ P0_4_ k_ ∨ P0_5_ k_ ∨ P0_7_ k_) ∨ w.heap.size ≤ k_) ∧ some k_ ≠ (v565 : Value).ownBlock ∧ some k_ ≠ (v568 : Value).ownBlock ∧ k_ ≠ gb561) ho2 (fun k_ hk_ => ⟨Or.elim hk_.1 (fun hs_ => Or.elim hs_ (fun hs_ => hs_.1) (fun hs_ => Or.elim hs_ (fun hs_ => hs_.1) (fun hs_ => Or.elim hs_ (fun hs_ => hs_.1) (fun hs_ => hs_.1)))) (fun hn_ => (.inr (Nat.le_trans (below_size bel_) hn_))), hk_.2.1, hk_.2.2, Or.elim hk_.1 (fun hs_ => Or.elim hs_ (fun hs_ => hs_.2) (fun hs_ => Or.elim hs_ (fun hs_ => hs_.2) (fun hs_ => Or.elim hs_ (fun hs_ => hs_.2) (fun hs_ => hs_.2)))) (fun hn_ => (Kd.freshB (bk_ BK561.out) k_ hn_))⟩)) (below_size bel_)); have HO575 := Aside0.mk (Kd.V_lower (Kd.V_mono (ok' := fun k_ => ((P0_3_ k_ ∨ P0_4_ k_ ∨ P0_5_ k_ ∨ P0_7_ k_) ∨ w.heap.size ≤ k_) ∧ some k_ ≠ (v565 : Value).ownBlock ∧ some k_ ≠ (v568 : Value).ownBlock ∧ k_ ≠ gb561) ho3 (fun k_ hk_ => ⟨Or.elim hk_.1 (fun hs_ => Or.elim hs_ (fun hs_ => hs_.1) (fun hs_ => Or.elim hs_ (fun hs_ => hs_.1) (fun hs_ => Or.elim hs_ (fun hs_ => hs_.1) (fun hs_ => hs_.1)))) (fun hn_ => (.inr (Nat.le_trans (below_size bel_) hn_))), hk_.2.1, hk_.2.2, Or.elim hk_.1 (fun hs_ => Or.elim hs_ (fun hs_ => hs_.2) (fun hs_ => Or.elim hs_ (fun hs_ => hs_.2) (fun hs_ => Or.elim hs_ (fun hs_ => hs_.2) (fun hs_ => hs_.2)))) (fun hn_ => (Kd.freshB (bk_ BK561.out) k_ hn_))⟩)) (below_size bel_)); have HO578 := Aside0.mk (Kd.V_lower (Kd.V_mono (ok' := fun k_ => ((P0_3_ k_ ∨ P0_4_ k_ ∨ P0_5_ k_ ∨ P0_7_ k_) ∨ w.heap.size ≤ k_) ∧ some k_ ≠ (v565 : Value).ownBlock ∧ some k_ ≠ (v568 : Value).ownBlock ∧ k_ ≠ gb561) ho4 (fun k_ hk_ => ⟨Or.elim hk_.1 (fun hs_ => Or.elim hs_ (fun hs_ => hs_.1) (fun hs_ => Or.elim hs_ (fun hs_ => hs_.1) (fun hs_ => Or.elim hs_ (fun hs_ => hs_.1) (fun hs_ => hs_.1)))) (fun hn_ => (.inr (Nat.le_trans (below_size bel_) hn_))), hk_.2.1, hk_.2.2, Or.elim hk_.1 (fun hs_ => Or.elim hs_ (fun hs_ => hs_.2) (fun hs_ => Or.elim hs_ (fun hs_ => hs_.2) (fun hs_ => Or.elim hs_ (fun hs_ => hs_.2) (fun hs_ => hs_.2)))) (fun hn_ => (Kd.freshB (bk_ BK561.out) k_ hn_))⟩)) (below_size bel_)); have HO582 := Aside0.mk (Kd.V_lower (Kd.V_mono (ok' := fun k_ => ((P0_3_ k_ ∨ P0_4_ k_ ∨ P0_5_ k_ ∨ P0_7_ k_) ∨ w.heap.size ≤ k_) ∧ some k_ ≠ (v565 : Value).ownBlock ∧ some k_ ≠ (v568 : Value).ownBlock ∧ k_ ≠ gb561) ho5 (fun k_ hk_ => ⟨Or.elim hk_.1 (fun hs_ => Or.elim hs_ (fun hs_ => hs_.1) (fun hs_ => Or.elim hs_ (fun hs_ => hs_.1) (fun hs_ => Or.elim hs_ (fun hs_ => hs_.1) (fun hs_ => hs_.1)))) (fun hn_ => (.inr (Nat.le_trans (below_size bel_) hn_))), hk_.2.1, hk_.2.2, Or.elim hk_.1 (fun hs_ => Or.elim hs_ (fun hs_ => hs_.2) (fun hs_ => Or.elim hs_ (fun hs_ => hs_.2) (fun hs_ => Or.elim hs_ (fun hs_ => hs_.2) (fun hs_ => hs_.2)))) (fun hn_ => (Kd.freshB (bk_ BK561.out) k_ hn_))⟩)) (below_size bel_)); replace BK561 := Aside0.mk (blk_below (bk_ BK561.out) hb); replace HB := Aside0.mk (below_step bel_ hb); clear hb ho0 ho1 ho2 ho3 ho4 ho5) | ((with_reducible refine gate_dst (N := 10) rfl ?_); refine bxe_ (N := 10) (cs := #[.int .i64 0, .slice none 0 0, .slice none 0 0, .slice none 0 0, .slice none 0 0, .slice none 0 0, .int .i64 0, .slice none 0 0]) (t := 32) ?_; intro gb583 hg w12 hbox hb; replace HO_562003 := Aside0.mk (Kd.V_below (Kd.V_elderB (vV_ HO_562003.out) gb583 (Nat.le_of_eq hg.symm)) hb); replace HO_562004 := Aside0.mk (Kd.V_below (Kd.V_elderB (vV_ HO_562004.out) gb583 (Nat.le_of_eq hg.symm)) hb); replace HO_562005 := Aside0.mk (Kd.V_below (Kd.V_elderB (vV_ HO_562005.out) gb583 (Nat.le_of_eq hg.symm)) hb); replace HO_562007 := Aside0.mk (Kd.V_below (Kd.V_elderB (vV_ HO_562007.out) gb583 (Nat.le_of_eq hg.symm)) hb); replace HO566 := Aside0.mk (Kd.R_below (vR_ HO566.out) hb); replace HO569 := Aside0.mk (Kd.R_below (vR_ HO569.out) hb); replace HO572 := Aside0.mk (Kd.V_below (Kd.V_elderB (vV_ HO572.out) gb583 (Nat.le_of_eq hg.symm)) hb); replace HO575 := Aside0.mk (Kd.V_below (Kd.V_elderB (vV_ HO575.out) gb583 (Nat.le_of_eq hg.symm)) hb); replace HO578 := Aside0.mk (Kd.V_below (Kd.V_elderB (vV_ HO578.out) gb583 (Nat.le_of_eq hg.symm)) hb); replace HO582 := Aside0.mk (Kd.V_below (Kd.V_elderB (vV_ HO582.out) gb583 (Nat.le_of_eq hg.symm)) hb); have BK583 := Aside0.mk (hbox); have GW583 := Aside0.mk (by rw [hg]; exact (below_size bel_) : w.heap.size ≤ gb583); have GE583 := GW583; replace HB := Aside0.mk (below_step bel_ hb); have NB561_583 := Aside0.mk ((by rw [hg]; exact Nat.ne_of_lt (blk_lt (bk_ BK561.out)) : gb561 ≠ gb583)); have NB583_561 := Aside0.mk ((by rw [hg]; exact Nat.ne_of_gt (blk_lt (bk_ BK561.out)) : gb583 ≠ gb561)); replace BK561 := Aside0.mk (blk_below (bk_ BK561.out) hb); clear hb hbox hg; have hnb13 := NB583_561.out; have hnc13 := NB561_583.out; obtain ⟨_, _, _, _, _, _, _, _, _, _, _, _, _, _, _, _⟩ := cel8_ BK583.out; obtain ⟨Ao15, co15, eo15⟩ := Kd.R_slice HO566.out; subst eo15; obtain ⟨Ao16, co16, eo16⟩ := Kd.R_slice HO569.out; subst eo16; obtain ⟨Ao17, co17, eo17⟩ := Kd.V_slice HO572.out; subst eo17; obtain ⟨Ao18, co18, eo18⟩ := Kd.V_slice HO575.out; subst eo18; obtain ⟨Ao19, co19, eo19⟩ := Kd.V_slice HO578.out; subst eo19; obtain ⟨Ao20, co20, eo20⟩ := Kd.V_slice HO582.out; subst eo20) | ((with_reducible refine gate_callee (f := 34) rfl ?_); refine goesL_ (some 35) rfl rfl Tryz.func34 (by kernel_rfl) rfl #[.slice A1 l1.length c1, .int .i64 a2] rfl ar_ ?_; (with_reducible refine (jigsawref09_Product.calls k1 _ _ l1 a2 t584 _ ?_ ?_ A9.out).mono ?_); exact Kd.C_below HR1.out bel_; exact HC1.out; rintro e w21 ⟨v585, rfl, ho0, hb⟩; refine ⟨_, rfl, ?_⟩; replace HO_562003 := Aside0.mk (Kd.V_elder' (by refine vV_ ?_; exact (Kd.V_mono (fV_ (fV_ (fV_ (fV_ (fV_ (fV_ (fV_ (fV_ (Kd.V_mono HO_562003.out (fun k_ hk => (⟨hk, hk.2⟩ : _ ∧ k_ ≠ gb583))))))))))) (fun _ h_ => h_.1))) (Kd.N_base (Kd.S_N ho0)) hb); replace HO_562004 := Aside0.mk (Kd.V_elder' (by refine vV_ ?_; exact (Kd.V_mono (fV_ (fV_ (fV_ (fV_ (fV_ (fV_ (fV_ (fV_ (Kd.V_mono HO_562004.out (fun k_ hk => (⟨hk, hk.2⟩ : _ ∧ k_ ≠ gb583))))))))))) (fun _ h_ => h_.1))) (Kd.N_base (Kd.S_N ho0)) hb); replace HO_562005 := Aside0.mk (Kd.V_elder' (by refine vV_ ?_; exact (Kd.V_mono (fV_ (fV_ (fV_ (fV_ (fV_ (fV_ (fV_ (fV_ (Kd.V_mono HO_562005.out (fun k_ hk => (⟨hk, hk.2⟩ : _ ∧ k_ ≠ gb583))))))))))) (fun _ h_ => h_.1))) (Kd.N_base (Kd.S_N ho0)) hb); replace HO_562007 := Aside0.mk (Kd.V_elder' (by refine vV_ ?_; exact (Kd.V_mono (fV_ (fV_ (fV_ (fV_ (fV_ (fV_ (fV_ (fV_ (Kd.V_mono HO_562007.out (fun k_ hk => (⟨hk, hk.2⟩ : _ ∧ k_ ≠ gb583))))))))))) (fun _ h_ => h_.1))) (Kd.N_base (Kd.S_N ho0)) hb); replace HO572 := Aside0.mk (Kd.V_elder' (by refine vV_ ?_; exact (Kd.V_mono (fV_ (fV_ (fV_ (fV_ (fV_ (fV_ (fV_ (fV_ (Kd.V_mono HO572.out (fun k_ hk => (⟨hk, hk.2⟩ : _ ∧ k_ ≠ gb583))))))))))) (fun _ h_ => h_.1))) (Kd.N_base (Kd.S_N ho0)) hb); replace HO575 := Aside0.mk (Kd.V_elder' (by refine vV_ ?_; exact (Kd.V_mono (fV_ (fV_ (fV_ (fV_ (fV_ (fV_ (fV_ (fV_ (Kd.V_mono HO575.out (fun k_ hk => (⟨hk, hk.2⟩ : _ ∧ k_ ≠ gb583))))))))))) (fun _ h_ => h_.1))) (Kd.N_base (Kd.S_N ho0)) hb); replace HO578 := Aside0.mk (Kd.V_elder' (by refine vV_ ?_; exact (Kd.V_mono (fV_ (fV_ (fV_ (fV_ (fV_ (fV_ (fV_ (fV_ (Kd.V_mono HO578.out (fun k_ hk => (⟨hk, hk.2⟩ : _ ∧ k_ ≠ gb583))))))))))) (fun _ h_ => h_.1))) (Kd.N_base (Kd.S_N ho0)) hb); replace HO582 := Aside0.mk (Kd.V_elder' (by refine vV_ ?_; exact (Kd.V_mono (fV_ (fV_ (fV_ (fV_ (fV_ (fV_ (fV_ (fV_ (Kd.V_mono HO582.out (fun k_ hk => (⟨hk, hk.2⟩ : _ ∧ k_ ≠ gb583))))))))))) (fun _ h_ => h_.1))) (Kd.N_base (Kd.S_N ho0)) hb); have HO586 := Aside0.mk (Kd.N_lower (Kd.N_mono (ok' := fun k_ => ((P0_3_ k_ ∨ P0_4_ k_ ∨ P0_5_ k_ ∨ P0_7_ k_) ∨ w.heap.size ≤ k_) ∧ some k_ ≠ (.slice Ao15 t564.length co15 : Value).ownBlock ∧ some k_ ≠ (.slice Ao16 t567.length co16 : Value).ownBlock ∧ k_ ≠ gb561 ∧ k_ ≠ gb583) (Kd.S_N (Kd.S_bound ho0)) (fun k_ hk_ => ⟨(.inr (Nat.le_trans (below_size bel_) hk_.2.1)), (Kd.fresh' (Kd.R_lt (by refine vR_ ?_; exact (Kd.R_mono (fR_ (fR_ (fR_ (fR_ (fR_ (fR_ (fR_ (fR_ (Kd.R_types HO566.out BK583.out (by decide)))))))))) (fun _ h_ => h_.1)))) k_ hk_.2.1), (Kd.fresh' (Kd.R_lt (by refine vR_ ?_; exact (Kd.R_mono (fR_ (fR_ (fR_ (fR_ (fR_ (fR_ (fR_ (fR_ (Kd.R_types HO569.out BK583.out (by decide)))))))))) (fun _ h_ => h_.1)))) k_ hk_.2.1), (Kd.freshB (g := gb561) (o := .cells #[.int .i64 a0_0, .slice A0_1 l0_1.length c0_1, .slice A0_2 l0_2.length c0_2, .slice A0_3 l0_3.length c0_3, .slice A0_4 l0_4.length c0_4, .slice A0_5 l0_5.length c0_5, .int .i64 a0_6, .slice A0_7 l0_7.length c0_7] 32 (0, 0)) (by refine bk_ ?_; refine blk_far ?_ NB561_583.out _; refine bk_ ?_; refine blk_far ?_ NB561_583.out _; refine bk_ ?_; refine blk_far ?_ NB561_583.out _; refine bk_ ?_; refine blk_far ?_ NB561_583.out _; refine bk_ ?_; refine blk_far ?_ NB561_583.out _; refine bk_ ?_; refine blk_far ?_ NB561_583.out _; refine bk_ ?_; refine blk_far ?_ NB561_583.out _; refine bk_ ?_; refine blk_far ?_ NB561_583.out _; refine bk_ ?_; exact BK561.out) k_ hk_.2.1), (Kd.freshB (g := gb583) (o := .cells #[.int .i64 t563, .slice Ao15 t564.length co15, .slice Ao16 t567.length co16, .slice Ao17 t570.length co17, .slice Ao18 t573.length co18, .slice Ao19 t576.length co19, .int .i64 t579, .slice Ao20 t580.length co20] 32 (0, 0)) (by refine bk_ ?_; refine blk_put (cs := #[.int .i64 t563, .slice Ao15 t564.length co15, .slice Ao16 t567.length co16, .slice Ao17 t570.length co17, .slice Ao18 t573.length co18, .slice Ao19 t576.length co19, .int .i64 t579, .slice none 0 0]) ?_ 7 _ rfl; refine bk_ ?_; refine blk_put (cs := #[.int .i64 t563, .slice Ao15 t564.length co15, .slice Ao16 t567.length co16, .slice Ao17 t570.length co17, .slice Ao18 t573.length co18, .slice Ao19 t576.length co19, .int .i64 0, .slice none 0 0]) ?_ 6 _ rfl; refine bk_ ?_; refine blk_put (cs := #[.int .i64 t563, .slice Ao15 t564.length co15, .slice Ao16 t567.length co16, .slice Ao17 t570.length co17, .slice Ao18 t573.length co18, .slice none 0 0, .int .i64 0, .slice none 0 0]) ?_ 5 _ rfl; refine bk_ ?_; refine blk_put (cs := #[.int .i64 t563, .slice Ao15 t564.length co15, .slice Ao16 t567.length co16, .slice Ao17 t570.length co17, .slice none 0 0, .slice none 0 0, .int .i64 0, .slice none 0 0]) ?_ 4 _ rfl; refine bk_ ?_; refine blk_put (cs := #[.int .i64 t563, .slice Ao15 t564.length co15, .slice Ao16 t567.length co16, .slice none 0 0, .slice none 0 0, .slice none 0 0, .int .i64 0, .slice none 0 0]) ?_ 3 _ rfl; refine bk_ ?_; refine blk_put (cs := #[.int .i64 t563, .slice Ao15 t564.length co15, .slice none 0 0, .slice none 0 0, .slice none 0 0, .slice none 0 0, .int .i64 0, .slice none 0 0]) ?_ 2 _ rfl; refine bk_ ?_; refine blk_put (cs := #[.int .i64 t563, .slice none 0 0, .slice none 0 0, .slice none 0 0, .slice none 0 0, .slice none 0 0, .int .i64 0, .slice none 0 0]) ?_ 1 _ rfl; refine bk_ ?_; refine blk_put (cs := #[.int .i64 0, .slice none 0 0, .slice none 0 0, .slice none 0 0, .slice none 0 0, .slice none 0 0, .int .i64 0, .slice none 0 0]) ?_ 0 _ rfl; refine bk_ ?_; exact BK583.out) k_ hk_.2.1)⟩)) (below_size bel_)); replace HO566 := Aside0.mk (Kd.R_below (by refine vR_ ?_; exact (Kd.R_mono (fR_ (fR_ (fR_ (fR_ (fR_ (fR_ (fR_ (fR_ (Kd.R_types HO566.out BK583.out (by decide)))))))))) (fun _ h_ => h_.1))) hb); replace HO569 := Aside0.mk (Kd.R_below (by refine vR_ ?_; exact (Kd.R_mono (fR_ (fR_ (fR_ (fR_ (fR_ (fR_ (fR_ (fR_ (Kd.R_types HO569.out BK583.out (by decide)))))))))) (fun _ h_ => h_.1))) hb); replace BK561 := Aside0.mk (blk_below (g := gb561) (o := .cells #[.int .i64 a0_0, .slice A0_1 l0_1.length c0_1, .slice A0_2 l0_2.length c0_2, .slice A0_3 l0_3.length c0_3, .slice A0_4 l0_4.length c0_4, .slice A0_5 l0_5.length c0_5, .int .i64 a0_6, .slice A0_7 l0_7.length c0_7] 32 (0, 0)) (by refine bk_ ?_; refine blk_far ?_ NB561_583.out _; refine bk_ ?_; refine blk_far ?_ NB561_583.out _; refine bk_ ?_; refine blk_far ?_ NB561_583.out _; refine bk_ ?_; refine blk_far ?_ NB561_583.out _; refine bk_ ?_; refine blk_far ?_ NB561_583.out _; refine bk_ ?_; refine blk_far ?_ NB561_583.out _; refine bk_ ?_; refine blk_far ?_ NB561_583.out _; refine bk_ ?_; refine blk_far ?_ NB561_583.out _; refine bk_ ?_; exact BK561.out) hb); replace BK583 := Aside0.mk (blk_below (g := gb583) (o := .cells #[.int .i64 t563, .slice Ao15 t564.length co15, .slice Ao16 t567.length co16, .slice Ao17 t570.length co17, .slice Ao18 t573.length co18, .slice Ao19 t576.length co19, .int .i64 t579, .slice Ao20 t580.length co20] 32 (0, 0)) (by refine bk_ ?_; refine blk_put (cs := #[.int .i64 t563, .slice Ao15 t564.length co15, .slice Ao16 t567.length co16, .slice Ao17 t570.length co17, .slice Ao18 t573.length co18, .slice Ao19 t576.length co19, .int .i64 t579, .slice none 0 0]) ?_ 7 _ rfl; refine bk_ ?_; refine blk_put (cs := #[.int .i64 t563, .slice Ao15 t564.length co15, .slice Ao16 t567.length co16, .slice Ao17 t570.length co17, .slice Ao18 t573.length co18, .slice Ao19 t576.length co19, .int .i64 0, .slice none 0 0]) ?_ 6 _ rfl; refine bk_ ?_; refine blk_put (cs := #[.int .i64 t563, .slice Ao15 t564.length co15, .slice Ao16 t567.length co16, .slice Ao17 t570.length co17, .slice Ao18 t573.length co18, .slice none 0 0, .int .i64 0, .slice none 0 0]) ?_ 5 _ rfl; refine bk_ ?_; refine blk_put (cs := #[.int .i64 t563, .slice Ao15 t564.length co15, .slice Ao16 t567.length co16, .slice Ao17 t570.length co17, .slice none 0 0, .slice none 0 0, .int .i64 0, .slice none 0 0]) ?_ 4 _ rfl; refine bk_ ?_; refine blk_put (cs := #[.int .i64 t563, .slice Ao15 t564.length co15, .slice Ao16 t567.length co16, .slice none 0 0, .slice none 0 0, .slice none 0 0, .int .i64 0, .slice none 0 0]) ?_ 3 _ rfl; refine bk_ ?_; refine blk_put (cs := #[.int .i64 t563, .slice Ao15 t564.length co15, .slice none 0 0, .slice none 0 0, .slice none 0 0, .slice none 0 0, .int .i64 0, .slice none 0 0]) ?_ 2 _ rfl; refine bk_ ?_; refine blk_put (cs := #[.int .i64 t563, .slice none 0 0, .slice none 0 0, .slice none 0 0, .slice none 0 0, .slice none 0 0, .int .i64 0, .slice none 0 0]) ?_ 1 _ rfl; refine bk_ ?_; refine blk_put (cs := #[.int .i64 0, .slice none 0 0, .slice none 0 0, .slice none 0 0, .slice none 0 0, .slice none 0 0, .int .i64 0, .slice none 0 0]) ?_ 0 _ rfl; refine bk_ ?_; exact BK583.out) hb); replace HB := Aside0.mk (below_step bel_ hb); clear hb ho0))
    go_loopg [12, 13] k1 (fun kq v12 v13 w' => ∃ (x12_2 : List (List Int)) (x13_2 : Int), v13 = .int .i64 x13_2 ∧ Aside0 (jigsawref10_Solutions.l1 kq t584 x12_2 x13_2 t563 t564 t567 t570 t573 t576 t579 t580 = some (r1, r2)) ∧ Aside0 (kq ≤ k1) ∧ Aside0 (Kd.N (Kd.slice 3 (Kd.int .i64)) 30 w' w.heap.size (fun k_ => ((P0_3_ k_ ∨ P0_4_ k_ ∨ P0_5_ k_ ∨ P0_7_ k_) ∨ w.heap.size ≤ k_) ∧ some k_ ≠ (v12 : Value).ownBlock ∧ some k_ ≠ ((.slice Ao15 t564.length co15) : Value).ownBlock ∧ some k_ ≠ ((.slice Ao16 t567.length co16) : Value).ownBlock ∧ k_ ≠ gb561 ∧ k_ ≠ gb583) v585 t584) ∧ Aside0 (Kd.N (Kd.slice 3 (Kd.int .i64)) 30 w' w.heap.size (fun k_ => ((P0_3_ k_ ∨ P0_4_ k_ ∨ P0_5_ k_ ∨ P0_7_ k_) ∨ w.heap.size ≤ k_) ∧ some k_ ≠ (v585 : Value).ownBlock ∧ some k_ ≠ ((.slice Ao15 t564.length co15) : Value).ownBlock ∧ some k_ ≠ ((.slice Ao16 t567.length co16) : Value).ownBlock ∧ k_ ≠ gb561 ∧ k_ ≠ gb583) v12 x12_2) ∧ Aside0 (Kd.V (Kd.int .i64) 3 w' w.heap.size (fun k_ => ((P0_3_ k_ ∨ P0_4_ k_ ∨ P0_5_ k_ ∨ P0_7_ k_) ∨ w.heap.size ≤ k_) ∧ some k_ ≠ (v585 : Value).ownBlock ∧ some k_ ≠ (v12 : Value).ownBlock ∧ some k_ ≠ ((.slice Ao15 t564.length co15) : Value).ownBlock ∧ some k_ ≠ ((.slice Ao16 t567.length co16) : Value).ownBlock ∧ k_ ≠ gb561 ∧ k_ ≠ gb583) (.slice A0_3 l0_3.length c0_3) l0_3) ∧ Aside0 (Kd.V (Kd.int .i64) 3 w' w.heap.size (fun k_ => ((P0_3_ k_ ∨ P0_4_ k_ ∨ P0_5_ k_ ∨ P0_7_ k_) ∨ w.heap.size ≤ k_) ∧ some k_ ≠ (v585 : Value).ownBlock ∧ some k_ ≠ (v12 : Value).ownBlock ∧ some k_ ≠ ((.slice Ao15 t564.length co15) : Value).ownBlock ∧ some k_ ≠ ((.slice Ao16 t567.length co16) : Value).ownBlock ∧ k_ ≠ gb561 ∧ k_ ≠ gb583) (.slice A0_4 l0_4.length c0_4) l0_4) ∧ Aside0 (Kd.V (Kd.int .i64) 3 w' w.heap.size (fun k_ => ((P0_3_ k_ ∨ P0_4_ k_ ∨ P0_5_ k_ ∨ P0_7_ k_) ∨ w.heap.size ≤ k_) ∧ some k_ ≠ (v585 : Value).ownBlock ∧ some k_ ≠ (v12 : Value).ownBlock ∧ some k_ ≠ ((.slice Ao15 t564.length co15) : Value).ownBlock ∧ some k_ ≠ ((.slice Ao16 t567.length co16) : Value).ownBlock ∧ k_ ≠ gb561 ∧ k_ ≠ gb583) (.slice A0_5 l0_5.length c0_5) l0_5) ∧ Aside0 (Kd.V (Kd.slice 3 (Kd.int .i64)) 30 w' w.heap.size (fun k_ => ((P0_3_ k_ ∨ P0_4_ k_ ∨ P0_5_ k_ ∨ P0_7_ k_) ∨ w.heap.size ≤ k_) ∧ some k_ ≠ (v585 : Value).ownBlock ∧ some k_ ≠ (v12 : Value).ownBlock ∧ some k_ ≠ ((.slice Ao15 t564.length co15) : Value).ownBlock ∧ some k_ ≠ ((.slice Ao16 t567.length co16) : Value).ownBlock ∧ k_ ≠ gb561 ∧ k_ ≠ gb583) (.slice A0_7 l0_7.length c0_7) l0_7) ∧ Aside0 (Kd.R (Kd.int .i64) 3 w' w.heap.size (fun k_ => (w.heap.size ≤ k_) ∧ some k_ ≠ ((.slice Ao16 t567.length co16) : Value).ownBlock) (.slice Ao15 t564.length co15) t564) ∧ Aside0 (Kd.R (Kd.int .i64) 3 w' w.heap.size (fun k_ => (w.heap.size ≤ k_) ∧ some k_ ≠ ((.slice Ao15 t564.length co15) : Value).ownBlock) (.slice Ao16 t567.length co16) t567) ∧ Aside0 (Kd.V (Kd.int .i64) 3 w' w.heap.size (fun k_ => ((P0_3_ k_ ∨ P0_4_ k_ ∨ P0_5_ k_ ∨ P0_7_ k_) ∨ w.heap.size ≤ k_) ∧ some k_ ≠ (v585 : Value).ownBlock ∧ some k_ ≠ (v12 : Value).ownBlock ∧ some k_ ≠ ((.slice Ao15 t564.length co15) : Value).ownBlock ∧ some k_ ≠ ((.slice Ao16 t567.length co16) : Value).ownBlock ∧ k_ ≠ gb561 ∧ k_ ≠ gb583) (.slice Ao17 t570.length co17) t570) ∧ Aside0 (Kd.V (Kd.int .i64) 3 w' w.heap.size (fun k_ => ((P0_3_ k_ ∨ P0_4_ k_ ∨ P0_5_ k_ ∨ P0_7_ k_) ∨ w.heap.size ≤ k_) ∧ some k_ ≠ (v585 : Value).ownBlock ∧ some k_ ≠ (v12 : Value).ownBlock ∧ some k_ ≠ ((.slice Ao15 t564.length co15) : Value).ownBlock ∧ some k_ ≠ ((.slice Ao16 t567.length co16) : Value).ownBlock ∧ k_ ≠ gb561 ∧ k_ ≠ gb583) (.slice Ao18 t573.length co18) t573) ∧ Aside0 (Kd.V (Kd.int .i64) 3 w' w.heap.size (fun k_ => ((P0_3_ k_ ∨ P0_4_ k_ ∨ P0_5_ k_ ∨ P0_7_ k_) ∨ w.heap.size ≤ k_) ∧ some k_ ≠ (v585 : Value).ownBlock ∧ some k_ ≠ (v12 : Value).ownBlock ∧ some k_ ≠ ((.slice Ao15 t564.length co15) : Value).ownBlock ∧ some k_ ≠ ((.slice Ao16 t567.length co16) : Value).ownBlock ∧ k_ ≠ gb561 ∧ k_ ≠ gb583) (.slice Ao19 t576.length co19) t576) ∧ Aside0 (Kd.V (Kd.slice 3 (Kd.int .i64)) 30 w' w.heap.size (fun k_ => ((P0_3_ k_ ∨ P0_4_ k_ ∨ P0_5_ k_ ∨ P0_7_ k_) ∨ w.heap.size ≤ k_) ∧ some k_ ≠ (v585 : Value).ownBlock ∧ some k_ ≠ (v12 : Value).ownBlock ∧ some k_ ≠ ((.slice Ao15 t564.length co15) : Value).ownBlock ∧ some k_ ≠ ((.slice Ao16 t567.length co16) : Value).ownBlock ∧ k_ ≠ gb561 ∧ k_ ≠ gb583) (.slice Ao20 t580.length co20) t580) ∧ Aside0 (w'.heap[gb561]? = some (.cells #[.int .i64 a0_0, (.slice A0_1 l0_1.length c0_1), (.slice A0_2 l0_2.length c0_2), (.slice A0_3 l0_3.length c0_3), (.slice A0_4 l0_4.length c0_4), (.slice A0_5 l0_5.length c0_5), .int .i64 a0_6, (.slice A0_7 l0_7.length c0_7)] 32 (0, 0))) ∧ Aside0 (w'.heap[gb583]? = some (.cells #[.int .i64 t563, (.slice Ao15 t564.length co15), (.slice Ao16 t567.length co16), (.slice Ao17 t570.length co17), (.slice Ao18 t573.length co18), (.slice Ao19 t576.length co19), .int .i64 t579, (.slice Ao20 t580.length co20)] 32 (0, 0))) ∧ Aside0 (Below w.heap.size w w'))
    case atStart => exact ⟨(([] : List (List Int))), (0), eq_, H', ⟨Nat.le_refl _⟩, ⟨by refine vN_ ?_; exact Kd.N_mono HO586.out (fun _ hk => ⟨hk.1, ⟨(by simp [Value.ownBlock]), ⟨hk.2.1, ⟨hk.2.2.1, ⟨hk.2.2.2.1, hk.2.2.2.2⟩⟩⟩⟩⟩)⟩, ⟨nil_⟩, ⟨by refine vV_ ?_; exact Kd.V_mono HO_562003.out (fun _ hk => ⟨hk.1.1.1.1.1, ⟨hk.2, ⟨(by simp [Value.ownBlock]), ⟨hk.1.1.1.2, ⟨hk.1.1.2, ⟨hk.1.1.1.1.2, hk.1.2⟩⟩⟩⟩⟩⟩)⟩, ⟨by refine vV_ ?_; exact Kd.V_mono HO_562004.out (fun _ hk => ⟨hk.1.1.1.1.1, ⟨hk.2, ⟨(by simp [Value.ownBlock]), ⟨hk.1.1.1.2, ⟨hk.1.1.2, ⟨hk.1.1.1.1.2, hk.1.2⟩⟩⟩⟩⟩⟩)⟩, ⟨by refine vV_ ?_; exact Kd.V_mono HO_562005.out (fun _ hk => ⟨hk.1.1.1.1.1, ⟨hk.2, ⟨(by simp [Value.ownBlock]), ⟨hk.1.1.1.2, ⟨hk.1.1.2, ⟨hk.1.1.1.1.2, hk.1.2⟩⟩⟩⟩⟩⟩)⟩, ⟨by refine vV_ ?_; exact Kd.V_mono HO_562007.out (fun _ hk => ⟨hk.1.1.1.1.1, ⟨hk.2, ⟨(by simp [Value.ownBlock]), ⟨hk.1.1.1.2, ⟨hk.1.1.2, ⟨hk.1.1.1.1.2, hk.1.2⟩⟩⟩⟩⟩⟩)⟩, ⟨by refine vR_ ?_; exact HO566.out⟩, ⟨by refine vR_ ?_; exact HO569.out⟩, ⟨by refine vV_ ?_; exact Kd.V_mono HO572.out (fun _ hk => ⟨hk.1.1.1, ⟨hk.2, ⟨(by simp [Value.ownBlock]), ⟨hk.1.1.2.1, ⟨hk.1.1.2.2.1, ⟨hk.1.1.2.2.2, hk.1.2⟩⟩⟩⟩⟩⟩)⟩, ⟨by refine vV_ ?_; exact Kd.V_mono HO575.out (fun _ hk => ⟨hk.1.1.1, ⟨hk.2, ⟨(by simp [Value.ownBlock]), ⟨hk.1.1.2.1, ⟨hk.1.1.2.2.1, ⟨hk.1.1.2.2.2, hk.1.2⟩⟩⟩⟩⟩⟩)⟩, ⟨by refine vV_ ?_; exact Kd.V_mono HO578.out (fun _ hk => ⟨hk.1.1.1, ⟨hk.2, ⟨(by simp [Value.ownBlock]), ⟨hk.1.1.2.1, ⟨hk.1.1.2.2.1, ⟨hk.1.1.2.2.2, hk.1.2⟩⟩⟩⟩⟩⟩)⟩, ⟨by refine vV_ ?_; exact Kd.V_mono HO582.out (fun _ hk => ⟨hk.1.1.1, ⟨hk.2, ⟨(by simp [Value.ownBlock]), ⟨hk.1.1.2.1, ⟨hk.1.1.2.2.1, ⟨hk.1.1.2.2.2, hk.1.2⟩⟩⟩⟩⟩⟩)⟩, ⟨by refine bk_ ?_; exact BK561.out⟩, ⟨by refine bk_ ?_; exact BK583.out⟩, ⟨bel_⟩⟩
    case round =>
     clear H'
     try clear c1
     try clear c2
     try clear p2
     try clear c3
     try clear c5
     try clear c5b0
     try clear p5
     try clear q5
     try clear hx5
     try clear c6
     try clear c6b0
     try clear p6
     try clear c7
     try clear c7b0
     try clear c13
     try clear c15
     try clear c20
     try clear hx562_0
     try clear p2
     try clear p562
     try clear q562
     obtain ⟨x12_2, x13_2, rfl, HA, HK2, HO_11, HO_12, HO_562003, HO_562004, HO_562005, HO_562007, HO_584001, HO_584002, HO_584003, HO_584004, HO_584005, HO_584007, BK561, BK583, HB⟩ := hrel
     cases gk with
     | zero => exact absurd HA.out (by simp [jigsawref10_Solutions.l1])
     | succ k2 =>
      have H := HA.out
      clear HA
      simp only [jigsawref10_Solutions.l1] at H
      by_cases c22 : x13_2 < (t584.length : Int)
      ·
       rw [if_pos c22] at H
       have c22b0 : decide (x13_2 < (t584.length : Int)) = true := decide_eq_true c22
       clear c22
       by_cases c23 : 0 ≤ x13_2
       ·
        rw [if_pos c23] at H
        have c23b0 : decide (0 ≤ x13_2) = true := decide_eq_true c23
        clear c23
        replace H := Option.bind_eq_some_iff.mp H
        obtain ⟨t588, A240, H⟩ := H
        try dsimp only at H
        have A24 := Aside0.mk A240
        clear A240
        by_cases c25 : t588 = true
        ·
         subst c25
         rw [if_pos rfl] at H
         by_cases c26 : x12_2.length < 5864062014805
         ·
          rw [if_pos c26] at H
          have LMc26 := Aside0.mk c26
          clear c26
          obtain ⟨y590, hy590⟩ : ∃ y_ : List (List Int), y_ = (x12_2 ++ [rd_L7 t584 x13_2]) := ⟨_, rfl⟩
          replace H : (jigsawref10_Solutions.l1 k2 t584 y590 (wrap64 (x13_2 + 1)) t563 t564 t567 t570 t573 t576 t579 t580) = some (r1, r2) := by first | (rw [hy590]; with_reducible exact H) | (have H2_ := (Option.bind_some _ _).symm.trans H; rw [hy590]; with_reducible exact H2_) | (have H2_ := (Option.bind_some _ _).symm.trans H; with_reducible exact H2_) | with_reducible exact H | (rw [hy590]; exact H) | exact H
          have Ny590 := Aside0.mk hy590
          clear hy590
          have H' := Aside0.mk H
          clear H
          obtain ⟨Ao27, co27, eo27⟩ := Kd.N_slice HO_11.out
          subst eo27
          try go_wp2
          replace HO_11 := Aside0.mk (Kd.N_drew HO_11.out)
          replace HO_12 := Aside0.mk (Kd.N_drew HO_12.out)
          replace HO_562003 := Aside0.mk (Kd.V_drew HO_562003.out)
          replace HO_562004 := Aside0.mk (Kd.V_drew HO_562004.out)
          replace HO_562005 := Aside0.mk (Kd.V_drew HO_562005.out)
          replace HO_562007 := Aside0.mk (Kd.V_drew HO_562007.out)
          replace HO_584001 := Aside0.mk (Kd.R_drew HO_584001.out)
          replace HO_584002 := Aside0.mk (Kd.R_drew HO_584002.out)
          replace HO_584003 := Aside0.mk (Kd.V_drew HO_584003.out)
          replace HO_584004 := Aside0.mk (Kd.V_drew HO_584004.out)
          replace HO_584005 := Aside0.mk (Kd.V_drew HO_584005.out)
          replace HO_584007 := Aside0.mk (Kd.V_drew HO_584007.out)
          replace BK561 := Aside0.mk (blk_drew BK561.out)
          replace BK583 := Aside0.mk (blk_drew BK583.out)
          replace HB := Aside0.mk (below_drew1 HB.out)
          have p587 : 0 ≤ (x13_2 : Int) := dq_
          have q587 : x13_2 < (t584.length : Int) := dq_
          obtain ⟨ad587, A587_0, c587_0, e587, hx587_0, hl587_0, hi587_0⟩ := at_L7 (Kd.N_reads' HO_11.out).2.2 x13_2 p587 q587
          cases e587
          obtain ⟨ce587, hce587, hMe587, hcc587⟩ := Kd.N_get HO_11.out [] x13_2 p587 (by first | exact q587 | exact dq_ | (have e_ := (Kd.N_reads' HO_11.out).1; omega))
          obtain ⟨ua587_0, uc587_0, rfl, ul587_0, ge587_0⟩ := Kd.FK_slice_open hMe587
          have hv587_0 := hcc587 0 _ rfl
          rw [Nat.add_zero, show ((Kd.slice 3 (Kd.int .i64))).sz = 1 from rfl, Nat.mul_one] at hv587_0
          replace hv587_0 := Option.some.inj (hv587_0.symm.trans hx587_0)
          injection hv587_0 with hva_ hvn_ hvc_
          rw [hva_] at ge587_0
          rw [hvc_] at ul587_0
          clear hva_ hvn_ hvc_ ge587_0 ul587_0
          clear hcc587 hce587
          have HR587_0 := Aside0.mk hi587_0
          have HC587_0 := Aside0.mk hl587_0
          clear hi587_0 hl587_0
          replace p587 := eq_true p587
          replace q587 := eq_true q587
          refine start_ (n := 7) (S := fun w' => w'.cell? ⟨gb583, 0, none⟩ = some (.int .i64 t563) ∧ w'.cell? ⟨gb583, 1, none⟩ = some (.slice Ao15 t564.length co15) ∧ w'.cell? ⟨gb583, 2, none⟩ = some (.slice Ao16 t567.length co16) ∧ w'.cell? ⟨gb583, 3, none⟩ = some (.slice Ao17 t570.length co17) ∧ w'.cell? ⟨gb583, 4, none⟩ = some (.slice Ao18 t573.length co18) ∧ w'.cell? ⟨gb583, 5, none⟩ = some (.slice Ao19 t576.length co19) ∧ w'.cell? ⟨gb583, 6, none⟩ = some (.int .i64 t579) ∧ w'.cell? ⟨gb583, 7, none⟩ = some (.slice Ao20 t580.length co20) ∧ w'.cell? (ad587.add (x13_2).toNat) = some (.slice A587_0 (rd_L7 t584 x13_2).length c587_0)) (ds := []) #[false, false, false, false, false, false, false] (by kernel_rfl) rfl rfl (cb8_ BK583.out (hx587_0)) (fun hHeld => ?_)
          generalize wr.drew = w28 at HO_11 HO_12 HO_562003 HO_562004 HO_562005 HO_562007 HO_584001 HO_584002 HO_584003 HO_584004 HO_584005 HO_584007 BK561 BK583 HB HR587_0 hx587_0 hHeld ⊢
          refine pu_ (i := 1) (N := some 43) (by kernel_rfl) ?_
          refine pu_ (i := 2) (N := some 44) (by kernel_rfl) ?_
          refine pu_ (i := 3) (N := some 45) (by kernel_rfl) ?_
          refine tak_ (i := 0) (N := some 42) (by kernel_rfl) hHeld ?_
          refine tak_ (i := 4) (N := some 46) (by kernel_rfl) hHeld ?_
          refine one_ (i := 5) (N := some 47) #[true, true, true, true, true, true, false] rfl rfl (by kernel_rfl) (by decide) (fun K hK => ?_)
          refine goes_ Tryz.func21 (by kernel_rfl) rfl #[.agg #[.int .i64 t563, .slice Ao15 t564.length co15, .slice Ao16 t567.length co16, .slice Ao17 t570.length co17, .slice Ao18 t573.length co18, .slice Ao19 t576.length co19, .int .i64 t579, .slice Ao20 t580.length co20], .slice A587_0 (rd_L7 t584 x13_2).length c587_0] (by rfl) rfl rfl ar_ ?_
          with_reducible refine (jigsawref09_Holds.calls k2 t563 _ _ t564 _ _ t567 _ _ t570 _ _ t573 _ _ t576 t579 _ _ t580 _ _ (rd_L7 t584 x13_2) true _ ?_ ?_ ?_ ?_ ?_ ?_ ?_ ?_ ?_ ?_ ?_ ?_ ?_ ?_ A24.out).mono ?_
          exact ca_ ((Kd.R_reads' HO_584001.out).2.2)
          exact (Kd.R_reads' HO_584001.out).2.1
          exact ca_ ((Kd.R_reads' HO_584002.out).2.2)
          exact (Kd.R_reads' HO_584002.out).2.1
          exact ca_ ((Kd.V_reads' HO_584003.out).2.2)
          exact (Kd.V_reads' HO_584003.out).2.1
          exact ca_ ((Kd.V_reads' HO_584004.out).2.2)
          exact (Kd.V_reads' HO_584004.out).2.1
          exact ca_ ((Kd.V_reads' HO_584005.out).2.2)
          exact (Kd.V_reads' HO_584005.out).2.1
          exact ca_ ((Kd.V_reads' HO_584007.out).2.2)
          exact (Kd.V_reads' HO_584007.out).2.1
          focus repeat (first | exact (by repeat (first | (with_reducible exact HR587_0.out) | (with_reducible refine Kd.C_alloc ?_ _) | (with_reducible refine Kd.C_drewN ?_ _) | (with_reducible refine Kd.C_drew ?_) | exact HR587_0.out)) | (with_reducible refine Kd.C_alloc ?_ _) | (with_reducible refine Kd.C_drewN ?_ _) | (with_reducible refine Kd.C_drew ?_))
          exact HC587_0.out
          rintro e w29 ⟨rfl, hb⟩
          have HS8_ := (hb.cell (World.block_lt_of_cell? _ _ (hHeld.2.2.2.2.2.2.2.2))).trans (hHeld.2.2.2.2.2.2.2.2)
          refine ⟨_, rfl, ?_⟩
          replace HO_11 := Aside0.mk (Kd.N_below (vN_ HO_11.out) hb)
          replace HO_12 := Aside0.mk (Kd.N_below (vN_ HO_12.out) hb)
          replace HO_562003 := Aside0.mk (Kd.V_below (vV_ HO_562003.out) hb)
          replace HO_562004 := Aside0.mk (Kd.V_below (vV_ HO_562004.out) hb)
          replace HO_562005 := Aside0.mk (Kd.V_below (vV_ HO_562005.out) hb)
          replace HO_562007 := Aside0.mk (Kd.V_below (vV_ HO_562007.out) hb)
          replace HO_584001 := Aside0.mk (Kd.R_below (vR_ HO_584001.out) hb)
          replace HO_584002 := Aside0.mk (Kd.R_below (vR_ HO_584002.out) hb)
          replace HO_584003 := Aside0.mk (Kd.V_below (vV_ HO_584003.out) hb)
          replace HO_584004 := Aside0.mk (Kd.V_below (vV_ HO_584004.out) hb)
          replace HO_584005 := Aside0.mk (Kd.V_below (vV_ HO_584005.out) hb)
          replace HO_584007 := Aside0.mk (Kd.V_below (vV_ HO_584007.out) hb)
          replace BK561 := Aside0.mk (blk_below (bk_ BK561.out) hb)
          replace BK583 := Aside0.mk (blk_below (bk_ BK583.out) hb)
          replace HB := Aside0.mk (below_step bel_ hb)
          clear hb
          refine hK.out _ _ (cb8_ BK583.out (HS8_)) (fun hHeld => ?_)
          clear hK K
          refine nor_ (N := some 47) ?_
          refine pu_ (i := 6) (N := some 14) (by kernel_rfl) ?_
          refine done_ (by kernel_rfl) ?_
          have p589 : 0 ≤ (x13_2 : Int) := dq_
          have q589 : x13_2 < (t584.length : Int) := dq_
          obtain ⟨ad589, A589_0, c589_0, e589, hx589_0, hl589_0, hi589_0⟩ := at_L7 (Kd.N_reads' HO_11.out).2.2 x13_2 p589 q589
          obtain rfl : ad587 = ad589 := (by injection e589)
          obtain ⟨ce589, hce589, hMe589, hcc589⟩ := Kd.N_get HO_11.out [] x13_2 p589 (by first | exact q589 | exact dq_ | (have e_ := (Kd.N_reads' HO_11.out).1; omega))
          obtain ⟨ua589_0, uc589_0, rfl, ul589_0, ge589_0⟩ := Kd.FK_slice_open hMe589
          have hv589_0 := hcc589 0 _ rfl
          rw [Nat.add_zero, show ((Kd.slice 3 (Kd.int .i64))).sz = 1 from rfl, Nat.mul_one] at hv589_0
          replace hv589_0 := Option.some.inj (hv589_0.symm.trans hx589_0)
          injection hv589_0 with hva_ hvn_ hvc_
          rw [hva_] at ge589_0
          rw [hvc_] at ul589_0
          have HL589_0 := Aside0.mk (show Kd.V (Kd.int .i64) 3 _ w.heap.size _ _ (rd_L7 t584 x13_2) from Kd.V_mk ul589_0 ge589_0)
          clear hva_ hvn_ hvc_ ge589_0 ul589_0
          clear hcc589 hce589
          have HC589_0 := Aside0.mk hl589_0
          clear hi589_0 hl589_0
          replace p589 := eq_true p589
          replace q589 := eq_true q589
          (have hq_ := hx589_0.symm.trans HS8_); injection hq_ with hq_; injection hq_ with h1_ _ h3_; subst h1_; subst h3_
          try go_wp2_with (first | ((with_reducible refine gate_builtin (b := .append) (xs := #[.tmp 49, .tmp 54]) rfl ?_); at_builtin; refine Kd.N_append (Kd.slice 3 (Kd.int .i64)) (w0 := w) w.heap.size rfl (.tmp 49) (.tmp 54) 27 30 (.slice none 0 0) 24 rfl Tryz.underlying27 info30 rfl (by decide) (by omega) u12 x12_2 (rd_L7 t584 x13_2) [.slice A589_0 (rd_L7 t584 x13_2).length c589_0] (fun k_ => ((P0_3_ k_ ∨ P0_4_ k_ ∨ P0_5_ k_ ∨ P0_7_ k_) ∨ w.heap.size ≤ k_) ∧ some k_ ≠ (.slice (some ad587) t584.length co27 : Value).ownBlock ∧ some k_ ≠ (.slice Ao15 t564.length co15 : Value).ownBlock ∧ some k_ ≠ (.slice Ao16 t567.length co16 : Value).ownBlock ∧ k_ ≠ gb561 ∧ k_ ≠ gb583) (fun k_ => ((fun k_ => ((P0_3_ k_ ∨ P0_4_ k_ ∨ P0_5_ k_ ∨ P0_7_ k_) ∨ w.heap.size ≤ k_) ∧ some k_ ≠ (.slice (some ad587) t584.length co27 : Value).ownBlock ∧ some k_ ≠ (.slice Ao15 t564.length co15 : Value).ownBlock ∧ some k_ ≠ (.slice Ao16 t567.length co16 : Value).ownBlock ∧ k_ ≠ gb561 ∧ k_ ≠ gb583)) k_ ∧ some k_ ≠ (u12 : Value).ownBlock) rfl rfl ?aP (fun _ hk => hk) ?aF ?aO ?aB ?aS ?aL ?_; (case aP => exact (Kd.FK_slice_mk (Kd.V_reads' (Kd.V_mono (ok' := (fun k_ => ((fun k_ => ((P0_3_ k_ ∨ P0_4_ k_ ∨ P0_5_ k_ ∨ P0_7_ k_) ∨ w.heap.size ≤ k_) ∧ some k_ ≠ (.slice (some ad587) t584.length co27 : Value).ownBlock ∧ some k_ ≠ (.slice Ao15 t564.length co15 : Value).ownBlock ∧ some k_ ≠ (.slice Ao16 t567.length co16 : Value).ownBlock ∧ k_ ≠ gb561 ∧ k_ ≠ gb583)) k_ ∧ some k_ ≠ (u12 : Value).ownBlock)) (HL589_0.out) (fun k_ hk => ⟨⟨hk.1.1, ⟨hk.2, ⟨hk.1.2.2.1, ⟨hk.1.2.2.2.1, ⟨hk.1.2.2.2.2.1, hk.1.2.2.2.2.2⟩⟩⟩⟩⟩, hk.1.2.1⟩))).2.1 (Kd.V_F (Kd.V_mono (ok' := (fun k_ => ((fun k_ => ((P0_3_ k_ ∨ P0_4_ k_ ∨ P0_5_ k_ ∨ P0_7_ k_) ∨ w.heap.size ≤ k_) ∧ some k_ ≠ (.slice (some ad587) t584.length co27 : Value).ownBlock ∧ some k_ ≠ (.slice Ao15 t564.length co15 : Value).ownBlock ∧ some k_ ≠ (.slice Ao16 t567.length co16 : Value).ownBlock ∧ k_ ≠ gb561 ∧ k_ ≠ gb583)) k_ ∧ some k_ ≠ (u12 : Value).ownBlock)) (HL589_0.out) (fun k_ hk => ⟨⟨hk.1.1, ⟨hk.2, ⟨hk.1.2.2.1, ⟨hk.1.2.2.2.1, ⟨hk.1.2.2.2.2.1, hk.1.2.2.2.2.2⟩⟩⟩⟩⟩, hk.1.2.1⟩))))); (case aB => exact bel_); (case aF => exact (fun k_ hk => ⟨(.inr (Nat.le_trans (below_size bel_) hk)), Kd.fresh' (Kd.N_lt (vN_ HO_11.out)) k_ hk, Kd.fresh' (Kd.R_lt (vR_ HO_584001.out)) k_ hk, Kd.fresh' (Kd.R_lt (vR_ HO_584002.out)) k_ hk, Kd.freshB (bk_ BK561.out) k_ hk, Kd.freshB (bk_ BK583.out) k_ hk⟩)); (case aO => exact (vN_ HO_12.out)); (case aS => exact (below_size bel_)); (case aL => have := LMc26.out; omega); intro v591 w30 ho hb hg hat; rw [← Ny590.out] at ho; replace HO_11 := Aside0.mk (Kd.N_afterv (ok := (fun k_ => ((P0_3_ k_ ∨ P0_4_ k_ ∨ P0_5_ k_ ∨ P0_7_ k_) ∨ w.heap.size ≤ k_) ∧ some k_ ≠ (.slice Ao15 t564.length co15 : Value).ownBlock ∧ some k_ ≠ (.slice Ao16 t567.length co16 : Value).ownBlock ∧ k_ ≠ gb561 ∧ k_ ≠ gb583)) (by refine vN_ ?_; exact Kd.N_mono HO_11.out (fun _ hk => ⟨⟨hk.1, ⟨hk.2.2.1, ⟨hk.2.2.2.1, ⟨hk.2.2.2.2.1, hk.2.2.2.2.2⟩⟩⟩⟩, hk.2.1⟩)) hg hat); replace HO_562003 := Aside0.mk (Kd.V_afterv (ok := (fun k_ => ((P0_3_ k_ ∨ P0_4_ k_ ∨ P0_5_ k_ ∨ P0_7_ k_) ∨ w.heap.size ≤ k_) ∧ some k_ ≠ (.slice (some ad587) t584.length co27 : Value).ownBlock ∧ some k_ ≠ (.slice Ao15 t564.length co15 : Value).ownBlock ∧ some k_ ≠ (.slice Ao16 t567.length co16 : Value).ownBlock ∧ k_ ≠ gb561 ∧ k_ ≠ gb583)) (by refine vV_ ?_; exact Kd.V_mono HO_562003.out (fun _ hk => ⟨⟨hk.1, ⟨hk.2.1, ⟨hk.2.2.2.1, ⟨hk.2.2.2.2.1, ⟨hk.2.2.2.2.2.1, hk.2.2.2.2.2.2⟩⟩⟩⟩⟩, hk.2.2.1⟩)) hg hat); replace HO_562004 := Aside0.mk (Kd.V_afterv (ok := (fun k_ => ((P0_3_ k_ ∨ P0_4_ k_ ∨ P0_5_ k_ ∨ P0_7_ k_) ∨ w.heap.size ≤ k_) ∧ some k_ ≠ (.slice (some ad587) t584.length co27 : Value).ownBlock ∧ some k_ ≠ (.slice Ao15 t564.length co15 : Value).ownBlock ∧ some k_ ≠ (.slice Ao16 t567.length co16 : Value).ownBlock ∧ k_ ≠ gb561 ∧ k_ ≠ gb583)) (by refine vV_ ?_; exact Kd.V_mono HO_562004.out (fun _ hk => ⟨⟨hk.1, ⟨hk.2.1, ⟨hk.2.2.2.1, ⟨hk.2.2.2.2.1, ⟨hk.2.2.2.2.2.1, hk.2.2.2.2.2.2⟩⟩⟩⟩⟩, hk.2.2.1⟩)) hg hat); replace HO_562005 := Aside0.mk (Kd.V_afterv (ok := (fun k_ => ((P0_3_ k_ ∨ P0_4_ k_ ∨ P0_5_ k_ ∨ P0_7_ k_) ∨ w.heap.size ≤ k_) ∧ some k_ ≠ (.slice (some ad587) t584.length co27 : Value).ownBlock ∧ some k_ ≠ (.slice Ao15 t564.length co15 : Value).ownBlock ∧ some k_ ≠ (.slice Ao16 t567.length co16 : Value).ownBlock ∧ k_ ≠ gb561 ∧ k_ ≠ gb583)) (by refine vV_ ?_; exact Kd.V_mono HO_562005.out (fun _ hk => ⟨⟨hk.1, ⟨hk.2.1, ⟨hk.2.2.2.1, ⟨hk.2.2.2.2.1, ⟨hk.2.2.2.2.2.1, hk.2.2.2.2.2.2⟩⟩⟩⟩⟩, hk.2.2.1⟩)) hg hat); replace HO_562007 := Aside0.mk (Kd.V_afterv (ok := (fun k_ => ((P0_3_ k_ ∨ P0_4_ k_ ∨ P0_5_ k_ ∨ P0_7_ k_) ∨ w.heap.size ≤ k_) ∧ some k_ ≠ (.slice (some ad587) t584.length co27 : Value).ownBlock ∧ some k_ ≠ (.slice Ao15 t564.length co15 : Value).ownBlock ∧ some k_ ≠ (.slice Ao16 t567.length co16 : Value).ownBlock ∧ k_ ≠ gb561 ∧ k_ ≠ gb583)) (by refine vV_ ?_; exact Kd.V_mono HO_562007.out (fun _ hk => ⟨⟨hk.1, ⟨hk.2.1, ⟨hk.2.2.2.1, ⟨hk.2.2.2.2.1, ⟨hk.2.2.2.2.2.1, hk.2.2.2.2.2.2⟩⟩⟩⟩⟩, hk.2.2.1⟩)) hg hat); replace HO_584001 := Aside0.mk (Kd.R_over' (vR_ HO_584001.out) (Kd.N_typed (vN_ HO_12.out)) (by decide) hg); replace HO_584002 := Aside0.mk (Kd.R_over' (vR_ HO_584002.out) (Kd.N_typed (vN_ HO_12.out)) (by decide) hg); replace HO_584003 := Aside0.mk (Kd.V_afterv (ok := (fun k_ => ((P0_3_ k_ ∨ P0_4_ k_ ∨ P0_5_ k_ ∨ P0_7_ k_) ∨ w.heap.size ≤ k_) ∧ some k_ ≠ (.slice (some ad587) t584.length co27 : Value).ownBlock ∧ some k_ ≠ (.slice Ao15 t564.length co15 : Value).ownBlock ∧ some k_ ≠ (.slice Ao16 t567.length co16 : Value).ownBlock ∧ k_ ≠ gb561 ∧ k_ ≠ gb583)) (by refine vV_ ?_; exact Kd.V_mono HO_584003.out (fun _ hk => ⟨⟨hk.1, ⟨hk.2.1, ⟨hk.2.2.2.1, ⟨hk.2.2.2.2.1, ⟨hk.2.2.2.2.2.1, hk.2.2.2.2.2.2⟩⟩⟩⟩⟩, hk.2.2.1⟩)) hg hat); replace HO_584004 := Aside0.mk (Kd.V_afterv (ok := (fun k_ => ((P0_3_ k_ ∨ P0_4_ k_ ∨ P0_5_ k_ ∨ P0_7_ k_) ∨ w.heap.size ≤ k_) ∧ some k_ ≠ (.slice (some ad587) t584.length co27 : Value).ownBlock ∧ some k_ ≠ (.slice Ao15 t564.length co15 : Value).ownBlock ∧ some k_ ≠ (.slice Ao16 t567.length co16 : Value).ownBlock ∧ k_ ≠ gb561 ∧ k_ ≠ gb583)) (by refine vV_ ?_; exact Kd.V_mono HO_584004.out (fun _ hk => ⟨⟨hk.1, ⟨hk.2.1, ⟨hk.2.2.2.1, ⟨hk.2.2.2.2.1, ⟨hk.2.2.2.2.2.1, hk.2.2.2.2.2.2⟩⟩⟩⟩⟩, hk.2.2.1⟩)) hg hat); replace HO_584005 := Aside0.mk (Kd.V_afterv (ok := (fun k_ => ((P0_3_ k_ ∨ P0_4_ k_ ∨ P0_5_ k_ ∨ P0_7_ k_) ∨ w.heap.size ≤ k_) ∧ some k_ ≠ (.slice (some ad587) t584.length co27 : Value).ownBlock ∧ some k_ ≠ (.slice Ao15 t564.length co15 : Value).ownBlock ∧ some k_ ≠ (.slice Ao16 t567.length co16 : Value).ownBlock ∧ k_ ≠ gb561 ∧ k_ ≠ gb583)) (by refine vV_ ?_; exact Kd.V_mono HO_584005.out (fun _ hk => ⟨⟨hk.1, ⟨hk.2.1, ⟨hk.2.2.2.1, ⟨hk.2.2.2.2.1, ⟨hk.2.2.2.2.2.1, hk.2.2.2.2.2.2⟩⟩⟩⟩⟩, hk.2.2.1⟩)) hg hat); replace HO_584007 := Aside0.mk (Kd.V_afterv (ok := (fun k_ => ((P0_3_ k_ ∨ P0_4_ k_ ∨ P0_5_ k_ ∨ P0_7_ k_) ∨ w.heap.size ≤ k_) ∧ some k_ ≠ (.slice (some ad587) t584.length co27 : Value).ownBlock ∧ some k_ ≠ (.slice Ao15 t564.length co15 : Value).ownBlock ∧ some k_ ≠ (.slice Ao16 t567.length co16 : Value).ownBlock ∧ k_ ≠ gb561 ∧ k_ ≠ gb583)) (by refine vV_ ?_; exact Kd.V_mono HO_584007.out (fun _ hk => ⟨⟨hk.1, ⟨hk.2.1, ⟨hk.2.2.2.1, ⟨hk.2.2.2.2.1, ⟨hk.2.2.2.2.2.1, hk.2.2.2.2.2.2⟩⟩⟩⟩⟩, hk.2.2.1⟩)) hg hat); replace BK561 := Aside0.mk (blk_grown (bk_ BK561.out) hg (Kd.N_ne HO_12.out BK561.out (by decide))); replace BK583 := Aside0.mk (blk_grown (bk_ BK583.out) hg (Kd.N_ne HO_12.out BK583.out (by decide))); replace HB := Aside0.mk (hb); have HO592 := Aside0.mk (ho); clear HO_12; clear ho hb hg hat))
          go_roundg k2
          case measure => have := HK1.out; have := HK2.out; omega
          case rel => exact ⟨(y590), (wrap64 (x13_2 + 1)), eq_, H', ⟨by have := HK1.out; have := HK2.out; omega⟩, ⟨by refine vN_ ?_; exact Kd.N_mono HO_11.out (fun _ hk => ⟨hk.1.1, ⟨hk.2, ⟨hk.1.2.1, ⟨hk.1.2.2.1, ⟨hk.1.2.2.2.1, hk.1.2.2.2.2⟩⟩⟩⟩⟩)⟩, ⟨by refine vN_ ?_; exact HO592.out⟩, ⟨by refine vV_ ?_; exact Kd.V_mono HO_562003.out (fun _ hk => ⟨hk.1.1, ⟨hk.1.2.1, ⟨hk.2, ⟨hk.1.2.2.1, ⟨hk.1.2.2.2.1, ⟨hk.1.2.2.2.2.1, hk.1.2.2.2.2.2⟩⟩⟩⟩⟩⟩)⟩, ⟨by refine vV_ ?_; exact Kd.V_mono HO_562004.out (fun _ hk => ⟨hk.1.1, ⟨hk.1.2.1, ⟨hk.2, ⟨hk.1.2.2.1, ⟨hk.1.2.2.2.1, ⟨hk.1.2.2.2.2.1, hk.1.2.2.2.2.2⟩⟩⟩⟩⟩⟩)⟩, ⟨by refine vV_ ?_; exact Kd.V_mono HO_562005.out (fun _ hk => ⟨hk.1.1, ⟨hk.1.2.1, ⟨hk.2, ⟨hk.1.2.2.1, ⟨hk.1.2.2.2.1, ⟨hk.1.2.2.2.2.1, hk.1.2.2.2.2.2⟩⟩⟩⟩⟩⟩)⟩, ⟨by refine vV_ ?_; exact Kd.V_mono HO_562007.out (fun _ hk => ⟨hk.1.1, ⟨hk.1.2.1, ⟨hk.2, ⟨hk.1.2.2.1, ⟨hk.1.2.2.2.1, ⟨hk.1.2.2.2.2.1, hk.1.2.2.2.2.2⟩⟩⟩⟩⟩⟩)⟩, ⟨by refine vR_ ?_; exact HO_584001.out⟩, ⟨by refine vR_ ?_; exact HO_584002.out⟩, ⟨by refine vV_ ?_; exact Kd.V_mono HO_584003.out (fun _ hk => ⟨hk.1.1, ⟨hk.1.2.1, ⟨hk.2, ⟨hk.1.2.2.1, ⟨hk.1.2.2.2.1, ⟨hk.1.2.2.2.2.1, hk.1.2.2.2.2.2⟩⟩⟩⟩⟩⟩)⟩, ⟨by refine vV_ ?_; exact Kd.V_mono HO_584004.out (fun _ hk => ⟨hk.1.1, ⟨hk.1.2.1, ⟨hk.2, ⟨hk.1.2.2.1, ⟨hk.1.2.2.2.1, ⟨hk.1.2.2.2.2.1, hk.1.2.2.2.2.2⟩⟩⟩⟩⟩⟩)⟩, ⟨by refine vV_ ?_; exact Kd.V_mono HO_584005.out (fun _ hk => ⟨hk.1.1, ⟨hk.1.2.1, ⟨hk.2, ⟨hk.1.2.2.1, ⟨hk.1.2.2.2.1, ⟨hk.1.2.2.2.2.1, hk.1.2.2.2.2.2⟩⟩⟩⟩⟩⟩)⟩, ⟨by refine vV_ ?_; exact Kd.V_mono HO_584007.out (fun _ hk => ⟨hk.1.1, ⟨hk.1.2.1, ⟨hk.2, ⟨hk.1.2.2.1, ⟨hk.1.2.2.2.1, ⟨hk.1.2.2.2.2.1, hk.1.2.2.2.2.2⟩⟩⟩⟩⟩⟩)⟩, ⟨by refine bk_ ?_; exact BK561.out⟩, ⟨by refine bk_ ?_; exact BK583.out⟩, ⟨bel_⟩⟩
         ·
          rw [if_neg c26] at H
          exact absurd H (by simp)
        ·
         replace c25 := Bool.eq_false_iff.mpr c25
         subst c25
         have H1 : (jigsawref10_Solutions.l1 k2 t584 x12_2 (wrap64 (x13_2 + 1)) t563 t564 t567 t570 t573 t576 t579 t580) = some (r1, r2) := by rw [if_neg (show ¬ (false = true) by decide)] at H; exact H
         clear H
         have H := H1
         clear H1
         have H' := Aside0.mk H
         clear H
         obtain ⟨Ao31, co31, eo31⟩ := Kd.N_slice HO_11.out
         subst eo31
         try go_wp2
         replace HO_11 := Aside0.mk (Kd.N_drew HO_11.out)
         replace HO_12 := Aside0.mk (Kd.N_drew HO_12.out)
         replace HO_562003 := Aside0.mk (Kd.V_drew HO_562003.out)
         replace HO_562004 := Aside0.mk (Kd.V_drew HO_562004.out)
         replace HO_562005 := Aside0.mk (Kd.V_drew HO_562005.out)
         replace HO_562007 := Aside0.mk (Kd.V_drew HO_562007.out)
         replace HO_584001 := Aside0.mk (Kd.R_drew HO_584001.out)
         replace HO_584002 := Aside0.mk (Kd.R_drew HO_584002.out)
         replace HO_584003 := Aside0.mk (Kd.V_drew HO_584003.out)
         replace HO_584004 := Aside0.mk (Kd.V_drew HO_584004.out)
         replace HO_584005 := Aside0.mk (Kd.V_drew HO_584005.out)
         replace HO_584007 := Aside0.mk (Kd.V_drew HO_584007.out)
         replace BK561 := Aside0.mk (blk_drew BK561.out)
         replace BK583 := Aside0.mk (blk_drew BK583.out)
         replace HB := Aside0.mk (below_drew1 HB.out)
         have p587 : 0 ≤ (x13_2 : Int) := dq_
         have q587 : x13_2 < (t584.length : Int) := dq_
         obtain ⟨ad587, A587_0, c587_0, e587, hx587_0, hl587_0, hi587_0⟩ := at_L7 (Kd.N_reads' HO_11.out).2.2 x13_2 p587 q587
         cases e587
         obtain ⟨ce587, hce587, hMe587, hcc587⟩ := Kd.N_get HO_11.out [] x13_2 p587 (by first | exact q587 | exact dq_ | (have e_ := (Kd.N_reads' HO_11.out).1; omega))
         obtain ⟨ua587_0, uc587_0, rfl, ul587_0, ge587_0⟩ := Kd.FK_slice_open hMe587
         have hv587_0 := hcc587 0 _ rfl
         rw [Nat.add_zero, show ((Kd.slice 3 (Kd.int .i64))).sz = 1 from rfl, Nat.mul_one] at hv587_0
         replace hv587_0 := Option.some.inj (hv587_0.symm.trans hx587_0)
         injection hv587_0 with hva_ hvn_ hvc_
         rw [hva_] at ge587_0
         rw [hvc_] at ul587_0
         clear hva_ hvn_ hvc_ ge587_0 ul587_0
         clear hcc587 hce587
         have HR587_0 := Aside0.mk hi587_0
         have HC587_0 := Aside0.mk hl587_0
         clear hi587_0 hl587_0
         replace p587 := eq_true p587
         replace q587 := eq_true q587
         refine start_ (n := 7) (S := fun w' => w'.cell? ⟨gb583, 0, none⟩ = some (.int .i64 t563) ∧ w'.cell? ⟨gb583, 1, none⟩ = some (.slice Ao15 t564.length co15) ∧ w'.cell? ⟨gb583, 2, none⟩ = some (.slice Ao16 t567.length co16) ∧ w'.cell? ⟨gb583, 3, none⟩ = some (.slice Ao17 t570.length co17) ∧ w'.cell? ⟨gb583, 4, none⟩ = some (.slice Ao18 t573.length co18) ∧ w'.cell? ⟨gb583, 5, none⟩ = some (.slice Ao19 t576.length co19) ∧ w'.cell? ⟨gb583, 6, none⟩ = some (.int .i64 t579) ∧ w'.cell? ⟨gb583, 7, none⟩ = some (.slice Ao20 t580.length co20) ∧ w'.cell? (ad587.add (x13_2).toNat) = some (.slice A587_0 (rd_L7 t584 x13_2).length c587_0)) (ds := []) #[false, false, false, false, false, false, false] (by kernel_rfl) rfl rfl (cb8_ BK583.out (hx587_0)) (fun hHeld => ?_)
         generalize wr.drew = w32 at HO_11 HO_12 HO_562003 HO_562004 HO_562005 HO_562007 HO_584001 HO_584002 HO_584003 HO_584004 HO_584005 HO_584007 BK561 BK583 HB HR587_0 hx587_0 hHeld ⊢
         refine pu_ (i := 1) (N := some 43) (by kernel_rfl) ?_
         refine pu_ (i := 2) (N := some 44) (by kernel_rfl) ?_
         refine pu_ (i := 3) (N := some 45) (by kernel_rfl) ?_
         refine tak_ (i := 0) (N := some 42) (by kernel_rfl) hHeld ?_
         refine tak_ (i := 4) (N := some 46) (by kernel_rfl) hHeld ?_
         refine one_ (i := 5) (N := some 47) #[true, true, true, true, true, true, false] rfl rfl (by kernel_rfl) (by decide) (fun K hK => ?_)
         refine goes_ Tryz.func21 (by kernel_rfl) rfl #[.agg #[.int .i64 t563, .slice Ao15 t564.length co15, .slice Ao16 t567.length co16, .slice Ao17 t570.length co17, .slice Ao18 t573.length co18, .slice Ao19 t576.length co19, .int .i64 t579, .slice Ao20 t580.length co20], .slice A587_0 (rd_L7 t584 x13_2).length c587_0] (by rfl) rfl rfl ar_ ?_
         with_reducible refine (jigsawref09_Holds.calls k2 t563 _ _ t564 _ _ t567 _ _ t570 _ _ t573 _ _ t576 t579 _ _ t580 _ _ (rd_L7 t584 x13_2) false _ ?_ ?_ ?_ ?_ ?_ ?_ ?_ ?_ ?_ ?_ ?_ ?_ ?_ ?_ A24.out).mono ?_
         exact ca_ ((Kd.R_reads' HO_584001.out).2.2)
         exact (Kd.R_reads' HO_584001.out).2.1
         exact ca_ ((Kd.R_reads' HO_584002.out).2.2)
         exact (Kd.R_reads' HO_584002.out).2.1
         exact ca_ ((Kd.V_reads' HO_584003.out).2.2)
         exact (Kd.V_reads' HO_584003.out).2.1
         exact ca_ ((Kd.V_reads' HO_584004.out).2.2)
         exact (Kd.V_reads' HO_584004.out).2.1
         exact ca_ ((Kd.V_reads' HO_584005.out).2.2)
         exact (Kd.V_reads' HO_584005.out).2.1
         exact ca_ ((Kd.V_reads' HO_584007.out).2.2)
         exact (Kd.V_reads' HO_584007.out).2.1
         focus repeat (first | exact (by repeat (first | (with_reducible exact HR587_0.out) | (with_reducible refine Kd.C_alloc ?_ _) | (with_reducible refine Kd.C_drewN ?_ _) | (with_reducible refine Kd.C_drew ?_) | exact HR587_0.out)) | (with_reducible refine Kd.C_alloc ?_ _) | (with_reducible refine Kd.C_drewN ?_ _) | (with_reducible refine Kd.C_drew ?_))
         exact HC587_0.out
         rintro e w33 ⟨rfl, hb⟩
         have HS8_ := (hb.cell (World.block_lt_of_cell? _ _ (hHeld.2.2.2.2.2.2.2.2))).trans (hHeld.2.2.2.2.2.2.2.2)
         refine ⟨_, rfl, ?_⟩
         replace HO_11 := Aside0.mk (Kd.N_below (vN_ HO_11.out) hb)
         replace HO_12 := Aside0.mk (Kd.N_below (vN_ HO_12.out) hb)
         replace HO_562003 := Aside0.mk (Kd.V_below (vV_ HO_562003.out) hb)
         replace HO_562004 := Aside0.mk (Kd.V_below (vV_ HO_562004.out) hb)
         replace HO_562005 := Aside0.mk (Kd.V_below (vV_ HO_562005.out) hb)
         replace HO_562007 := Aside0.mk (Kd.V_below (vV_ HO_562007.out) hb)
         replace HO_584001 := Aside0.mk (Kd.R_below (vR_ HO_584001.out) hb)
         replace HO_584002 := Aside0.mk (Kd.R_below (vR_ HO_584002.out) hb)
         replace HO_584003 := Aside0.mk (Kd.V_below (vV_ HO_584003.out) hb)
         replace HO_584004 := Aside0.mk (Kd.V_below (vV_ HO_584004.out) hb)
         replace HO_584005 := Aside0.mk (Kd.V_below (vV_ HO_584005.out) hb)
         replace HO_584007 := Aside0.mk (Kd.V_below (vV_ HO_584007.out) hb)
         replace BK561 := Aside0.mk (blk_below (bk_ BK561.out) hb)
         replace BK583 := Aside0.mk (blk_below (bk_ BK583.out) hb)
         replace HB := Aside0.mk (below_step bel_ hb)
         clear hb
         refine hK.out _ _ (cb8_ BK583.out (HS8_)) (fun hHeld => ?_)
         clear hK K
         refine nor_ (N := some 47) ?_
         refine pu_ (i := 6) (N := some 14) (by kernel_rfl) ?_
         refine done_ (by kernel_rfl) ?_
         try go_wp2
         go_roundg k2
         case measure => have := HK1.out; have := HK2.out; omega
         case rel => exact ⟨(x12_2), (wrap64 (x13_2 + 1)), eq_, H', ⟨by have := HK1.out; have := HK2.out; omega⟩, ⟨by refine vN_ ?_; exact HO_11.out⟩, ⟨by refine vN_ ?_; exact HO_12.out⟩, ⟨by refine vV_ ?_; exact HO_562003.out⟩, ⟨by refine vV_ ?_; exact HO_562004.out⟩, ⟨by refine vV_ ?_; exact HO_562005.out⟩, ⟨by refine vV_ ?_; exact HO_562007.out⟩, ⟨by refine vR_ ?_; exact HO_584001.out⟩, ⟨by refine vR_ ?_; exact HO_584002.out⟩, ⟨by refine vV_ ?_; exact HO_584003.out⟩, ⟨by refine vV_ ?_; exact HO_584004.out⟩, ⟨by refine vV_ ?_; exact HO_584005.out⟩, ⟨by refine vV_ ?_; exact HO_584007.out⟩, ⟨by refine bk_ ?_; exact BK561.out⟩, ⟨by refine bk_ ?_; exact BK583.out⟩, ⟨bel_⟩⟩
       ·
        rw [if_neg c23] at H
        exact absurd H (by simp)
      ·
       rw [if_neg c22] at H
       have c22b0 : decide (x13_2 < (t584.length : Int)) = false := decide_eq_false c22
       clear c22
       simp only [Option.some.injEq, Prod.mk.injEq] at H
       obtain ⟨rfl, rfl⟩ := H
       obtain ⟨Ao34, co34, eo34⟩ := Kd.N_slice HO_11.out
       subst eo34
       go_wp2
       go_ret2
       exact ⟨_, by first | rfl | (simp [errW_none, errW_some] <;> rfl) | (simp [*, errW_none, errW_some] <;> rfl), by refine vN_ ?_; exact Kd.N_mono HO_12.out (fun _ hk => hk.1), bel_⟩


/-! ### jigsawref10_Exact: function 16 -/
mutual
def jigsawref10_Exact.l0 : Nat → List (List Int) → List (List Int) → List (List Int) → Int → Option ((List (List Int)) × Bool)
 | 0, _, _, _, _ => none
 | k + 1, x1, x8, x10, x11 => if x11 < (x1.length : Int) then (jigsawref10_Exact.l1 k x1 x8 x10 x11 ([] : List Int) 0) else (if (x8.length : Int) = 0 then (some (([] : List (List Int)), false)) else (some (x10, true)))
def jigsawref10_Exact.l1 : Nat → List (List Int) → List (List Int) → List (List Int) → Int → List Int → Int → Option ((List (List Int)) × Bool)
 | 0, _, _, _, _, _, _ => none
 | k + 1, x1, x8, x10, x11, x12, x13 => if 0 ≤ x11 then (if x11 < (x1.length : Int) then (if x13 < ((rd_L7 x1 x11).length : Int) then (jigsawref10_Exact.l2 k x1 x8 x10 x11 x12 x13 false 0) else (if x10.length < 5864062014805 then (jigsawref10_Exact.l0 k x1 x8 (x10 ++ [x12]) (wrap64 (x11 + 1))) else (none))) else (none)) else (none)
def jigsawref10_Exact.l2 : Nat → List (List Int) → List (List Int) → List (List Int) → Int → List Int → Int → Bool → Int → Option ((List (List Int)) × Bool)
 | 0, _, _, _, _, _, _, _, _ => none
 | k + 1, x1, x8, x10, x11, x12, x13, x14, x15 => if x15 < (x8.length : Int) then (if x14 = true then (jigsawref10_Exact.l2 k x1 x8 x10 x11 x12 x13 true (wrap64 (x15 + 1))) else (if 0 ≤ x15 then (if 0 ≤ x11 then (if x11 < ((rd_L7 x8 x15).length : Int) then (if x11 < (x1.length : Int) then (if 0 ≤ x13 then (if x13 < ((rd_L7 x1 x11).length : Int) then (jigsawref10_Exact.l2 k x1 x8 x10 x11 x12 x13 ((rd (rd_L7 x8 x15) x11) == (rd (rd_L7 x1 x11) x13)) (wrap64 (x15 + 1))) else (none)) else (none)) else (none)) else (none)) else (none)) else (none))) else (if x14 = true then (if 0 ≤ x11 then (if x11 < (x1.length : Int) then (if 0 ≤ x13 then (if x13 < ((rd_L7 x1 x11).length : Int) then (if x12.length < 17592186044416 then (jigsawref10_Exact.l1 k x1 x8 x10 x11 (x12 ++ [rd (rd_L7 x1 x11) x13]) (wrap64 (x13 + 1))) else (none)) else (none)) else (none)) else (none)) else (none)) else (jigsawref10_Exact.l1 k x1 x8 x10 x11 x12 (wrap64 (x13 + 1))))
end
def jigsawref10_Exact.f (k : Nat) (a0_0 : Int) (l0_1 : List Int) (l0_2 : List Int) (l0_3 : List Int) (l0_4 : List Int) (l0_5 : List Int) (a0_6 : Int) (l0_7 : List (List Int)) (l1 : List (List Int)) (a2 : Int) : Option ((List (List Int)) × Bool) := (jigsawref10_Solutions.f k a0_0 l0_1 l0_2 l0_3 l0_4 l0_5 a0_6 l0_7 l1 a2).bind fun bt594 => (jigsawref10_Exact.l0 k l1 bt594.1 ([] : List (List Int)) 0)
theorem jigsawref10_Exact.mono_l : ∀ k, (∀ y0 y1 y2 y3, LeO (jigsawref10_Exact.l0 k y0 y1 y2 y3) (jigsawref10_Exact.l0 (k + 1) y0 y1 y2 y3)) ∧ (∀ y0 y1 y2 y3 y4 y5, LeO (jigsawref10_Exact.l1 k y0 y1 y2 y3 y4 y5) (jigsawref10_Exact.l1 (k + 1) y0 y1 y2 y3 y4 y5)) ∧ (∀ y0 y1 y2 y3 y4 y5 y6 y7, LeO (jigsawref10_Exact.l2 k y0 y1 y2 y3 y4 y5 y6 y7) (jigsawref10_Exact.l2 (k + 1) y0 y1 y2 y3 y4 y5 y6 y7))
 | 0 => ⟨fun _ _ _ _ r h => by simp [jigsawref10_Exact.l0] at h, fun _ _ _ _ _ _ r h => by simp [jigsawref10_Exact.l1] at h, fun _ _ _ _ _ _ _ _ r h => by simp [jigsawref10_Exact.l2] at h⟩
 | k + 1 => by
  obtain ⟨ih0, ih1, ih2⟩ := jigsawref10_Exact.mono_l k
  refine ⟨?_, ?_, ?_⟩
  ·
   intro y0 y1 y2 y3
   unfold jigsawref10_Exact.l0
   have m0 := @jigsawref10_Solutions.mono
   exact leo_
  ·
   intro y0 y1 y2 y3 y4 y5
   unfold jigsawref10_Exact.l1
   have m0 := @jigsawref10_Solutions.mono
   exact leo_
  ·
   intro y0 y1 y2 y3 y4 y5 y6 y7
   unfold jigsawref10_Exact.l2
   have m0 := @jigsawref10_Solutions.mono
   exact leo_
theorem jigsawref10_Exact.mono : ∀ a0 a1 a2 a3 a4 a5 a6 a7 a8 a9 k, LeO (jigsawref10_Exact.f k a0 a1 a2 a3 a4 a5 a6 a7 a8 a9) (jigsawref10_Exact.f (k + 1) a0 a1 a2 a3 a4 a5 a6 a7 a8 a9) := by
 intro a0 a1 a2 a3 a4 a5 a6 a7 a8 a9 k
 obtain ⟨ih0, ih1, ih2⟩ := jigsawref10_Exact.mono_l k
 unfold jigsawref10_Exact.f
 have m0 := @jigsawref10_Solutions.mono
 exact leo_
set_option maxHeartbeats 8000000 in
set_option maxRecDepth 100000 in
theorem jigsawref10_Exact.calls (k : Nat) (a0_0 : Int) (A0_1 : Option Addr) (c0_1 : Nat) (l0_1 : List Int) (A0_2 : Option Addr) (c0_2 : Nat) (l0_2 : List Int) (P0_3_ : Nat → Prop) (A0_3 : Option Addr) (c0_3 : Nat) (l0_3 : List Int) (P0_4_ : Nat → Prop) (A0_4 : Option Addr) (c0_4 : Nat) (l0_4 : List Int) (P0_5_ : Nat → Prop) (A0_5 : Option Addr) (c0_5 : Nat) (l0_5 : List Int) (a0_6 : Int) (P0_7_ : Nat → Prop) (A0_7 : Option Addr) (c0_7 : Nat) (l0_7 : List (List Int)) (A1 : Option Addr) (c1 : Nat) (l1 : List (List Int)) (a2 : Int) (r1 : List (List Int)) (r2 : Bool) (w : World) (hr0_1 : Kd.C (Kd.int .i64) w A0_1 l0_1.length l0_1) (hc0_1 : l0_1.length ≤ c0_1) (hr0_2 : Kd.C (Kd.int .i64) w A0_2 l0_2.length l0_2) (hc0_2 : l0_2.length ≤ c0_2) (hs0_3 : Kd.V (Kd.int .i64) 3 w w.heap.size (fun k_ => P0_3_ k_) (.slice A0_3 l0_3.length c0_3) l0_3) (hs0_4 : Kd.V (Kd.int .i64) 3 w w.heap.size (fun k_ => P0_4_ k_) (.slice A0_4 l0_4.length c0_4) l0_4) (hs0_5 : Kd.V (Kd.int .i64) 3 w w.heap.size (fun k_ => P0_5_ k_) (.slice A0_5 l0_5.length c0_5) l0_5) (hs0_7 : Kd.V (Kd.slice 3 (Kd.int .i64)) 30 w w.heap.size (fun k_ => P0_7_ k_) (.slice A0_7 l0_7.length c0_7) l0_7) (hr1 : Kd.C (Kd.slice 3 (Kd.int .i64)) w A1 l1.length l1) (hc1 : l1.length ≤ c1) (h : jigsawref10_Exact.f k a0_0 l0_1 l0_2 l0_3 l0_4 l0_5 a0_6 l0_7 l1 a2 = some (r1, r2)) :
  Calls Tryz.prog 16 #[.agg #[.int .i64 a0_0, .slice A0_1 l0_1.length c0_1, .slice A0_2 l0_2.length c0_2, .slice A0_3 l0_3.length c0_3, .slice A0_4 l0_4.length c0_4, .slice A0_5 l0_5.length c0_5, .int .i64 a0_6, .slice A0_7 l0_7.length c0_7], .slice A1 l1.length c1, .int .i64 a2] w fun e w' => ∃ v0_ : Value, e = .returned (.tuple #[v0_, .bool r2]) ∧ Kd.N (Kd.slice 3 (Kd.int .i64)) 30 w' w.heap.size (fun k_ => ((P0_3_ k_ ∨ P0_4_ k_ ∨ P0_5_ k_ ∨ P0_7_ k_) ∨ w.heap.size ≤ k_)) v0_ r1 ∧ Below w.heap.size w w' := by
 have hu32 := Tryz.underlying32
 have HR0_1 := Aside0.mk hr0_1
 have HC0_1 := Aside0.mk hc0_1
 clear hr0_1 hc0_1
 have HR0_2 := Aside0.mk hr0_2
 have HC0_2 := Aside0.mk hc0_2
 clear hr0_2 hc0_2
 have HO0_3 := Aside0.mk (show Kd.V (Kd.int .i64) 3 w w.heap.size (fun k_ => ((P0_3_ k_ ∨ P0_4_ k_ ∨ P0_5_ k_ ∨ P0_7_ k_) ∨ w.heap.size ≤ k_)) (.slice A0_3 l0_3.length c0_3) l0_3 from Kd.V_mono hs0_3 (fun k_ hk => .inl (.inl hk)))
 have HO0_4 := Aside0.mk (show Kd.V (Kd.int .i64) 3 w w.heap.size (fun k_ => ((P0_3_ k_ ∨ P0_4_ k_ ∨ P0_5_ k_ ∨ P0_7_ k_) ∨ w.heap.size ≤ k_)) (.slice A0_4 l0_4.length c0_4) l0_4 from Kd.V_mono hs0_4 (fun k_ hk => .inl (.inr (.inl hk))))
 have HO0_5 := Aside0.mk (show Kd.V (Kd.int .i64) 3 w w.heap.size (fun k_ => ((P0_3_ k_ ∨ P0_4_ k_ ∨ P0_5_ k_ ∨ P0_7_ k_) ∨ w.heap.size ≤ k_)) (.slice A0_5 l0_5.length c0_5) l0_5 from Kd.V_mono hs0_5 (fun k_ hk => .inl (.inr (.inr (.inl hk)))))
 have HO0_7 := Aside0.mk (show Kd.V (Kd.slice 3 (Kd.int .i64)) 30 w w.heap.size (fun k_ => ((P0_3_ k_ ∨ P0_4_ k_ ∨ P0_5_ k_ ∨ P0_7_ k_) ∨ w.heap.size ≤ k_)) (.slice A0_7 l0_7.length c0_7) l0_7 from Kd.V_mono hs0_7 (fun k_ hk => .inl (.inr (.inr (.inr hk)))))
 have HR1 := Aside0.mk hr1
 have HC1 := Aside0.mk hc1
 clear hr1 hc1
 have HB := Aside0.mk (Below.refl w.heap.size w)
 unfold jigsawref10_Exact.f at h
 have H := h
 clear h
 replace H := Option.bind_eq_some_iff.mp H
 obtain ⟨⟨t594, t597⟩, A40, H⟩ := H
 try dsimp only at H
 have A4 := Aside0.mk A40
 clear A40
 have H' := Aside0.mk H
 clear H
 go_enter Tryz.func16, Tryz.ntmps16
 go_wp2_with (first | ((with_reducible refine gate_dst (N := 3) rfl ?_); refine bxe_ (N := 3) (cs := #[.int .i64 a0_0, .slice A0_1 l0_1.length c0_1, .slice A0_2 l0_2.length c0_2, .slice A0_3 l0_3.length c0_3, .slice A0_4 l0_4.length c0_4, .slice A0_5 l0_5.length c0_5, .int .i64 a0_6, .slice A0_7 l0_7.length c0_7]) (t := 32) ?_; intro gb593 hg w5 hbox hb; replace HO0_3 := Aside0.mk (Kd.V_below (Kd.V_elderB (vV_ HO0_3.out) gb593 (Nat.le_of_eq hg.symm)) hb); replace HO0_4 := Aside0.mk (Kd.V_below (Kd.V_elderB (vV_ HO0_4.out) gb593 (Nat.le_of_eq hg.symm)) hb); replace HO0_5 := Aside0.mk (Kd.V_below (Kd.V_elderB (vV_ HO0_5.out) gb593 (Nat.le_of_eq hg.symm)) hb); replace HO0_7 := Aside0.mk (Kd.V_below (Kd.V_elderB (vV_ HO0_7.out) gb593 (Nat.le_of_eq hg.symm)) hb); have BK593 := Aside0.mk (hbox); have GW593 := Aside0.mk (by rw [hg]; exact (below_size bel_) : w.heap.size ≤ gb593); have GE593 := GW593; replace HB := Aside0.mk (below_step bel_ hb); clear hb hbox hg; obtain ⟨_, _, _, _, _, _, _, _, _, _, _, _, _, _, _, _⟩ := cel8_ BK593.out) | (go_at_call 15; (with_reducible refine (jigsawref10_Solutions.calls k a0_0 _ _ l0_1 _ _ l0_2 (fun k_ => (((P0_3_ k_ ∨ P0_4_ k_ ∨ P0_5_ k_ ∨ P0_7_ k_) ∨ w.heap.size ≤ k_) ∧ k_ ≠ gb593)) _ _ l0_3 (fun k_ => (((P0_3_ k_ ∨ P0_4_ k_ ∨ P0_5_ k_ ∨ P0_7_ k_) ∨ w.heap.size ≤ k_) ∧ k_ ≠ gb593)) _ _ l0_4 (fun k_ => (((P0_3_ k_ ∨ P0_4_ k_ ∨ P0_5_ k_ ∨ P0_7_ k_) ∨ w.heap.size ≤ k_) ∧ k_ ≠ gb593)) _ _ l0_5 a0_6 (fun k_ => (((P0_3_ k_ ∨ P0_4_ k_ ∨ P0_5_ k_ ∨ P0_7_ k_) ∨ w.heap.size ≤ k_) ∧ k_ ≠ gb593)) _ _ l0_7 _ _ l1 a2 t594 t597 _ ?_ ?_ ?_ ?_ ?_ ?_ ?_ ?_ ?_ ?_ A4.out).mono ?_); exact ca_ ((Kd.C_below HR0_1.out HB.out)); exact HC0_1.out; exact ca_ ((Kd.C_below HR0_2.out HB.out)); exact HC0_2.out; exact HO0_3.out; exact HO0_4.out; exact HO0_5.out; exact HO0_7.out; exact ca_ ((Kd.C_below HR1.out HB.out)); exact HC1.out; rintro e w7 ⟨v595, rfl, ho0, hb⟩; replace HO0_3 := Aside0.mk (Kd.V_elder' (vV_ HO0_3.out) (Kd.N_base ho0) hb); replace HO0_4 := Aside0.mk (Kd.V_elder' (vV_ HO0_4.out) (Kd.N_base ho0) hb); replace HO0_5 := Aside0.mk (Kd.V_elder' (vV_ HO0_5.out) (Kd.N_base ho0) hb); replace HO0_7 := Aside0.mk (Kd.V_elder' (vV_ HO0_7.out) (Kd.N_base ho0) hb); have HO596 := Aside0.mk (Kd.N_lower (Kd.N_mono (ok' := fun k_ => ((P0_3_ k_ ∨ P0_4_ k_ ∨ P0_5_ k_ ∨ P0_7_ k_) ∨ w.heap.size ≤ k_) ∧ k_ ≠ gb593) ho0 (fun k_ hk_ => ⟨Or.elim hk_ (fun hs_ => Or.elim hs_ (fun hs_ => hs_.1) (fun hs_ => Or.elim hs_ (fun hs_ => hs_.1) (fun hs_ => Or.elim hs_ (fun hs_ => hs_.1) (fun hs_ => hs_.1)))) (fun hn_ => (.inr (Nat.le_trans (below_size bel_) hn_))), Or.elim hk_ (fun hs_ => Or.elim hs_ (fun hs_ => hs_.2) (fun hs_ => Or.elim hs_ (fun hs_ => hs_.2) (fun hs_ => Or.elim hs_ (fun hs_ => hs_.2) (fun hs_ => hs_.2)))) (fun hn_ => (Kd.freshB (bk_ BK593.out) k_ hn_))⟩)) (below_size bel_)); replace BK593 := Aside0.mk (blk_below (bk_ BK593.out) hb); replace HB := Aside0.mk (below_step bel_ hb); clear hb ho0))
 repeat (go_quiet (first | ((with_reducible refine gate_dst (N := 3) rfl ?_); refine bxe_ (N := 3) (cs := #[.int .i64 a0_0, .slice A0_1 l0_1.length c0_1, .slice A0_2 l0_2.length c0_2, .slice A0_3 l0_3.length c0_3, .slice A0_4 l0_4.length c0_4, .slice A0_5 l0_5.length c0_5, .int .i64 a0_6, .slice A0_7 l0_7.length c0_7]) (t := 32) ?_; intro gb593 hg w5 hbox hb; replace HO0_3 := Aside0.mk (Kd.V_below (Kd.V_elderB (vV_ HO0_3.out) gb593 (Nat.le_of_eq hg.symm)) hb); replace HO0_4 := Aside0.mk (Kd.V_below (Kd.V_elderB (vV_ HO0_4.out) gb593 (Nat.le_of_eq hg.symm)) hb); replace HO0_5 := Aside0.mk (Kd.V_below (Kd.V_elderB (vV_ HO0_5.out) gb593 (Nat.le_of_eq hg.symm)) hb); replace HO0_7 := Aside0.mk (Kd.V_below (Kd.V_elderB (vV_ HO0_7.out) gb593 (Nat.le_of_eq hg.symm)) hb); have BK593 := Aside0.mk (hbox); have GW593 := Aside0.mk (by rw [hg]; exact (below_size bel_) : w.heap.size ≤ gb593); have GE593 := GW593; replace HB := Aside0.mk (below_step bel_ hb); clear hb hbox hg; obtain ⟨_, _, _, _, _, _, _, _, _, _, _, _, _, _, _, _⟩ := cel8_ BK593.out) | (go_at_call 15; (with_reducible refine (jigsawref10_Solutions.calls k a0_0 _ _ l0_1 _ _ l0_2 (fun k_ => (((P0_3_ k_ ∨ P0_4_ k_ ∨ P0_5_ k_ ∨ P0_7_ k_) ∨ w.heap.size ≤ k_) ∧ k_ ≠ gb593)) _ _ l0_3 (fun k_ => (((P0_3_ k_ ∨ P0_4_ k_ ∨ P0_5_ k_ ∨ P0_7_ k_) ∨ w.heap.size ≤ k_) ∧ k_ ≠ gb593)) _ _ l0_4 (fun k_ => (((P0_3_ k_ ∨ P0_4_ k_ ∨ P0_5_ k_ ∨ P0_7_ k_) ∨ w.heap.size ≤ k_) ∧ k_ ≠ gb593)) _ _ l0_5 a0_6 (fun k_ => (((P0_3_ k_ ∨ P0_4_ k_ ∨ P0_5_ k_ ∨ P0_7_ k_) ∨ w.heap.size ≤ k_) ∧ k_ ≠ gb593)) _ _ l0_7 _ _ l1 a2 t594 t597 _ ?_ ?_ ?_ ?_ ?_ ?_ ?_ ?_ ?_ ?_ A4.out).mono ?_); exact ca_ ((Kd.C_below HR0_1.out HB.out)); exact HC0_1.out; exact ca_ ((Kd.C_below HR0_2.out HB.out)); exact HC0_2.out; exact HO0_3.out; exact HO0_4.out; exact HO0_5.out; exact HO0_7.out; exact ca_ ((Kd.C_below HR1.out HB.out)); exact HC1.out; rintro e w7 ⟨v595, rfl, ho0, hb⟩; replace HO0_3 := Aside0.mk (Kd.V_elder' (vV_ HO0_3.out) (Kd.N_base ho0) hb); replace HO0_4 := Aside0.mk (Kd.V_elder' (vV_ HO0_4.out) (Kd.N_base ho0) hb); replace HO0_5 := Aside0.mk (Kd.V_elder' (vV_ HO0_5.out) (Kd.N_base ho0) hb); replace HO0_7 := Aside0.mk (Kd.V_elder' (vV_ HO0_7.out) (Kd.N_base ho0) hb); have HO596 := Aside0.mk (Kd.N_lower (Kd.N_mono (ok' := fun k_ => ((P0_3_ k_ ∨ P0_4_ k_ ∨ P0_5_ k_ ∨ P0_7_ k_) ∨ w.heap.size ≤ k_) ∧ k_ ≠ gb593) ho0 (fun k_ hk_ => ⟨Or.elim hk_ (fun hs_ => Or.elim hs_ (fun hs_ => hs_.1) (fun hs_ => Or.elim hs_ (fun hs_ => hs_.1) (fun hs_ => Or.elim hs_ (fun hs_ => hs_.1) (fun hs_ => hs_.1)))) (fun hn_ => (.inr (Nat.le_trans (below_size bel_) hn_))), Or.elim hk_ (fun hs_ => Or.elim hs_ (fun hs_ => hs_.2) (fun hs_ => Or.elim hs_ (fun hs_ => hs_.2) (fun hs_ => Or.elim hs_ (fun hs_ => hs_.2) (fun hs_ => hs_.2)))) (fun hn_ => (Kd.freshB (bk_ BK593.out) k_ hn_))⟩)) (below_size bel_)); replace BK593 := Aside0.mk (blk_below (bk_ BK593.out) hb); replace HB := Aside0.mk (below_step bel_ hb); clear hb ho0)); try go_wp2_with (first | ((with_reducible refine gate_dst (N := 3) rfl ?_); refine bxe_ (N := 3) (cs := #[.int .i64 a0_0, .slice A0_1 l0_1.length c0_1, .slice A0_2 l0_2.length c0_2, .slice A0_3 l0_3.length c0_3, .slice A0_4 l0_4.length c0_4, .slice A0_5 l0_5.length c0_5, .int .i64 a0_6, .slice A0_7 l0_7.length c0_7]) (t := 32) ?_; intro gb593 hg w5 hbox hb; replace HO0_3 := Aside0.mk (Kd.V_below (Kd.V_elderB (vV_ HO0_3.out) gb593 (Nat.le_of_eq hg.symm)) hb); replace HO0_4 := Aside0.mk (Kd.V_below (Kd.V_elderB (vV_ HO0_4.out) gb593 (Nat.le_of_eq hg.symm)) hb); replace HO0_5 := Aside0.mk (Kd.V_below (Kd.V_elderB (vV_ HO0_5.out) gb593 (Nat.le_of_eq hg.symm)) hb); replace HO0_7 := Aside0.mk (Kd.V_below (Kd.V_elderB (vV_ HO0_7.out) gb593 (Nat.le_of_eq hg.symm)) hb); have BK593 := Aside0.mk (hbox); have GW593 := Aside0.mk (by rw [hg]; exact (below_size bel_) : w.heap.size ≤ gb593); have GE593 := GW593; replace HB := Aside0.mk (below_step bel_ hb); clear hb hbox hg; obtain ⟨_, _, _, _, _, _, _, _, _, _, _, _, _, _, _, _⟩ := cel8_ BK593.out) | (go_at_call 15; (with_reducible refine (jigsawref10_Solutions.calls k a0_0 _ _ l0_1 _ _ l0_2 (fun k_ => (((P0_3_ k_ ∨ P0_4_ k_ ∨ P0_5_ k_ ∨ P0_7_ k_) ∨ w.heap.size ≤ k_) ∧ k_ ≠ gb593)) _ _ l0_3 (fun k_ => (((P0_3_ k_ ∨ P0_4_ k_ ∨ P0_5_ k_ ∨ P0_7_ k_) ∨ w.heap.size ≤ k_) ∧ k_ ≠ gb593)) _ _ l0_4 (fun k_ => (((P0_3_ k_ ∨ P0_4_ k_ ∨ P0_5_ k_ ∨ P0_7_ k_) ∨ w.heap.size ≤ k_) ∧ k_ ≠ gb593)) _ _ l0_5 a0_6 (fun k_ => (((P0_3_ k_ ∨ P0_4_ k_ ∨ P0_5_ k_ ∨ P0_7_ k_) ∨ w.heap.size ≤ k_) ∧ k_ ≠ gb593)) _ _ l0_7 _ _ l1 a2 t594 t597 _ ?_ ?_ ?_ ?_ ?_ ?_ ?_ ?_ ?_ ?_ A4.out).mono ?_); exact ca_ ((Kd.C_below HR0_1.out HB.out)); exact HC0_1.out; exact ca_ ((Kd.C_below HR0_2.out HB.out)); exact HC0_2.out; exact HO0_3.out; exact HO0_4.out; exact HO0_5.out; exact HO0_7.out; exact ca_ ((Kd.C_below HR1.out HB.out)); exact HC1.out; rintro e w7 ⟨v595, rfl, ho0, hb⟩; replace HO0_3 := Aside0.mk (Kd.V_elder' (vV_ HO0_3.out) (Kd.N_base ho0) hb); replace HO0_4 := Aside0.mk (Kd.V_elder' (vV_ HO0_4.out) (Kd.N_base ho0) hb); replace HO0_5 := Aside0.mk (Kd.V_elder' (vV_ HO0_5.out) (Kd.N_base ho0) hb); replace HO0_7 := Aside0.mk (Kd.V_elder' (vV_ HO0_7.out) (Kd.N_base ho0) hb); have HO596 := Aside0.mk (Kd.N_lower (Kd.N_mono (ok' := fun k_ => ((P0_3_ k_ ∨ P0_4_ k_ ∨ P0_5_ k_ ∨ P0_7_ k_) ∨ w.heap.size ≤ k_) ∧ k_ ≠ gb593) ho0 (fun k_ hk_ => ⟨Or.elim hk_ (fun hs_ => Or.elim hs_ (fun hs_ => hs_.1) (fun hs_ => Or.elim hs_ (fun hs_ => hs_.1) (fun hs_ => Or.elim hs_ (fun hs_ => hs_.1) (fun hs_ => hs_.1)))) (fun hn_ => (.inr (Nat.le_trans (below_size bel_) hn_))), Or.elim hk_ (fun hs_ => Or.elim hs_ (fun hs_ => hs_.2) (fun hs_ => Or.elim hs_ (fun hs_ => hs_.2) (fun hs_ => Or.elim hs_ (fun hs_ => hs_.2) (fun hs_ => hs_.2)))) (fun hn_ => (Kd.freshB (bk_ BK593.out) k_ hn_))⟩)) (below_size bel_)); replace BK593 := Aside0.mk (blk_below (bk_ BK593.out) hb); replace HB := Aside0.mk (below_step bel_ hb); clear hb ho0)))
 go_loopg [10, 11] k (fun kq v10 v11 w' => ∃ (x10_1 : List (List Int)) (x11_1 : Int), v11 = .int .i64 x11_1 ∧ Aside0 (jigsawref10_Exact.l0 kq l1 t594 x10_1 x11_1 = some (r1, r2)) ∧ Aside0 (kq ≤ k) ∧ Aside0 (Kd.N (Kd.slice 3 (Kd.int .i64)) 30 w' w.heap.size (fun k_ => ((P0_3_ k_ ∨ P0_4_ k_ ∨ P0_5_ k_ ∨ P0_7_ k_) ∨ w.heap.size ≤ k_) ∧ some k_ ≠ (v10 : Value).ownBlock ∧ k_ ≠ gb593) v595 t594) ∧ Aside0 (Kd.N (Kd.slice 3 (Kd.int .i64)) 30 w' w.heap.size (fun k_ => ((P0_3_ k_ ∨ P0_4_ k_ ∨ P0_5_ k_ ∨ P0_7_ k_) ∨ w.heap.size ≤ k_) ∧ some k_ ≠ (v595 : Value).ownBlock ∧ k_ ≠ gb593) v10 x10_1) ∧ Aside0 (Kd.V (Kd.int .i64) 3 w' w.heap.size (fun k_ => ((P0_3_ k_ ∨ P0_4_ k_ ∨ P0_5_ k_ ∨ P0_7_ k_) ∨ w.heap.size ≤ k_) ∧ some k_ ≠ (v595 : Value).ownBlock ∧ some k_ ≠ (v10 : Value).ownBlock ∧ k_ ≠ gb593) (.slice A0_3 l0_3.length c0_3) l0_3) ∧ Aside0 (Kd.V (Kd.int .i64) 3 w' w.heap.size (fun k_ => ((P0_3_ k_ ∨ P0_4_ k_ ∨ P0_5_ k_ ∨ P0_7_ k_) ∨ w.heap.size ≤ k_) ∧ some k_ ≠ (v595 : Value).ownBlock ∧ some k_ ≠ (v10 : Value).ownBlock ∧ k_ ≠ gb593) (.slice A0_4 l0_4.length c0_4) l0_4) ∧ Aside0 (Kd.V (Kd.int .i64) 3 w' w.heap.size (fun k_ => ((P0_3_ k_ ∨ P0_4_ k_ ∨ P0_5_ k_ ∨ P0_7_ k_) ∨ w.heap.size ≤ k_) ∧ some k_ ≠ (v595 : Value).ownBlock ∧ some k_ ≠ (v10 : Value).ownBlock ∧ k_ ≠ gb593) (.slice A0_5 l0_5.length c0_5) l0_5) ∧ Aside0 (Kd.V (Kd.slice 3 (Kd.int .i64)) 30 w' w.heap.size (fun k_ => ((P0_3_ k_ ∨ P0_4_ k_ ∨ P0_5_ k_ ∨ P0_7_ k_) ∨ w.heap.size ≤ k_) ∧ some k_ ≠ (v595 : Value).ownBlock ∧ some k_ ≠ (v10 : Value).ownBlock ∧ k_ ≠ gb593) (.slice A0_7 l0_7.length c0_7) l0_7) ∧ Aside0 (w'.heap[gb593]? = some (.cells #[.int .i64 a0_0, (.slice A0_1 l0_1.length c0_1), (.slice A0_2 l0_2.length c0_2), (.slice A0_3 l0_3.length c0_3), (.slice A0_4 l0_4.length c0_4), (.slice A0_5 l0_5.length c0_5), .int .i64 a0_6, (.slice A0_7 l0_7.length c0_7)] 32 (0, 0))) ∧ Aside0 (Below w.heap.size w w'))
 case atStart => exact ⟨(([] : List (List Int))), (0), eq_, H', ⟨Nat.le_refl _⟩, ⟨by refine vN_ ?_; exact Kd.N_mono HO596.out (fun _ hk => ⟨hk.1, ⟨(by simp [Value.ownBlock]), hk.2⟩⟩)⟩, ⟨nil_⟩, ⟨by refine vV_ ?_; exact Kd.V_mono HO0_3.out (fun _ hk => ⟨hk.1.1, ⟨hk.2, ⟨(by simp [Value.ownBlock]), hk.1.2⟩⟩⟩)⟩, ⟨by refine vV_ ?_; exact Kd.V_mono HO0_4.out (fun _ hk => ⟨hk.1.1, ⟨hk.2, ⟨(by simp [Value.ownBlock]), hk.1.2⟩⟩⟩)⟩, ⟨by refine vV_ ?_; exact Kd.V_mono HO0_5.out (fun _ hk => ⟨hk.1.1, ⟨hk.2, ⟨(by simp [Value.ownBlock]), hk.1.2⟩⟩⟩)⟩, ⟨by refine vV_ ?_; exact Kd.V_mono HO0_7.out (fun _ hk => ⟨hk.1.1, ⟨hk.2, ⟨(by simp [Value.ownBlock]), hk.1.2⟩⟩⟩)⟩, ⟨by refine bk_ ?_; exact BK593.out⟩, ⟨bel_⟩⟩
 case round =>
  clear H'
  try clear c1
  try clear p2
  obtain ⟨x10_1, x11_1, rfl, HA, HK1, HO_8, HO_10, HO_594003, HO_594004, HO_594005, HO_594007, BK593, HB⟩ := hrel
  cases gk with
  | zero => exact absurd HA.out (by simp [jigsawref10_Exact.l0])
  | succ k1 =>
   have H := HA.out
   clear HA
   simp only [jigsawref10_Exact.l0] at H
   by_cases c8 : x11_1 < (l1.length : Int)
   ·
    rw [if_pos c8] at H
    have c8b0 : decide (x11_1 < (l1.length : Int)) = true := decide_eq_true c8
    clear c8
    have H' := Aside0.mk H
    clear H
    go_wp2
    repeat (go_quiet (fail); try go_wp2)
    go_loopg [12, 13] k1 (fun kq v12 v13 w' => ∃ (x12_2 : List Int) (x13_2 : Int), v13 = .int .i64 x13_2 ∧ Aside0 (jigsawref10_Exact.l1 kq l1 t594 x10_1 x11_1 x12_2 x13_2 = some (r1, r2)) ∧ Aside0 (kq ≤ k1) ∧ Aside0 (Kd.N (Kd.slice 3 (Kd.int .i64)) 30 w' w.heap.size (fun k_ => ((P0_3_ k_ ∨ P0_4_ k_ ∨ P0_5_ k_ ∨ P0_7_ k_) ∨ w.heap.size ≤ k_) ∧ some k_ ≠ (u10 : Value).ownBlock ∧ some k_ ≠ (v12 : Value).ownBlock ∧ k_ ≠ gb593) v595 t594) ∧ Aside0 (Kd.N (Kd.slice 3 (Kd.int .i64)) 30 w' w.heap.size (fun k_ => ((P0_3_ k_ ∨ P0_4_ k_ ∨ P0_5_ k_ ∨ P0_7_ k_) ∨ w.heap.size ≤ k_) ∧ some k_ ≠ (v595 : Value).ownBlock ∧ some k_ ≠ (v12 : Value).ownBlock ∧ k_ ≠ gb593) u10 x10_1) ∧ Aside0 (Kd.R (Kd.int .i64) 3 w' w.heap.size (fun k_ => (w.heap.size ≤ k_)) v12 x12_2) ∧ Aside0 (Kd.V (Kd.int .i64) 3 w' w.heap.size (fun k_ => ((P0_3_ k_ ∨ P0_4_ k_ ∨ P0_5_ k_ ∨ P0_7_ k_) ∨ w.heap.size ≤ k_) ∧ some k_ ≠ (v595 : Value).ownBlock ∧ some k_ ≠ (u10 : Value).ownBlock ∧ some k_ ≠ (v12 : Value).ownBlock ∧ k_ ≠ gb593) (.slice A0_3 l0_3.length c0_3) l0_3) ∧ Aside0 (Kd.V (Kd.int .i64) 3 w' w.heap.size (fun k_ => ((P0_3_ k_ ∨ P0_4_ k_ ∨ P0_5_ k_ ∨ P0_7_ k_) ∨ w.heap.size ≤ k_) ∧ some k_ ≠ (v595 : Value).ownBlock ∧ some k_ ≠ (u10 : Value).ownBlock ∧ some k_ ≠ (v12 : Value).ownBlock ∧ k_ ≠ gb593) (.slice A0_4 l0_4.length c0_4) l0_4) ∧ Aside0 (Kd.V (Kd.int .i64) 3 w' w.heap.size (fun k_ => ((P0_3_ k_ ∨ P0_4_ k_ ∨ P0_5_ k_ ∨ P0_7_ k_) ∨ w.heap.size ≤ k_) ∧ some k_ ≠ (v595 : Value).ownBlock ∧ some k_ ≠ (u10 : Value).ownBlock ∧ some k_ ≠ (v12 : Value).ownBlock ∧ k_ ≠ gb593) (.slice A0_5 l0_5.length c0_5) l0_5) ∧ Aside0 (Kd.V (Kd.slice 3 (Kd.int .i64)) 30 w' w.heap.size (fun k_ => ((P0_3_ k_ ∨ P0_4_ k_ ∨ P0_5_ k_ ∨ P0_7_ k_) ∨ w.heap.size ≤ k_) ∧ some k_ ≠ (v595 : Value).ownBlock ∧ some k_ ≠ (u10 : Value).ownBlock ∧ some k_ ≠ (v12 : Value).ownBlock ∧ k_ ≠ gb593) (.slice A0_7 l0_7.length c0_7) l0_7) ∧ Aside0 (w'.heap[gb593]? = some (.cells #[.int .i64 a0_0, (.slice A0_1 l0_1.length c0_1), (.slice A0_2 l0_2.length c0_2), (.slice A0_3 l0_3.length c0_3), (.slice A0_4 l0_4.length c0_4), (.slice A0_5 l0_5.length c0_5), .int .i64 a0_6, (.slice A0_7 l0_7.length c0_7)] 32 (0, 0))) ∧ Aside0 (Below w.heap.size w w'))
    case atStart => exact ⟨(([] : List Int)), (0), eq_, H', ⟨Nat.le_refl _⟩, ⟨by refine vN_ ?_; exact Kd.N_mono HO_8.out (fun _ hk => ⟨hk.1, ⟨hk.2.1, ⟨(by simp [Value.ownBlock]), hk.2.2⟩⟩⟩)⟩, ⟨by refine vN_ ?_; exact Kd.N_mono HO_10.out (fun _ hk => ⟨hk.1, ⟨hk.2.1, ⟨(by simp [Value.ownBlock]), hk.2.2⟩⟩⟩)⟩, ⟨nil_⟩, ⟨by refine vV_ ?_; exact Kd.V_mono HO_594003.out (fun _ hk => ⟨hk.1, ⟨hk.2.1, ⟨hk.2.2.1, ⟨(by simp [Value.ownBlock]), hk.2.2.2⟩⟩⟩⟩)⟩, ⟨by refine vV_ ?_; exact Kd.V_mono HO_594004.out (fun _ hk => ⟨hk.1, ⟨hk.2.1, ⟨hk.2.2.1, ⟨(by simp [Value.ownBlock]), hk.2.2.2⟩⟩⟩⟩)⟩, ⟨by refine vV_ ?_; exact Kd.V_mono HO_594005.out (fun _ hk => ⟨hk.1, ⟨hk.2.1, ⟨hk.2.2.1, ⟨(by simp [Value.ownBlock]), hk.2.2.2⟩⟩⟩⟩)⟩, ⟨by refine vV_ ?_; exact Kd.V_mono HO_594007.out (fun _ hk => ⟨hk.1, ⟨hk.2.1, ⟨hk.2.2.1, ⟨(by simp [Value.ownBlock]), hk.2.2.2⟩⟩⟩⟩)⟩, ⟨by refine bk_ ?_; exact BK593.out⟩, ⟨bel_⟩⟩
    case round =>
     clear H'
     try clear c1
     try clear p2
     try clear c8
     try clear c8b0
     try clear p2
     obtain ⟨x12_2, x13_2, rfl, HA, HK2, HO_8, HO_10, HO_12, HO_594003, HO_594004, HO_594005, HO_594007, BK593, HB⟩ := hrel
     cases gk with
     | zero => exact absurd HA.out (by simp [jigsawref10_Exact.l1])
     | succ k2 =>
      have H := HA.out
      clear HA
      simp only [jigsawref10_Exact.l1] at H
      by_cases c9 : 0 ≤ x11_1
      ·
       rw [if_pos c9] at H
       have c9b0 : decide (0 ≤ x11_1) = true := decide_eq_true c9
       clear c9
       by_cases c10 : x11_1 < (l1.length : Int)
       ·
        rw [if_pos c10] at H
        have c10b0 : decide (x11_1 < (l1.length : Int)) = true := decide_eq_true c10
        clear c10
        by_cases c11 : x13_2 < ((rd_L7 l1 x11_1).length : Int)
        ·
         rw [if_pos c11] at H
         have c11b0 : decide (x13_2 < ((rd_L7 l1 x11_1).length : Int)) = true := decide_eq_true c11
         clear c11
         have H' := Aside0.mk H
         clear H
         have p598 : 0 ≤ (x11_1 : Int) := dq_
         have q598 : x11_1 < (l1.length : Int) := dq_
         obtain ⟨ad598, A598_0, c598_0, e598, hx598_0, hl598_0, hi598_0⟩ := at_L7 HR1.out x11_1 p598 q598
         cases e598
         replace hx598_0 := (HB.out.cell (World.block_lt_of_cell? w _ hx598_0)).trans hx598_0
         have HC598_0 := Aside0.mk hl598_0
         clear hi598_0 hl598_0
         replace p598 := eq_true p598
         replace q598 := eq_true q598
         go_wp2
         repeat (go_quiet (fail); try go_wp2)
         go_loopg [14, 15] k2 (fun kq v14 v15 w' => ∃ (x14_3 : Bool) (x15_3 : Int), v14 = .bool x14_3 ∧ v15 = .int .i64 x15_3 ∧ Aside0 (jigsawref10_Exact.l2 kq l1 t594 x10_1 x11_1 x12_2 x13_2 x14_3 x15_3 = some (r1, r2)) ∧ Aside0 (kq ≤ k2) ∧ Aside0 (Kd.N (Kd.slice 3 (Kd.int .i64)) 30 w' w.heap.size (fun k_ => ((P0_3_ k_ ∨ P0_4_ k_ ∨ P0_5_ k_ ∨ P0_7_ k_) ∨ w.heap.size ≤ k_) ∧ some k_ ≠ (u10 : Value).ownBlock ∧ some k_ ≠ (u12 : Value).ownBlock ∧ k_ ≠ gb593) v595 t594) ∧ Aside0 (Kd.N (Kd.slice 3 (Kd.int .i64)) 30 w' w.heap.size (fun k_ => ((P0_3_ k_ ∨ P0_4_ k_ ∨ P0_5_ k_ ∨ P0_7_ k_) ∨ w.heap.size ≤ k_) ∧ some k_ ≠ (v595 : Value).ownBlock ∧ some k_ ≠ (u12 : Value).ownBlock ∧ k_ ≠ gb593) u10 x10_1) ∧ Aside0 (Kd.R (Kd.int .i64) 3 w' w.heap.size (fun k_ => (w.heap.size ≤ k_)) u12 x12_2) ∧ Aside0 (Kd.V (Kd.int .i64) 3 w' w.heap.size (fun k_ => ((P0_3_ k_ ∨ P0_4_ k_ ∨ P0_5_ k_ ∨ P0_7_ k_) ∨ w.heap.size ≤ k_) ∧ some k_ ≠ (v595 : Value).ownBlock ∧ some k_ ≠ (u10 : Value).ownBlock ∧ some k_ ≠ (u12 : Value).ownBlock ∧ k_ ≠ gb593) (.slice A0_3 l0_3.length c0_3) l0_3) ∧ Aside0 (Kd.V (Kd.int .i64) 3 w' w.heap.size (fun k_ => ((P0_3_ k_ ∨ P0_4_ k_ ∨ P0_5_ k_ ∨ P0_7_ k_) ∨ w.heap.size ≤ k_) ∧ some k_ ≠ (v595 : Value).ownBlock ∧ some k_ ≠ (u10 : Value).ownBlock ∧ some k_ ≠ (u12 : Value).ownBlock ∧ k_ ≠ gb593) (.slice A0_4 l0_4.length c0_4) l0_4) ∧ Aside0 (Kd.V (Kd.int .i64) 3 w' w.heap.size (fun k_ => ((P0_3_ k_ ∨ P0_4_ k_ ∨ P0_5_ k_ ∨ P0_7_ k_) ∨ w.heap.size ≤ k_) ∧ some k_ ≠ (v595 : Value).ownBlock ∧ some k_ ≠ (u10 : Value).ownBlock ∧ some k_ ≠ (u12 : Value).ownBlock ∧ k_ ≠ gb593) (.slice A0_5 l0_5.length c0_5) l0_5) ∧ Aside0 (Kd.V (Kd.slice 3 (Kd.int .i64)) 30 w' w.heap.size (fun k_ => ((P0_3_ k_ ∨ P0_4_ k_ ∨ P0_5_ k_ ∨ P0_7_ k_) ∨ w.heap.size ≤ k_) ∧ some k_ ≠ (v595 : Value).ownBlock ∧ some k_ ≠ (u10 : Value).ownBlock ∧ some k_ ≠ (u12 : Value).ownBlock ∧ k_ ≠ gb593) (.slice A0_7 l0_7.length c0_7) l0_7) ∧ Aside0 (w'.heap[gb593]? = some (.cells #[.int .i64 a0_0, (.slice A0_1 l0_1.length c0_1), (.slice A0_2 l0_2.length c0_2), (.slice A0_3 l0_3.length c0_3), (.slice A0_4 l0_4.length c0_4), (.slice A0_5 l0_5.length c0_5), .int .i64 a0_6, (.slice A0_7 l0_7.length c0_7)] 32 (0, 0))) ∧ Aside0 (Below w.heap.size w w'))
         case atStart => exact ⟨(false), (0), eq_, eq_, H', ⟨Nat.le_refl _⟩, ⟨by refine vN_ ?_; exact HO_8.out⟩, ⟨by refine vN_ ?_; exact HO_10.out⟩, ⟨by refine vR_ ?_; exact HO_12.out⟩, ⟨by refine vV_ ?_; exact HO_594003.out⟩, ⟨by refine vV_ ?_; exact HO_594004.out⟩, ⟨by refine vV_ ?_; exact HO_594005.out⟩, ⟨by refine vV_ ?_; exact HO_594007.out⟩, ⟨by refine bk_ ?_; exact BK593.out⟩, ⟨bel_⟩⟩
         case round =>
          clear H'
          try clear c1
          try clear p2
          try clear c5
          try clear p5
          try clear q5
          try clear hx5
          try clear c8
          try clear c8b0
          try clear c9
          try clear c9b0
          try clear c10
          try clear c10b0
          try clear c11
          try clear c11b0
          try clear hx598_0
          try clear p2
          try clear p598
          try clear q598
          obtain ⟨x14_3, x15_3, rfl, rfl, HA, HK3, HO_8, HO_10, HO_12, HO_594003, HO_594004, HO_594005, HO_594007, BK593, HB⟩ := hrel
          cases gk with
          | zero => exact absurd HA.out (by simp [jigsawref10_Exact.l2])
          | succ k3 =>
           have H := HA.out
           clear HA
           simp only [jigsawref10_Exact.l2] at H
           by_cases c12 : x15_3 < (t594.length : Int)
           ·
            rw [if_pos c12] at H
            have c12b0 : decide (x15_3 < (t594.length : Int)) = true := decide_eq_true c12
            clear c12
            by_cases c13 : x14_3 = true
            ·
             subst c13
             rw [if_pos rfl] at H
             have H' := Aside0.mk H
             clear H
             obtain ⟨Ao14, co14, eo14⟩ := Kd.N_slice HO_8.out
             subst eo14
             go_wp2
             repeat (go_quiet (fail); try go_wp2)
             go_roundg k3
             case measure => have := HK1.out; have := HK2.out; have := HK3.out; omega
             case rel => exact ⟨(true), (wrap64 (x15_3 + 1)), eq_, eq_, H', ⟨by have := HK1.out; have := HK2.out; have := HK3.out; omega⟩, ⟨by refine vN_ ?_; exact HO_8.out⟩, ⟨by refine vN_ ?_; exact HO_10.out⟩, ⟨by refine vR_ ?_; exact HO_12.out⟩, ⟨by refine vV_ ?_; exact HO_594003.out⟩, ⟨by refine vV_ ?_; exact HO_594004.out⟩, ⟨by refine vV_ ?_; exact HO_594005.out⟩, ⟨by refine vV_ ?_; exact HO_594007.out⟩, ⟨by refine bk_ ?_; exact BK593.out⟩, ⟨bel_⟩⟩
            ·
             replace c13 := Bool.eq_false_iff.mpr c13
             subst c13
             have H1 : (if 0 ≤ x15_3 then (if 0 ≤ x11_1 then (if x11_1 < ((rd_L7 t594 x15_3).length : Int) then (if x11_1 < (l1.length : Int) then (if 0 ≤ x13_2 then (if x13_2 < ((rd_L7 l1 x11_1).length : Int) then (jigsawref10_Exact.l2 k3 l1 t594 x10_1 x11_1 x12_2 x13_2 ((rd (rd_L7 t594 x15_3) x11_1) == (rd (rd_L7 l1 x11_1) x13_2)) (wrap64 (x15_3 + 1))) else (none)) else (none)) else (none)) else (none)) else (none)) else (none)) = some (r1, r2) := by rw [if_neg (show ¬ (false = true) by decide)] at H; exact H
             clear H
             have H := H1
             clear H1
             by_cases c15 : 0 ≤ x15_3
             ·
              rw [if_pos c15] at H
              have c15b0 : decide (0 ≤ x15_3) = true := decide_eq_true c15
              clear c15
              by_cases c16 : 0 ≤ x11_1
              ·
               rw [if_pos c16] at H
               have c16b0 : decide (0 ≤ x11_1) = true := decide_eq_true c16
               clear c16
               by_cases c17 : x11_1 < ((rd_L7 t594 x15_3).length : Int)
               ·
                rw [if_pos c17] at H
                have c17b0 : decide (x11_1 < ((rd_L7 t594 x15_3).length : Int)) = true := decide_eq_true c17
                clear c17
                by_cases c18 : x11_1 < (l1.length : Int)
                ·
                 rw [if_pos c18] at H
                 have c18b0 : decide (x11_1 < (l1.length : Int)) = true := decide_eq_true c18
                 clear c18
                 by_cases c19 : 0 ≤ x13_2
                 ·
                  rw [if_pos c19] at H
                  have c19b0 : decide (0 ≤ x13_2) = true := decide_eq_true c19
                  clear c19
                  by_cases c20 : x13_2 < ((rd_L7 l1 x11_1).length : Int)
                  ·
                   rw [if_pos c20] at H
                   have c20b0 : decide (x13_2 < ((rd_L7 l1 x11_1).length : Int)) = true := decide_eq_true c20
                   clear c20
                   have H' := Aside0.mk H
                   clear H
                   obtain ⟨Ao21, co21, eo21⟩ := Kd.N_slice HO_8.out
                   subst eo21
                   have p602 : 0 ≤ (x15_3 : Int) := dq_
                   have q602 : x15_3 < (t594.length : Int) := dq_
                   obtain ⟨ad602, A602_0, c602_0, e602, hx602_0, hl602_0, hi602_0⟩ := at_L7 (Kd.N_reads' HO_8.out).2.2 x15_3 p602 q602
                   cases e602
                   obtain ⟨ce602, hce602, hMe602, hcc602⟩ := Kd.N_get HO_8.out [] x15_3 p602 (by first | exact q602 | exact dq_ | (have e_ := (Kd.N_reads' HO_8.out).1; omega))
                   obtain ⟨ua602_0, uc602_0, rfl, ul602_0, ge602_0⟩ := Kd.FK_slice_open hMe602
                   have hv602_0 := hcc602 0 _ rfl
                   rw [Nat.add_zero, show ((Kd.slice 3 (Kd.int .i64))).sz = 1 from rfl, Nat.mul_one] at hv602_0
                   replace hv602_0 := Option.some.inj (hv602_0.symm.trans hx602_0)
                   injection hv602_0 with hva_ hvn_ hvc_
                   rw [hva_] at ge602_0
                   rw [hvc_] at ul602_0
                   clear hva_ hvn_ hvc_ ge602_0 ul602_0
                   clear hcc602 hce602
                   have HR602_0 := Aside0.mk hi602_0
                   have HC602_0 := Aside0.mk hl602_0
                   clear hi602_0 hl602_0
                   replace p602 := eq_true p602
                   replace q602 := eq_true q602
                   have p603 : 0 ≤ (x11_1 : Int) := dq_
                   have q603 : x11_1 < ((rd_L7 t594 x15_3).length : Int) := dq_
                   obtain ⟨ad603, e603, hx603_0⟩ := Kd.at_int (by repeat (first | (with_reducible exact HR602_0.out) | (with_reducible refine Kd.C_alloc ?_ _) | (with_reducible refine Kd.C_drewN ?_ _) | (with_reducible refine Kd.C_drew ?_) | exact HR602_0.out)) x11_1 p603 q603
                   cases e603
                   replace p603 := eq_true p603
                   replace q603 := eq_true q603
                   have p604 : 0 ≤ (x11_1 : Int) := dq_
                   have q604 : x11_1 < (l1.length : Int) := dq_
                   obtain ⟨ad604, A604_0, c604_0, e604, hx604_0, hl604_0, hi604_0⟩ := at_L7 HR1.out x11_1 p604 q604
                   obtain rfl : ad598 = ad604 := (by injection e604)
                   replace hx604_0 := (HB.out.cell (World.block_lt_of_cell? w _ hx604_0)).trans hx604_0
                   have HR604_0 := Aside0.mk hi604_0
                   have HC604_0 := Aside0.mk hl604_0
                   clear hi604_0 hl604_0
                   replace p604 := eq_true p604
                   replace q604 := eq_true q604
                   have p605 : 0 ≤ (x13_2 : Int) := dq_
                   have q605 : x13_2 < ((rd_L7 l1 x11_1).length : Int) := dq_
                   obtain ⟨ad605, e605, hx605_0⟩ := Kd.at_int HR604_0.out x13_2 p605 q605
                   cases e605
                   replace hx605_0 := (HB.out.cell (World.block_lt_of_cell? w _ hx605_0)).trans hx605_0
                   replace p605 := eq_true p605
                   replace q605 := eq_true q605
                   go_wp2
                   repeat (go_quiet (fail); try go_wp2)
                   go_roundg k3
                   case measure => have := HK1.out; have := HK2.out; have := HK3.out; omega
                   case rel => exact ⟨(((rd (rd_L7 t594 x15_3) x11_1) == (rd (rd_L7 l1 x11_1) x13_2))), (wrap64 (x15_3 + 1)), eq_, eq_, H', ⟨by have := HK1.out; have := HK2.out; have := HK3.out; omega⟩, ⟨by refine vN_ ?_; exact HO_8.out⟩, ⟨by refine vN_ ?_; exact HO_10.out⟩, ⟨by refine vR_ ?_; exact HO_12.out⟩, ⟨by refine vV_ ?_; exact HO_594003.out⟩, ⟨by refine vV_ ?_; exact HO_594004.out⟩, ⟨by refine vV_ ?_; exact HO_594005.out⟩, ⟨by refine vV_ ?_; exact HO_594007.out⟩, ⟨by refine bk_ ?_; exact BK593.out⟩, ⟨bel_⟩⟩
                  ·
                   rw [if_neg c20] at H
                   exact absurd H (by simp)
                 ·
                  rw [if_neg c19] at H
                  exact absurd H (by simp)
                ·
                 rw [if_neg c18] at H
                 exact absurd H (by simp)
               ·
                rw [if_neg c17] at H
                exact absurd H (by simp)
              ·
               rw [if_neg c16] at H
               exact absurd H (by simp)
             ·
              rw [if_neg c15] at H
              exact absurd H (by simp)
           ·
            rw [if_neg c12] at H
            have c12b0 : decide (x15_3 < (t594.length : Int)) = false := decide_eq_false c12
            clear c12
            by_cases c22 : x14_3 = true
            ·
             subst c22
             rw [if_pos rfl] at H
             by_cases c23 : 0 ≤ x11_1
             ·
              rw [if_pos c23] at H
              have c23b0 : decide (0 ≤ x11_1) = true := decide_eq_true c23
              clear c23
              by_cases c24 : x11_1 < (l1.length : Int)
              ·
               rw [if_pos c24] at H
               have c24b0 : decide (x11_1 < (l1.length : Int)) = true := decide_eq_true c24
               clear c24
               by_cases c25 : 0 ≤ x13_2
               ·
                rw [if_pos c25] at H
                have c25b0 : decide (0 ≤ x13_2) = true := decide_eq_true c25
                clear c25
                by_cases c26 : x13_2 < ((rd_L7 l1 x11_1).length : Int)
                ·
                 rw [if_pos c26] at H
                 have c26b0 : decide (x13_2 < ((rd_L7 l1 x11_1).length : Int)) = true := decide_eq_true c26
                 clear c26
                 by_cases c27 : x12_2.length < 17592186044416
                 ·
                  rw [if_pos c27] at H
                  have LMc27 := Aside0.mk c27
                  clear c27
                  obtain ⟨y608, hy608⟩ : ∃ y_ : List Int, y_ = (x12_2 ++ [rd (rd_L7 l1 x11_1) x13_2]) := ⟨_, rfl⟩
                  replace H : (jigsawref10_Exact.l1 k3 l1 t594 x10_1 x11_1 y608 (wrap64 (x13_2 + 1))) = some (r1, r2) := by first | (rw [hy608]; with_reducible exact H) | (have H2_ := (Option.bind_some _ _).symm.trans H; rw [hy608]; with_reducible exact H2_) | (have H2_ := (Option.bind_some _ _).symm.trans H; with_reducible exact H2_) | with_reducible exact H | (rw [hy608]; exact H) | exact H
                  have Ny608 := Aside0.mk hy608
                  clear hy608
                  have H' := Aside0.mk H
                  clear H
                  obtain ⟨Ao28, co28, eo28⟩ := Kd.N_slice HO_8.out
                  subst eo28
                  have p606 : 0 ≤ (x11_1 : Int) := dq_
                  have q606 : x11_1 < (l1.length : Int) := dq_
                  obtain ⟨ad606, A606_0, c606_0, e606, hx606_0, hl606_0, hi606_0⟩ := at_L7 HR1.out x11_1 p606 q606
                  obtain rfl : ad598 = ad606 := (by injection e606)
                  replace hx606_0 := (HB.out.cell (World.block_lt_of_cell? w _ hx606_0)).trans hx606_0
                  have HR606_0 := Aside0.mk hi606_0
                  have HC606_0 := Aside0.mk hl606_0
                  clear hi606_0 hl606_0
                  replace p606 := eq_true p606
                  replace q606 := eq_true q606
                  have p607 : 0 ≤ (x13_2 : Int) := dq_
                  have q607 : x13_2 < ((rd_L7 l1 x11_1).length : Int) := dq_
                  obtain ⟨ad607, e607, hx607_0⟩ := Kd.at_int HR606_0.out x13_2 p607 q607
                  cases e607
                  replace hx607_0 := (HB.out.cell (World.block_lt_of_cell? w _ hx607_0)).trans hx607_0
                  replace p607 := eq_true p607
                  replace q607 := eq_true q607
                  go_wp2_with (first | ((with_reducible refine gate_builtin (b := .append) (xs := #[.tmp 63, .tmp 71]) rfl ?_); at_builtin; refine Kd.R_append (Kd.int .i64) (w0 := w) w.heap.size rfl (.tmp 63) (.tmp 71) 30 3 (.int .i64 0) 8 rfl Tryz.underlying30 info3 rfl (by decide) (by omega) u12 x12_2 (rd (rd_L7 l1 x11_1) x13_2) [.int .i64 (rd (rd_L7 l1 x11_1) x13_2)] (fun k_ => (w.heap.size ≤ k_)) (fun _ => False) rfl rfl ?aP (fun _ hk => hk.elim) ?aF ?aO ?aB ?aS ?aL ?_; (case aP => exact rfl); (case aB => exact bel_); (case aF => exact (fun k_ hk => (Nat.le_trans (below_size bel_) hk))); (case aO => exact (vR_ HO_12.out)); (case aS => exact (below_size bel_)); (case aL => have := LMc27.out; omega); intro v609 w29 ho hb hg hat; rw [← Ny608.out] at ho; replace HO_8 := Aside0.mk (Kd.N_afterv (ok := (fun k_ => ((P0_3_ k_ ∨ P0_4_ k_ ∨ P0_5_ k_ ∨ P0_7_ k_) ∨ w.heap.size ≤ k_) ∧ some k_ ≠ (u10 : Value).ownBlock ∧ k_ ≠ gb593)) (by refine vN_ ?_; exact Kd.N_mono HO_8.out (fun _ hk => ⟨⟨hk.1, ⟨hk.2.1, hk.2.2.2⟩⟩, hk.2.2.1⟩)) hg hat); replace HO_10 := Aside0.mk (Kd.N_afterv (ok := (fun k_ => ((P0_3_ k_ ∨ P0_4_ k_ ∨ P0_5_ k_ ∨ P0_7_ k_) ∨ w.heap.size ≤ k_) ∧ some k_ ≠ (.slice Ao28 t594.length co28 : Value).ownBlock ∧ k_ ≠ gb593)) (by refine vN_ ?_; exact Kd.N_mono HO_10.out (fun _ hk => ⟨⟨hk.1, ⟨hk.2.1, hk.2.2.2⟩⟩, hk.2.2.1⟩)) hg hat); replace HO_594003 := Aside0.mk (Kd.V_afterv (ok := (fun k_ => ((P0_3_ k_ ∨ P0_4_ k_ ∨ P0_5_ k_ ∨ P0_7_ k_) ∨ w.heap.size ≤ k_) ∧ some k_ ≠ (.slice Ao28 t594.length co28 : Value).ownBlock ∧ some k_ ≠ (u10 : Value).ownBlock ∧ k_ ≠ gb593)) (by refine vV_ ?_; exact Kd.V_mono HO_594003.out (fun _ hk => ⟨⟨hk.1, ⟨hk.2.1, ⟨hk.2.2.1, hk.2.2.2.2⟩⟩⟩, hk.2.2.2.1⟩)) hg hat); replace HO_594004 := Aside0.mk (Kd.V_afterv (ok := (fun k_ => ((P0_3_ k_ ∨ P0_4_ k_ ∨ P0_5_ k_ ∨ P0_7_ k_) ∨ w.heap.size ≤ k_) ∧ some k_ ≠ (.slice Ao28 t594.length co28 : Value).ownBlock ∧ some k_ ≠ (u10 : Value).ownBlock ∧ k_ ≠ gb593)) (by refine vV_ ?_; exact Kd.V_mono HO_594004.out (fun _ hk => ⟨⟨hk.1, ⟨hk.2.1, ⟨hk.2.2.1, hk.2.2.2.2⟩⟩⟩, hk.2.2.2.1⟩)) hg hat); replace HO_594005 := Aside0.mk (Kd.V_afterv (ok := (fun k_ => ((P0_3_ k_ ∨ P0_4_ k_ ∨ P0_5_ k_ ∨ P0_7_ k_) ∨ w.heap.size ≤ k_) ∧ some k_ ≠ (.slice Ao28 t594.length co28 : Value).ownBlock ∧ some k_ ≠ (u10 : Value).ownBlock ∧ k_ ≠ gb593)) (by refine vV_ ?_; exact Kd.V_mono HO_594005.out (fun _ hk => ⟨⟨hk.1, ⟨hk.2.1, ⟨hk.2.2.1, hk.2.2.2.2⟩⟩⟩, hk.2.2.2.1⟩)) hg hat); replace HO_594007 := Aside0.mk (Kd.V_afterv (ok := (fun k_ => ((P0_3_ k_ ∨ P0_4_ k_ ∨ P0_5_ k_ ∨ P0_7_ k_) ∨ w.heap.size ≤ k_) ∧ some k_ ≠ (.slice Ao28 t594.length co28 : Value).ownBlock ∧ some k_ ≠ (u10 : Value).ownBlock ∧ k_ ≠ gb593)) (by refine vV_ ?_; exact Kd.V_mono HO_594007.out (fun _ hk => ⟨⟨hk.1, ⟨hk.2.1, ⟨hk.2.2.1, hk.2.2.2.2⟩⟩⟩, hk.2.2.2.1⟩)) hg hat); replace BK593 := Aside0.mk (blk_grown (bk_ BK593.out) hg (Kd.R_ne HO_12.out BK593.out (by decide))); replace HB := Aside0.mk (hb); have HO610 := Aside0.mk (ho); clear HO_12; clear ho hb hg hat))
                  repeat (go_quiet (first | ((with_reducible refine gate_builtin (b := .append) (xs := #[.tmp 63, .tmp 71]) rfl ?_); at_builtin; refine Kd.R_append (Kd.int .i64) (w0 := w) w.heap.size rfl (.tmp 63) (.tmp 71) 30 3 (.int .i64 0) 8 rfl Tryz.underlying30 info3 rfl (by decide) (by omega) u12 x12_2 (rd (rd_L7 l1 x11_1) x13_2) [.int .i64 (rd (rd_L7 l1 x11_1) x13_2)] (fun k_ => (w.heap.size ≤ k_)) (fun _ => False) rfl rfl ?aP (fun _ hk => hk.elim) ?aF ?aO ?aB ?aS ?aL ?_; (case aP => exact rfl); (case aB => exact bel_); (case aF => exact (fun k_ hk => (Nat.le_trans (below_size bel_) hk))); (case aO => exact (vR_ HO_12.out)); (case aS => exact (below_size bel_)); (case aL => have := LMc27.out; omega); intro v609 w29 ho hb hg hat; rw [← Ny608.out] at ho; replace HO_8 := Aside0.mk (Kd.N_afterv (ok := (fun k_ => ((P0_3_ k_ ∨ P0_4_ k_ ∨ P0_5_ k_ ∨ P0_7_ k_) ∨ w.heap.size ≤ k_) ∧ some k_ ≠ (u10 : Value).ownBlock ∧ k_ ≠ gb593)) (by refine vN_ ?_; exact Kd.N_mono HO_8.out (fun _ hk => ⟨⟨hk.1, ⟨hk.2.1, hk.2.2.2⟩⟩, hk.2.2.1⟩)) hg hat); replace HO_10 := Aside0.mk (Kd.N_afterv (ok := (fun k_ => ((P0_3_ k_ ∨ P0_4_ k_ ∨ P0_5_ k_ ∨ P0_7_ k_) ∨ w.heap.size ≤ k_) ∧ some k_ ≠ (.slice Ao28 t594.length co28 : Value).ownBlock ∧ k_ ≠ gb593)) (by refine vN_ ?_; exact Kd.N_mono HO_10.out (fun _ hk => ⟨⟨hk.1, ⟨hk.2.1, hk.2.2.2⟩⟩, hk.2.2.1⟩)) hg hat); replace HO_594003 := Aside0.mk (Kd.V_afterv (ok := (fun k_ => ((P0_3_ k_ ∨ P0_4_ k_ ∨ P0_5_ k_ ∨ P0_7_ k_) ∨ w.heap.size ≤ k_) ∧ some k_ ≠ (.slice Ao28 t594.length co28 : Value).ownBlock ∧ some k_ ≠ (u10 : Value).ownBlock ∧ k_ ≠ gb593)) (by refine vV_ ?_; exact Kd.V_mono HO_594003.out (fun _ hk => ⟨⟨hk.1, ⟨hk.2.1, ⟨hk.2.2.1, hk.2.2.2.2⟩⟩⟩, hk.2.2.2.1⟩)) hg hat); replace HO_594004 := Aside0.mk (Kd.V_afterv (ok := (fun k_ => ((P0_3_ k_ ∨ P0_4_ k_ ∨ P0_5_ k_ ∨ P0_7_ k_) ∨ w.heap.size ≤ k_) ∧ some k_ ≠ (.slice Ao28 t594.length co28 : Value).ownBlock ∧ some k_ ≠ (u10 : Value).ownBlock ∧ k_ ≠ gb593)) (by refine vV_ ?_; exact Kd.V_mono HO_594004.out (fun _ hk => ⟨⟨hk.1, ⟨hk.2.1, ⟨hk.2.2.1, hk.2.2.2.2⟩⟩⟩, hk.2.2.2.1⟩)) hg hat); replace HO_594005 := Aside0.mk (Kd.V_afterv (ok := (fun k_ => ((P0_3_ k_ ∨ P0_4_ k_ ∨ P0_5_ k_ ∨ P0_7_ k_) ∨ w.heap.size ≤ k_) ∧ some k_ ≠ (.slice Ao28 t594.length co28 : Value).ownBlock ∧ some k_ ≠ (u10 : Value).ownBlock ∧ k_ ≠ gb593)) (by refine vV_ ?_; exact Kd.V_mono HO_594005.out (fun _ hk => ⟨⟨hk.1, ⟨hk.2.1, ⟨hk.2.2.1, hk.2.2.2.2⟩⟩⟩, hk.2.2.2.1⟩)) hg hat); replace HO_594007 := Aside0.mk (Kd.V_afterv (ok := (fun k_ => ((P0_3_ k_ ∨ P0_4_ k_ ∨ P0_5_ k_ ∨ P0_7_ k_) ∨ w.heap.size ≤ k_) ∧ some k_ ≠ (.slice Ao28 t594.length co28 : Value).ownBlock ∧ some k_ ≠ (u10 : Value).ownBlock ∧ k_ ≠ gb593)) (by refine vV_ ?_; exact Kd.V_mono HO_594007.out (fun _ hk => ⟨⟨hk.1, ⟨hk.2.1, ⟨hk.2.2.1, hk.2.2.2.2⟩⟩⟩, hk.2.2.2.1⟩)) hg hat); replace BK593 := Aside0.mk (blk_grown (bk_ BK593.out) hg (Kd.R_ne HO_12.out BK593.out (by decide))); replace HB := Aside0.mk (hb); have HO610 := Aside0.mk (ho); clear HO_12; clear ho hb hg hat)); try go_wp2_with (first | ((with_reducible refine gate_builtin (b := .append) (xs := #[.tmp 63, .tmp 71]) rfl ?_); at_builtin; refine Kd.R_append (Kd.int .i64) (w0 := w) w.heap.size rfl (.tmp 63) (.tmp 71) 30 3 (.int .i64 0) 8 rfl Tryz.underlying30 info3 rfl (by decide) (by omega) u12 x12_2 (rd (rd_L7 l1 x11_1) x13_2) [.int .i64 (rd (rd_L7 l1 x11_1) x13_2)] (fun k_ => (w.heap.size ≤ k_)) (fun _ => False) rfl rfl ?aP (fun _ hk => hk.elim) ?aF ?aO ?aB ?aS ?aL ?_; (case aP => exact rfl); (case aB => exact bel_); (case aF => exact (fun k_ hk => (Nat.le_trans (below_size bel_) hk))); (case aO => exact (vR_ HO_12.out)); (case aS => exact (below_size bel_)); (case aL => have := LMc27.out; omega); intro v609 w29 ho hb hg hat; rw [← Ny608.out] at ho; replace HO_8 := Aside0.mk (Kd.N_afterv (ok := (fun k_ => ((P0_3_ k_ ∨ P0_4_ k_ ∨ P0_5_ k_ ∨ P0_7_ k_) ∨ w.heap.size ≤ k_) ∧ some k_ ≠ (u10 : Value).ownBlock ∧ k_ ≠ gb593)) (by refine vN_ ?_; exact Kd.N_mono HO_8.out (fun _ hk => ⟨⟨hk.1, ⟨hk.2.1, hk.2.2.2⟩⟩, hk.2.2.1⟩)) hg hat); replace HO_10 := Aside0.mk (Kd.N_afterv (ok := (fun k_ => ((P0_3_ k_ ∨ P0_4_ k_ ∨ P0_5_ k_ ∨ P0_7_ k_) ∨ w.heap.size ≤ k_) ∧ some k_ ≠ (.slice Ao28 t594.length co28 : Value).ownBlock ∧ k_ ≠ gb593)) (by refine vN_ ?_; exact Kd.N_mono HO_10.out (fun _ hk => ⟨⟨hk.1, ⟨hk.2.1, hk.2.2.2⟩⟩, hk.2.2.1⟩)) hg hat); replace HO_594003 := Aside0.mk (Kd.V_afterv (ok := (fun k_ => ((P0_3_ k_ ∨ P0_4_ k_ ∨ P0_5_ k_ ∨ P0_7_ k_) ∨ w.heap.size ≤ k_) ∧ some k_ ≠ (.slice Ao28 t594.length co28 : Value).ownBlock ∧ some k_ ≠ (u10 : Value).ownBlock ∧ k_ ≠ gb593)) (by refine vV_ ?_; exact Kd.V_mono HO_594003.out (fun _ hk => ⟨⟨hk.1, ⟨hk.2.1, ⟨hk.2.2.1, hk.2.2.2.2⟩⟩⟩, hk.2.2.2.1⟩)) hg hat); replace HO_594004 := Aside0.mk (Kd.V_afterv (ok := (fun k_ => ((P0_3_ k_ ∨ P0_4_ k_ ∨ P0_5_ k_ ∨ P0_7_ k_) ∨ w.heap.size ≤ k_) ∧ some k_ ≠ (.slice Ao28 t594.length co28 : Value).ownBlock ∧ some k_ ≠ (u10 : Value).ownBlock ∧ k_ ≠ gb593)) (by refine vV_ ?_; exact Kd.V_mono HO_594004.out (fun _ hk => ⟨⟨hk.1, ⟨hk.2.1, ⟨hk.2.2.1, hk.2.2.2.2⟩⟩⟩, hk.2.2.2.1⟩)) hg hat); replace HO_594005 := Aside0.mk (Kd.V_afterv (ok := (fun k_ => ((P0_3_ k_ ∨ P0_4_ k_ ∨ P0_5_ k_ ∨ P0_7_ k_) ∨ w.heap.size ≤ k_) ∧ some k_ ≠ (.slice Ao28 t594.length co28 : Value).ownBlock ∧ some k_ ≠ (u10 : Value).ownBlock ∧ k_ ≠ gb593)) (by refine vV_ ?_; exact Kd.V_mono HO_594005.out (fun _ hk => ⟨⟨hk.1, ⟨hk.2.1, ⟨hk.2.2.1, hk.2.2.2.2⟩⟩⟩, hk.2.2.2.1⟩)) hg hat); replace HO_594007 := Aside0.mk (Kd.V_afterv (ok := (fun k_ => ((P0_3_ k_ ∨ P0_4_ k_ ∨ P0_5_ k_ ∨ P0_7_ k_) ∨ w.heap.size ≤ k_) ∧ some k_ ≠ (.slice Ao28 t594.length co28 : Value).ownBlock ∧ some k_ ≠ (u10 : Value).ownBlock ∧ k_ ≠ gb593)) (by refine vV_ ?_; exact Kd.V_mono HO_594007.out (fun _ hk => ⟨⟨hk.1, ⟨hk.2.1, ⟨hk.2.2.1, hk.2.2.2.2⟩⟩⟩, hk.2.2.2.1⟩)) hg hat); replace BK593 := Aside0.mk (blk_grown (bk_ BK593.out) hg (Kd.R_ne HO_12.out BK593.out (by decide))); replace HB := Aside0.mk (hb); have HO610 := Aside0.mk (ho); clear HO_12; clear ho hb hg hat)))
                  go_roundg k3
                  case measure => have := HK1.out; have := HK2.out; have := HK3.out; omega
                  case rel => exact ⟨(y608), (wrap64 (x13_2 + 1)), eq_, H', ⟨by have := HK1.out; have := HK2.out; have := HK3.out; omega⟩, ⟨by refine vN_ ?_; exact Kd.N_mono HO_8.out (fun _ hk => ⟨hk.1.1, ⟨hk.1.2.1, ⟨hk.2, hk.1.2.2⟩⟩⟩)⟩, ⟨by refine vN_ ?_; exact Kd.N_mono HO_10.out (fun _ hk => ⟨hk.1.1, ⟨hk.1.2.1, ⟨hk.2, hk.1.2.2⟩⟩⟩)⟩, ⟨by refine vR_ ?_; exact HO610.out⟩, ⟨by refine vV_ ?_; exact Kd.V_mono HO_594003.out (fun _ hk => ⟨hk.1.1, ⟨hk.1.2.1, ⟨hk.1.2.2.1, ⟨hk.2, hk.1.2.2.2⟩⟩⟩⟩)⟩, ⟨by refine vV_ ?_; exact Kd.V_mono HO_594004.out (fun _ hk => ⟨hk.1.1, ⟨hk.1.2.1, ⟨hk.1.2.2.1, ⟨hk.2, hk.1.2.2.2⟩⟩⟩⟩)⟩, ⟨by refine vV_ ?_; exact Kd.V_mono HO_594005.out (fun _ hk => ⟨hk.1.1, ⟨hk.1.2.1, ⟨hk.1.2.2.1, ⟨hk.2, hk.1.2.2.2⟩⟩⟩⟩)⟩, ⟨by refine vV_ ?_; exact Kd.V_mono HO_594007.out (fun _ hk => ⟨hk.1.1, ⟨hk.1.2.1, ⟨hk.1.2.2.1, ⟨hk.2, hk.1.2.2.2⟩⟩⟩⟩)⟩, ⟨by refine bk_ ?_; exact BK593.out⟩, ⟨bel_⟩⟩
                 ·
                  rw [if_neg c27] at H
                  exact absurd H (by simp)
                ·
                 rw [if_neg c26] at H
                 exact absurd H (by simp)
               ·
                rw [if_neg c25] at H
                exact absurd H (by simp)
              ·
               rw [if_neg c24] at H
               exact absurd H (by simp)
             ·
              rw [if_neg c23] at H
              exact absurd H (by simp)
            ·
             replace c22 := Bool.eq_false_iff.mpr c22
             subst c22
             have H1 : (jigsawref10_Exact.l1 k3 l1 t594 x10_1 x11_1 x12_2 (wrap64 (x13_2 + 1))) = some (r1, r2) := by rw [if_neg (show ¬ (false = true) by decide)] at H; exact H
             clear H
             have H := H1
             clear H1
             have H' := Aside0.mk H
             clear H
             obtain ⟨Ao30, co30, eo30⟩ := Kd.N_slice HO_8.out
             subst eo30
             go_wp2
             repeat (go_quiet (fail); try go_wp2)
             go_roundg k3
             case measure => have := HK1.out; have := HK2.out; have := HK3.out; omega
             case rel => exact ⟨(x12_2), (wrap64 (x13_2 + 1)), eq_, H', ⟨by have := HK1.out; have := HK2.out; have := HK3.out; omega⟩, ⟨by refine vN_ ?_; exact HO_8.out⟩, ⟨by refine vN_ ?_; exact HO_10.out⟩, ⟨by refine vR_ ?_; exact HO_12.out⟩, ⟨by refine vV_ ?_; exact HO_594003.out⟩, ⟨by refine vV_ ?_; exact HO_594004.out⟩, ⟨by refine vV_ ?_; exact HO_594005.out⟩, ⟨by refine vV_ ?_; exact HO_594007.out⟩, ⟨by refine bk_ ?_; exact BK593.out⟩, ⟨bel_⟩⟩
        ·
         rw [if_neg c11] at H
         have c11b0 : decide (x13_2 < ((rd_L7 l1 x11_1).length : Int)) = false := decide_eq_false c11
         clear c11
         by_cases c31 : x10_1.length < 5864062014805
         ·
          rw [if_pos c31] at H
          have LMc31 := Aside0.mk c31
          clear c31
          obtain ⟨y599, hy599⟩ : ∃ y_ : List (List Int), y_ = (x10_1 ++ [x12_2]) := ⟨_, rfl⟩
          replace H : (jigsawref10_Exact.l0 k2 l1 t594 y599 (wrap64 (x11_1 + 1))) = some (r1, r2) := by first | (rw [hy599]; with_reducible exact H) | (have H2_ := (Option.bind_some _ _).symm.trans H; rw [hy599]; with_reducible exact H2_) | (have H2_ := (Option.bind_some _ _).symm.trans H; with_reducible exact H2_) | with_reducible exact H | (rw [hy599]; exact H) | exact H
          have Ny599 := Aside0.mk hy599
          clear hy599
          have H' := Aside0.mk H
          clear H
          have p598 : 0 ≤ (x11_1 : Int) := dq_
          have q598 : x11_1 < (l1.length : Int) := dq_
          obtain ⟨ad598, A598_0, c598_0, e598, hx598_0, hl598_0, hi598_0⟩ := at_L7 HR1.out x11_1 p598 q598
          cases e598
          replace hx598_0 := (HB.out.cell (World.block_lt_of_cell? w _ hx598_0)).trans hx598_0
          have HC598_0 := Aside0.mk hl598_0
          clear hi598_0 hl598_0
          replace p598 := eq_true p598
          replace q598 := eq_true q598
          obtain ⟨Ao33, co33, eo33⟩ := Kd.R_slice HO_12.out
          subst eo33
          go_wp2_with (first | ((with_reducible refine gate_builtin (b := .append) (xs := #[.tmp 73, .tmp 75]) rfl ?_); at_builtin; refine Kd.N_append (Kd.slice 3 (Kd.int .i64)) (w0 := w) w.heap.size rfl (.tmp 73) (.tmp 75) 27 30 (.slice none 0 0) 24 rfl Tryz.underlying27 info30 rfl (by decide) (by omega) u10 x10_1 x12_2 [.slice Ao33 x12_2.length co33] (fun k_ => ((P0_3_ k_ ∨ P0_4_ k_ ∨ P0_5_ k_ ∨ P0_7_ k_) ∨ w.heap.size ≤ k_) ∧ some k_ ≠ (v595 : Value).ownBlock ∧ k_ ≠ gb593) (fun k_ => ((fun k_ => ((P0_3_ k_ ∨ P0_4_ k_ ∨ P0_5_ k_ ∨ P0_7_ k_) ∨ w.heap.size ≤ k_) ∧ some k_ ≠ (v595 : Value).ownBlock ∧ k_ ≠ gb593)) k_ ∧ some k_ ≠ (u10 : Value).ownBlock) rfl rfl ?aP (fun _ hk => hk) ?aF ?aO ?aB ?aS ?aL ?_; (case aP => exact (Kd.FK_slice_mk (Kd.R_reads' (Kd.R_mono (ok' := (fun k_ => ((fun k_ => ((P0_3_ k_ ∨ P0_4_ k_ ∨ P0_5_ k_ ∨ P0_7_ k_) ∨ w.heap.size ≤ k_) ∧ some k_ ≠ (v595 : Value).ownBlock ∧ k_ ≠ gb593)) k_ ∧ some k_ ≠ (u10 : Value).ownBlock)) (Kd.R_types (Kd.R_apart' (Kd.R_apart' (HO_12.out) (Kd.N_typed HO_8.out) (by decide)) (Kd.N_typed HO_10.out) (by decide)) BK593.out (by decide)) (fun k_ hk => ⟨⟨(.inr (hk.1.1.1)), ⟨hk.1.1.2, hk.2⟩⟩, hk.1.2⟩))).2.1 (Kd.R_F (Kd.R_mono (ok' := (fun k_ => ((fun k_ => ((P0_3_ k_ ∨ P0_4_ k_ ∨ P0_5_ k_ ∨ P0_7_ k_) ∨ w.heap.size ≤ k_) ∧ some k_ ≠ (v595 : Value).ownBlock ∧ k_ ≠ gb593)) k_ ∧ some k_ ≠ (u10 : Value).ownBlock)) (Kd.R_types (Kd.R_apart' (Kd.R_apart' (HO_12.out) (Kd.N_typed HO_8.out) (by decide)) (Kd.N_typed HO_10.out) (by decide)) BK593.out (by decide)) (fun k_ hk => ⟨⟨(.inr (hk.1.1.1)), ⟨hk.1.1.2, hk.2⟩⟩, hk.1.2⟩))))); (case aB => exact bel_); (case aF => exact (fun k_ hk => ⟨(.inr (Nat.le_trans (below_size bel_) hk)), Kd.fresh' (Kd.N_lt (vN_ HO_8.out)) k_ hk, Kd.freshB (bk_ BK593.out) k_ hk⟩)); (case aO => exact (by refine vN_ ?_; exact Kd.N_mono HO_10.out (fun _ hk => ⟨hk.1, ⟨hk.2.1, hk.2.2.2⟩⟩))); (case aS => exact (below_size bel_)); (case aL => have := LMc31.out; omega); intro v600 w32 ho hb hg hat; rw [← Ny599.out] at ho; replace HO_8 := Aside0.mk (Kd.N_afterv (ok := (fun k_ => ((P0_3_ k_ ∨ P0_4_ k_ ∨ P0_5_ k_ ∨ P0_7_ k_) ∨ w.heap.size ≤ k_) ∧ some k_ ≠ (.slice Ao33 x12_2.length co33 : Value).ownBlock ∧ k_ ≠ gb593)) (by refine vN_ ?_; exact Kd.N_mono HO_8.out (fun _ hk => ⟨⟨hk.1, ⟨hk.2.2.1, hk.2.2.2⟩⟩, hk.2.1⟩)) hg hat); replace HO_594003 := Aside0.mk (Kd.V_afterv (ok := (fun k_ => ((P0_3_ k_ ∨ P0_4_ k_ ∨ P0_5_ k_ ∨ P0_7_ k_) ∨ w.heap.size ≤ k_) ∧ some k_ ≠ (v595 : Value).ownBlock ∧ some k_ ≠ (.slice Ao33 x12_2.length co33 : Value).ownBlock ∧ k_ ≠ gb593)) (by refine vV_ ?_; exact Kd.V_mono HO_594003.out (fun _ hk => ⟨⟨hk.1, ⟨hk.2.1, ⟨hk.2.2.2.1, hk.2.2.2.2⟩⟩⟩, hk.2.2.1⟩)) hg hat); replace HO_594004 := Aside0.mk (Kd.V_afterv (ok := (fun k_ => ((P0_3_ k_ ∨ P0_4_ k_ ∨ P0_5_ k_ ∨ P0_7_ k_) ∨ w.heap.size ≤ k_) ∧ some k_ ≠ (v595 : Value).ownBlock ∧ some k_ ≠ (.slice Ao33 x12_2.length co33 : Value).ownBlock ∧ k_ ≠ gb593)) (by refine vV_ ?_; exact Kd.V_mono HO_594004.out (fun _ hk => ⟨⟨hk.1, ⟨hk.2.1, ⟨hk.2.2.2.1, hk.2.2.2.2⟩⟩⟩, hk.2.2.1⟩)) hg hat); replace HO_594005 := Aside0.mk (Kd.V_afterv (ok := (fun k_ => ((P0_3_ k_ ∨ P0_4_ k_ ∨ P0_5_ k_ ∨ P0_7_ k_) ∨ w.heap.size ≤ k_) ∧ some k_ ≠ (v595 : Value).ownBlock ∧ some k_ ≠ (.slice Ao33 x12_2.length co33 : Value).ownBlock ∧ k_ ≠ gb593)) (by refine vV_ ?_; exact Kd.V_mono HO_594005.out (fun _ hk => ⟨⟨hk.1, ⟨hk.2.1, ⟨hk.2.2.2.1, hk.2.2.2.2⟩⟩⟩, hk.2.2.1⟩)) hg hat); replace HO_594007 := Aside0.mk (Kd.V_afterv (ok := (fun k_ => ((P0_3_ k_ ∨ P0_4_ k_ ∨ P0_5_ k_ ∨ P0_7_ k_) ∨ w.heap.size ≤ k_) ∧ some k_ ≠ (v595 : Value).ownBlock ∧ some k_ ≠ (.slice Ao33 x12_2.length co33 : Value).ownBlock ∧ k_ ≠ gb593)) (by refine vV_ ?_; exact Kd.V_mono HO_594007.out (fun _ hk => ⟨⟨hk.1, ⟨hk.2.1, ⟨hk.2.2.2.1, hk.2.2.2.2⟩⟩⟩, hk.2.2.1⟩)) hg hat); replace BK593 := Aside0.mk (blk_grown (bk_ BK593.out) hg (Kd.N_ne HO_10.out BK593.out (by decide))); replace HB := Aside0.mk (hb); have HO601 := Aside0.mk (ho); clear HO_10 HO_12; clear ho hb hg hat))
          repeat (go_quiet (first | ((with_reducible refine gate_builtin (b := .append) (xs := #[.tmp 73, .tmp 75]) rfl ?_); at_builtin; refine Kd.N_append (Kd.slice 3 (Kd.int .i64)) (w0 := w) w.heap.size rfl (.tmp 73) (.tmp 75) 27 30 (.slice none 0 0) 24 rfl Tryz.underlying27 info30 rfl (by decide) (by omega) u10 x10_1 x12_2 [.slice Ao33 x12_2.length co33] (fun k_ => ((P0_3_ k_ ∨ P0_4_ k_ ∨ P0_5_ k_ ∨ P0_7_ k_) ∨ w.heap.size ≤ k_) ∧ some k_ ≠ (v595 : Value).ownBlock ∧ k_ ≠ gb593) (fun k_ => ((fun k_ => ((P0_3_ k_ ∨ P0_4_ k_ ∨ P0_5_ k_ ∨ P0_7_ k_) ∨ w.heap.size ≤ k_) ∧ some k_ ≠ (v595 : Value).ownBlock ∧ k_ ≠ gb593)) k_ ∧ some k_ ≠ (u10 : Value).ownBlock) rfl rfl ?aP (fun _ hk => hk) ?aF ?aO ?aB ?aS ?aL ?_; (case aP => exact (Kd.FK_slice_mk (Kd.R_reads' (Kd.R_mono (ok' := (fun k_ => ((fun k_ => ((P0_3_ k_ ∨ P0_4_ k_ ∨ P0_5_ k_ ∨ P0_7_ k_) ∨ w.heap.size ≤ k_) ∧ some k_ ≠ (v595 : Value).ownBlock ∧ k_ ≠ gb593)) k_ ∧ some k_ ≠ (u10 : Value).ownBlock)) (Kd.R_types (Kd.R_apart' (Kd.R_apart' (HO_12.out) (Kd.N_typed HO_8.out) (by decide)) (Kd.N_typed HO_10.out) (by decide)) BK593.out (by decide)) (fun k_ hk => ⟨⟨(.inr (hk.1.1.1)), ⟨hk.1.1.2, hk.2⟩⟩, hk.1.2⟩))).2.1 (Kd.R_F (Kd.R_mono (ok' := (fun k_ => ((fun k_ => ((P0_3_ k_ ∨ P0_4_ k_ ∨ P0_5_ k_ ∨ P0_7_ k_) ∨ w.heap.size ≤ k_) ∧ some k_ ≠ (v595 : Value).ownBlock ∧ k_ ≠ gb593)) k_ ∧ some k_ ≠ (u10 : Value).ownBlock)) (Kd.R_types (Kd.R_apart' (Kd.R_apart' (HO_12.out) (Kd.N_typed HO_8.out) (by decide)) (Kd.N_typed HO_10.out) (by decide)) BK593.out (by decide)) (fun k_ hk => ⟨⟨(.inr (hk.1.1.1)), ⟨hk.1.1.2, hk.2⟩⟩, hk.1.2⟩))))); (case aB => exact bel_); (case aF => exact (fun k_ hk => ⟨(.inr (Nat.le_trans (below_size bel_) hk)), Kd.fresh' (Kd.N_lt (vN_ HO_8.out)) k_ hk, Kd.freshB (bk_ BK593.out) k_ hk⟩)); (case aO => exact (by refine vN_ ?_; exact Kd.N_mono HO_10.out (fun _ hk => ⟨hk.1, ⟨hk.2.1, hk.2.2.2⟩⟩))); (case aS => exact (below_size bel_)); (case aL => have := LMc31.out; omega); intro v600 w32 ho hb hg hat; rw [← Ny599.out] at ho; replace HO_8 := Aside0.mk (Kd.N_afterv (ok := (fun k_ => ((P0_3_ k_ ∨ P0_4_ k_ ∨ P0_5_ k_ ∨ P0_7_ k_) ∨ w.heap.size ≤ k_) ∧ some k_ ≠ (.slice Ao33 x12_2.length co33 : Value).ownBlock ∧ k_ ≠ gb593)) (by refine vN_ ?_; exact Kd.N_mono HO_8.out (fun _ hk => ⟨⟨hk.1, ⟨hk.2.2.1, hk.2.2.2⟩⟩, hk.2.1⟩)) hg hat); replace HO_594003 := Aside0.mk (Kd.V_afterv (ok := (fun k_ => ((P0_3_ k_ ∨ P0_4_ k_ ∨ P0_5_ k_ ∨ P0_7_ k_) ∨ w.heap.size ≤ k_) ∧ some k_ ≠ (v595 : Value).ownBlock ∧ some k_ ≠ (.slice Ao33 x12_2.length co33 : Value).ownBlock ∧ k_ ≠ gb593)) (by refine vV_ ?_; exact Kd.V_mono HO_594003.out (fun _ hk => ⟨⟨hk.1, ⟨hk.2.1, ⟨hk.2.2.2.1, hk.2.2.2.2⟩⟩⟩, hk.2.2.1⟩)) hg hat); replace HO_594004 := Aside0.mk (Kd.V_afterv (ok := (fun k_ => ((P0_3_ k_ ∨ P0_4_ k_ ∨ P0_5_ k_ ∨ P0_7_ k_) ∨ w.heap.size ≤ k_) ∧ some k_ ≠ (v595 : Value).ownBlock ∧ some k_ ≠ (.slice Ao33 x12_2.length co33 : Value).ownBlock ∧ k_ ≠ gb593)) (by refine vV_ ?_; exact Kd.V_mono HO_594004.out (fun _ hk => ⟨⟨hk.1, ⟨hk.2.1, ⟨hk.2.2.2.1, hk.2.2.2.2⟩⟩⟩, hk.2.2.1⟩)) hg hat); replace HO_594005 := Aside0.mk (Kd.V_afterv (ok := (fun k_ => ((P0_3_ k_ ∨ P0_4_ k_ ∨ P0_5_ k_ ∨ P0_7_ k_) ∨ w.heap.size ≤ k_) ∧ some k_ ≠ (v595 : Value).ownBlock ∧ some k_ ≠ (.slice Ao33 x12_2.length co33 : Value).ownBlock ∧ k_ ≠ gb593)) (by refine vV_ ?_; exact Kd.V_mono HO_594005.out (fun _ hk => ⟨⟨hk.1, ⟨hk.2.1, ⟨hk.2.2.2.1, hk.2.2.2.2⟩⟩⟩, hk.2.2.1⟩)) hg hat); replace HO_594007 := Aside0.mk (Kd.V_afterv (ok := (fun k_ => ((P0_3_ k_ ∨ P0_4_ k_ ∨ P0_5_ k_ ∨ P0_7_ k_) ∨ w.heap.size ≤ k_) ∧ some k_ ≠ (v595 : Value).ownBlock ∧ some k_ ≠ (.slice Ao33 x12_2.length co33 : Value).ownBlock ∧ k_ ≠ gb593)) (by refine vV_ ?_; exact Kd.V_mono HO_594007.out (fun _ hk => ⟨⟨hk.1, ⟨hk.2.1, ⟨hk.2.2.2.1, hk.2.2.2.2⟩⟩⟩, hk.2.2.1⟩)) hg hat); replace BK593 := Aside0.mk (blk_grown (bk_ BK593.out) hg (Kd.N_ne HO_10.out BK593.out (by decide))); replace HB := Aside0.mk (hb); have HO601 := Aside0.mk (ho); clear HO_10 HO_12; clear ho hb hg hat)); try go_wp2_with (first | ((with_reducible refine gate_builtin (b := .append) (xs := #[.tmp 73, .tmp 75]) rfl ?_); at_builtin; refine Kd.N_append (Kd.slice 3 (Kd.int .i64)) (w0 := w) w.heap.size rfl (.tmp 73) (.tmp 75) 27 30 (.slice none 0 0) 24 rfl Tryz.underlying27 info30 rfl (by decide) (by omega) u10 x10_1 x12_2 [.slice Ao33 x12_2.length co33] (fun k_ => ((P0_3_ k_ ∨ P0_4_ k_ ∨ P0_5_ k_ ∨ P0_7_ k_) ∨ w.heap.size ≤ k_) ∧ some k_ ≠ (v595 : Value).ownBlock ∧ k_ ≠ gb593) (fun k_ => ((fun k_ => ((P0_3_ k_ ∨ P0_4_ k_ ∨ P0_5_ k_ ∨ P0_7_ k_) ∨ w.heap.size ≤ k_) ∧ some k_ ≠ (v595 : Value).ownBlock ∧ k_ ≠ gb593)) k_ ∧ some k_ ≠ (u10 : Value).ownBlock) rfl rfl ?aP (fun _ hk => hk) ?aF ?aO ?aB ?aS ?aL ?_; (case aP => exact (Kd.FK_slice_mk (Kd.R_reads' (Kd.R_mono (ok' := (fun k_ => ((fun k_ => ((P0_3_ k_ ∨ P0_4_ k_ ∨ P0_5_ k_ ∨ P0_7_ k_) ∨ w.heap.size ≤ k_) ∧ some k_ ≠ (v595 : Value).ownBlock ∧ k_ ≠ gb593)) k_ ∧ some k_ ≠ (u10 : Value).ownBlock)) (Kd.R_types (Kd.R_apart' (Kd.R_apart' (HO_12.out) (Kd.N_typed HO_8.out) (by decide)) (Kd.N_typed HO_10.out) (by decide)) BK593.out (by decide)) (fun k_ hk => ⟨⟨(.inr (hk.1.1.1)), ⟨hk.1.1.2, hk.2⟩⟩, hk.1.2⟩))).2.1 (Kd.R_F (Kd.R_mono (ok' := (fun k_ => ((fun k_ => ((P0_3_ k_ ∨ P0_4_ k_ ∨ P0_5_ k_ ∨ P0_7_ k_) ∨ w.heap.size ≤ k_) ∧ some k_ ≠ (v595 : Value).ownBlock ∧ k_ ≠ gb593)) k_ ∧ some k_ ≠ (u10 : Value).ownBlock)) (Kd.R_types (Kd.R_apart' (Kd.R_apart' (HO_12.out) (Kd.N_typed HO_8.out) (by decide)) (Kd.N_typed HO_10.out) (by decide)) BK593.out (by decide)) (fun k_ hk => ⟨⟨(.inr (hk.1.1.1)), ⟨hk.1.1.2, hk.2⟩⟩, hk.1.2⟩))))); (case aB => exact bel_); (case aF => exact (fun k_ hk => ⟨(.inr (Nat.le_trans (below_size bel_) hk)), Kd.fresh' (Kd.N_lt (vN_ HO_8.out)) k_ hk, Kd.freshB (bk_ BK593.out) k_ hk⟩)); (case aO => exact (by refine vN_ ?_; exact Kd.N_mono HO_10.out (fun _ hk => ⟨hk.1, ⟨hk.2.1, hk.2.2.2⟩⟩))); (case aS => exact (below_size bel_)); (case aL => have := LMc31.out; omega); intro v600 w32 ho hb hg hat; rw [← Ny599.out] at ho; replace HO_8 := Aside0.mk (Kd.N_afterv (ok := (fun k_ => ((P0_3_ k_ ∨ P0_4_ k_ ∨ P0_5_ k_ ∨ P0_7_ k_) ∨ w.heap.size ≤ k_) ∧ some k_ ≠ (.slice Ao33 x12_2.length co33 : Value).ownBlock ∧ k_ ≠ gb593)) (by refine vN_ ?_; exact Kd.N_mono HO_8.out (fun _ hk => ⟨⟨hk.1, ⟨hk.2.2.1, hk.2.2.2⟩⟩, hk.2.1⟩)) hg hat); replace HO_594003 := Aside0.mk (Kd.V_afterv (ok := (fun k_ => ((P0_3_ k_ ∨ P0_4_ k_ ∨ P0_5_ k_ ∨ P0_7_ k_) ∨ w.heap.size ≤ k_) ∧ some k_ ≠ (v595 : Value).ownBlock ∧ some k_ ≠ (.slice Ao33 x12_2.length co33 : Value).ownBlock ∧ k_ ≠ gb593)) (by refine vV_ ?_; exact Kd.V_mono HO_594003.out (fun _ hk => ⟨⟨hk.1, ⟨hk.2.1, ⟨hk.2.2.2.1, hk.2.2.2.2⟩⟩⟩, hk.2.2.1⟩)) hg hat); replace HO_594004 := Aside0.mk (Kd.V_afterv (ok := (fun k_ => ((P0_3_ k_ ∨ P0_4_ k_ ∨ P0_5_ k_ ∨ P0_7_ k_) ∨ w.heap.size ≤ k_) ∧ some k_ ≠ (v595 : Value).ownBlock ∧ some k_ ≠ (.slice Ao33 x12_2.length co33 : Value).ownBlock ∧ k_ ≠ gb593)) (by refine vV_ ?_; exact Kd.V_mono HO_594004.out (fun _ hk => ⟨⟨hk.1, ⟨hk.2.1, ⟨hk.2.2.2.1, hk.2.2.2.2⟩⟩⟩, hk.2.2.1⟩)) hg hat); replace HO_594005 := Aside0.mk (Kd.V_afterv (ok := (fun k_ => ((P0_3_ k_ ∨ P0_4_ k_ ∨ P0_5_ k_ ∨ P0_7_ k_) ∨ w.heap.size ≤ k_) ∧ some k_ ≠ (v595 : Value).ownBlock ∧ some k_ ≠ (.slice Ao33 x12_2.length co33 : Value).ownBlock ∧ k_ ≠ gb593)) (by refine vV_ ?_; exact Kd.V_mono HO_594005.out (fun _ hk => ⟨⟨hk.1, ⟨hk.2.1, ⟨hk.2.2.2.1, hk.2.2.2.2⟩⟩⟩, hk.2.2.1⟩)) hg hat); replace HO_594007 := Aside0.mk (Kd.V_afterv (ok := (fun k_ => ((P0_3_ k_ ∨ P0_4_ k_ ∨ P0_5_ k_ ∨ P0_7_ k_) ∨ w.heap.size ≤ k_) ∧ some k_ ≠ (v595 : Value).ownBlock ∧ some k_ ≠ (.slice Ao33 x12_2.length co33 : Value).ownBlock ∧ k_ ≠ gb593)) (by refine vV_ ?_; exact Kd.V_mono HO_594007.out (fun _ hk => ⟨⟨hk.1, ⟨hk.2.1, ⟨hk.2.2.2.1, hk.2.2.2.2⟩⟩⟩, hk.2.2.1⟩)) hg hat); replace BK593 := Aside0.mk (blk_grown (bk_ BK593.out) hg (Kd.N_ne HO_10.out BK593.out (by decide))); replace HB := Aside0.mk (hb); have HO601 := Aside0.mk (ho); clear HO_10 HO_12; clear ho hb hg hat)))
          go_roundg k2
          case measure => have := HK1.out; have := HK2.out; omega
          case rel => exact ⟨(y599), (wrap64 (x11_1 + 1)), eq_, H', ⟨by have := HK1.out; have := HK2.out; omega⟩, ⟨by refine vN_ ?_; exact Kd.N_mono HO_8.out (fun _ hk => ⟨hk.1.1, ⟨hk.2, hk.1.2.2⟩⟩)⟩, ⟨by refine vN_ ?_; exact HO601.out⟩, ⟨by refine vV_ ?_; exact Kd.V_mono HO_594003.out (fun _ hk => ⟨hk.1.1, ⟨hk.1.2.1, ⟨hk.2, hk.1.2.2.2⟩⟩⟩)⟩, ⟨by refine vV_ ?_; exact Kd.V_mono HO_594004.out (fun _ hk => ⟨hk.1.1, ⟨hk.1.2.1, ⟨hk.2, hk.1.2.2.2⟩⟩⟩)⟩, ⟨by refine vV_ ?_; exact Kd.V_mono HO_594005.out (fun _ hk => ⟨hk.1.1, ⟨hk.1.2.1, ⟨hk.2, hk.1.2.2.2⟩⟩⟩)⟩, ⟨by refine vV_ ?_; exact Kd.V_mono HO_594007.out (fun _ hk => ⟨hk.1.1, ⟨hk.1.2.1, ⟨hk.2, hk.1.2.2.2⟩⟩⟩)⟩, ⟨by refine bk_ ?_; exact BK593.out⟩, ⟨bel_⟩⟩
         ·
          rw [if_neg c31] at H
          exact absurd H (by simp)
       ·
        rw [if_neg c10] at H
        exact absurd H (by simp)
      ·
       rw [if_neg c9] at H
       exact absurd H (by simp)
   ·
    rw [if_neg c8] at H
    have c8b0 : decide (x11_1 < (l1.length : Int)) = false := decide_eq_false c8
    clear c8
    by_cases c34 : (t594.length : Int) = 0
    ·
     rw [if_pos c34] at H
     have c34b0 : ((t594.length : Int) == 0) = true := beq_iff_eq.mpr c34
     have c34b1 : ((t594.length : Int) != 0) = false := bne_eq_false_iff_eq.mpr c34
     clear c34
     simp only [Option.some.injEq, Prod.mk.injEq] at H
     obtain ⟨rfl, rfl⟩ := H
     obtain ⟨Ao35, co35, eo35⟩ := Kd.N_slice HO_8.out
     subst eo35
     go_wp2
     repeat (go_quiet (fail); try go_wp2)
     go_ret2
     exact ⟨_, by first | rfl | (simp [errW_none, errW_some] <;> rfl) | (simp [*, errW_none, errW_some] <;> rfl), by first | exact Kd.S_nil _ _ _ _ _ | exact Kd.N_nil _ _ _ _ _ | exact Kd.V_nil _ _ _ _ _ | exact Kd.Q_nil _ _ _ _ _ | exact Kd.R_nil _ _ _ _ _, bel_⟩
    ·
     rw [if_neg c34] at H
     have c34b0 : ((t594.length : Int) == 0) = false := beq_eq_false_iff_ne.mpr c34
     have c34b1 : ((t594.length : Int) != 0) = true := bne_iff_ne.mpr c34
     have c34b2 : ¬ (t594 = []) := fun h_ => c34 (by rw [h_]; rfl)
     simp only [Option.some.injEq, Prod.mk.injEq] at H
     obtain ⟨rfl, rfl⟩ := H
     obtain ⟨Ao36, co36, eo36⟩ := Kd.N_slice HO_8.out
     subst eo36
     go_wp2
     repeat (go_quiet (fail); try go_wp2)
     go_ret2
     exact ⟨_, by first | rfl | (simp [errW_none, errW_some] <;> rfl) | (simp [*, errW_none, errW_some] <;> rfl), by refine vN_ ?_; exact Kd.N_mono HO_10.out (fun _ hk => hk.1), bel_⟩

end Go.Proofs.YtmhchlbbfpmdgaaGreatDoor.XClauseFilters
