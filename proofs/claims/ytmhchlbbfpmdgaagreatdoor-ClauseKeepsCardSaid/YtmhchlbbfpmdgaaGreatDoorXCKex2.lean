-- by xprint.py, a program of this session, over the kit's print
import Derived.Test.YtmhchlbbfpmdgaaGreatDoorXCKex0
import Derived.Test.YtmhchlbbfpmdgaaGreatDoorXCKex1
import Derived.Test.YtmhchlbbfpmdgaaGreatDoorSq
namespace Go.Proofs.YtmhchlbbfpmdgaaGreatDoor.XClauseKeeps
open Go.RowKit Go.Proofs.YtmhchlbbfpmdgaaGreatDoor.Sq Go.Proofs.YtmhchlbbfpmdgaaGreatDoorW.PrintWords Go.Proofs.YtmhchlbbfpmdgaaGreatDoorW.PrintLast Go.Proofs.YtmhchlbbfpmdgaaGreatDoorW.PrintMore
attribute [local go_sem] max2_int min2_int max_two min_two max_three min_three max_four min_four   -- for this text's walks alone
set_option linter.unusedVariables false
set_option linter.unusedSimpArgs false

/-! ### jigsawref06_Make: function 19 -/
mutual
def jigsawref06_Make.j0 : Nat → Int → ByteArray → Int → Int → List Int → List Int → List Int → Int → Int → Int → Int → Option (Int × List Int × List Int × List Int × List Int × List Int × Int × (List (List Int)))
 | 0, _, _, _, _, _, _, _, _, _, _, _ => none
 | k + 1, x1, x6, x7, x112000, x112001, x112002, x112003, x112004, x112005, x114000, x114006 => if x7 > 4 then (jigsawref06_Make.j1 k x1 x6 4 x112000 x112001 x112002 x112003 x112004 x112005 x114000 x114006) else (jigsawref06_Make.j1 k x1 x6 x7 x112000 x112001 x112002 x112003 x112004 x112005 x114000 x114006)
def jigsawref06_Make.j1 : Nat → Int → ByteArray → Int → Int → List Int → List Int → List Int → Int → Int → Int → Int → Option (Int × List Int × List Int × List Int × List Int × List Int × Int × (List (List Int)))
 | 0, _, _, _, _, _, _, _, _, _, _, _ => none
 | k + 1, x1, x6, x7, x112000, x112001, x112002, x112003, x112004, x112005, x114000, x114006 => (jigsawref06_has.f k x6 118).bind fun t118 => (if t118 > 0 then (none) else ((jigsawref06_places.f k x112001 x7 x1).bind fun t119 => ((jigsawref06_has.f k x6 119).bind fun t122 => (if t122 > 0 then (none) else ((jigsawref06_has.f k x6 87).bind fun t123 => (if t123 > 0 then ((jigsawref06_places.f k x112002 x7 x1).bind fun t124 => ((jigsawref06_has.f k x6 99).bind fun t127 => (if t127 > 0 then (none) else (if x114000 = 11 then (none) else ((jigsawref06_has.f k x6 107).bind fun t128 => (if t128 > 0 then (none) else (if x114000 = 19 then (none) else (if x114000 = 21 then (none) else (if x114000 = 18 then (none) else (some (x114000, t119, t124, ([] : List Int), ([] : List Int), ([] : List Int), x114006, ([] : List (List Int))))))))))))) else (none)))))))
end
def jigsawref06_Make.f (k : Nat) (a0_0 : Int) (l0_1 : List Int) (l0_2 : List Int) (l0_3 : List Int) (a0_4 : Int) (a0_5 : Int) (a1 : Int) : Option (Int × List Int × List Int × List Int × List Int × List Int × Int × (List (List Int))) := (jigsawref06_Shapes.f).bind fun t114 => (if 0 ≤ (wrap64 (1 + (Int.tmod (wrap64 (a0_0)) 23))) then (if (wrap64 (1 + (Int.tmod (wrap64 (a0_0)) 23))) < (t114.length : Int) then (if (l0_1.length : Int) < 1 then (jigsawref06_Make.j0 k a1 (rdOf ByteArray.empty t114 (wrap64 (1 + (Int.tmod (wrap64 (a0_0)) 23)))) 1 a0_0 l0_1 l0_2 l0_3 a0_4 a0_5 (wrap64 (1 + (Int.tmod (wrap64 (a0_0)) 23))) 0) else (jigsawref06_Make.j0 k a1 (rdOf ByteArray.empty t114 (wrap64 (1 + (Int.tmod (wrap64 (a0_0)) 23)))) (l0_1.length : Int) a0_0 l0_1 l0_2 l0_3 a0_4 a0_5 (wrap64 (1 + (Int.tmod (wrap64 (a0_0)) 23))) 0)) else (none)) else (none))
theorem jigsawref06_Make.mono_l : ∀ k, (∀ y0 y1 y2 y3 y4 y5 y6 y7 y8 y9 y10, LeO (jigsawref06_Make.j0 k y0 y1 y2 y3 y4 y5 y6 y7 y8 y9 y10) (jigsawref06_Make.j0 (k + 1) y0 y1 y2 y3 y4 y5 y6 y7 y8 y9 y10)) ∧ (∀ y0 y1 y2 y3 y4 y5 y6 y7 y8 y9 y10, LeO (jigsawref06_Make.j1 k y0 y1 y2 y3 y4 y5 y6 y7 y8 y9 y10) (jigsawref06_Make.j1 (k + 1) y0 y1 y2 y3 y4 y5 y6 y7 y8 y9 y10))
 | 0 => ⟨fun _ _ _ _ _ _ _ _ _ _ _ r h => by simp [jigsawref06_Make.j0] at h, fun _ _ _ _ _ _ _ _ _ _ _ r h => by simp [jigsawref06_Make.j1] at h⟩
 | k + 1 => by
  obtain ⟨ih0, ih1⟩ := jigsawref06_Make.mono_l k
  refine ⟨?_, ?_⟩
  ·
   intro y0 y1 y2 y3 y4 y5 y6 y7 y8 y9 y10
   unfold jigsawref06_Make.j0
   have m0 := @jigsawref06_has.mono
   have m1 := @jigsawref06_places.mono
   exact leo_
  ·
   intro y0 y1 y2 y3 y4 y5 y6 y7 y8 y9 y10
   unfold jigsawref06_Make.j1
   have m0 := @jigsawref06_has.mono
   have m1 := @jigsawref06_places.mono
   exact leo_
theorem jigsawref06_Make.mono : ∀ a0 a1 a2 a3 a4 a5 a6 k, LeO (jigsawref06_Make.f k a0 a1 a2 a3 a4 a5 a6) (jigsawref06_Make.f (k + 1) a0 a1 a2 a3 a4 a5 a6) := by
 intro a0 a1 a2 a3 a4 a5 a6 k
 obtain ⟨ih0, ih1⟩ := jigsawref06_Make.mono_l k
 unfold jigsawref06_Make.f
 have m0 := @jigsawref06_has.mono
 have m1 := @jigsawref06_places.mono
 exact leo_
set_option maxHeartbeats 8000000 in
set_option maxRecDepth 100000 in
theorem jigsawref06_Make.calls (k : Nat) (a0_0 : Int) (A0_1 : Option Addr) (c0_1 : Nat) (l0_1 : List Int) (A0_2 : Option Addr) (c0_2 : Nat) (l0_2 : List Int) (A0_3 : Option Addr) (c0_3 : Nat) (l0_3 : List Int) (a0_4 : Int) (a0_5 : Int) (a1 : Int) (r1 : Int) (r2 : List Int) (r3 : List Int) (r4 : List Int) (r5 : List Int) (r6 : List Int) (r7 : Int) (r8 : List (List Int)) (w : World) (hr0_1 : Kd.C (Kd.int .u8) w A0_1 l0_1.length l0_1) (hc0_1 : l0_1.length ≤ c0_1) (hr0_2 : Kd.C (Kd.int .u8) w A0_2 l0_2.length l0_2) (hc0_2 : l0_2.length ≤ c0_2) (hr0_3 : Kd.C (Kd.int .i8) w A0_3 l0_3.length l0_3) (hc0_3 : l0_3.length ≤ c0_3) (h : jigsawref06_Make.f k a0_0 l0_1 l0_2 l0_3 a0_4 a0_5 a1 = some (r1, r2, r3, r4, r5, r6, r7, r8)) :
  Calls Tryz.prog 19 #[.agg #[.int .u8 a0_0, .slice A0_1 l0_1.length c0_1, .slice A0_2 l0_2.length c0_2, .slice A0_3 l0_3.length c0_3, .int .i16 a0_4, .int .u8 a0_5], .int .i64 a1] w fun e w' => ∃ v1_ v2_ v3_ v4_ v5_ v7_ : Value, e = .returned (.agg #[.int .i64 r1, v1_, v2_, v3_, v4_, v5_, .int .i64 r7, v7_]) ∧ Kd.R (Kd.int .i64) 3 w' w.heap.size (fun k_ => some k_ ≠ (v2_ : Value).ownBlock ∧ some k_ ≠ (v3_ : Value).ownBlock ∧ some k_ ≠ (v4_ : Value).ownBlock ∧ some k_ ≠ (v5_ : Value).ownBlock) v1_ r2 ∧ Kd.R (Kd.int .i64) 3 w' w.heap.size (fun k_ => some k_ ≠ (v1_ : Value).ownBlock ∧ some k_ ≠ (v3_ : Value).ownBlock ∧ some k_ ≠ (v4_ : Value).ownBlock ∧ some k_ ≠ (v5_ : Value).ownBlock) v2_ r3 ∧ Kd.R (Kd.int .i64) 3 w' w.heap.size (fun k_ => some k_ ≠ (v1_ : Value).ownBlock ∧ some k_ ≠ (v2_ : Value).ownBlock ∧ some k_ ≠ (v4_ : Value).ownBlock ∧ some k_ ≠ (v5_ : Value).ownBlock) v3_ r4 ∧ Kd.R (Kd.int .i64) 3 w' w.heap.size (fun k_ => some k_ ≠ (v1_ : Value).ownBlock ∧ some k_ ≠ (v2_ : Value).ownBlock ∧ some k_ ≠ (v3_ : Value).ownBlock ∧ some k_ ≠ (v5_ : Value).ownBlock) v4_ r5 ∧ Kd.R (Kd.int .i64) 3 w' w.heap.size (fun k_ => some k_ ≠ (v1_ : Value).ownBlock ∧ some k_ ≠ (v2_ : Value).ownBlock ∧ some k_ ≠ (v3_ : Value).ownBlock ∧ some k_ ≠ (v4_ : Value).ownBlock) v5_ r6 ∧ Kd.S (Kd.slice 3 (Kd.int .i64)) 30 w' w.heap.size (fun k_ => some k_ ≠ (v1_ : Value).ownBlock ∧ some k_ ≠ (v2_ : Value).ownBlock ∧ some k_ ≠ (v3_ : Value).ownBlock ∧ some k_ ≠ (v4_ : Value).ownBlock ∧ some k_ ≠ (v5_ : Value).ownBlock) v7_ r8 ∧ Below w.heap.size w w' := by
 have hu26 := Tryz.underlying26
 have hu32 := Tryz.underlying32
 have HR0_1 := Aside0.mk hr0_1
 have HC0_1 := Aside0.mk hc0_1
 clear hr0_1 hc0_1
 have HR0_2 := Aside0.mk hr0_2
 have HC0_2 := Aside0.mk hc0_2
 clear hr0_2 hc0_2
 have HC0_3 := Aside0.mk hc0_3
 clear hr0_3 hc0_3
 have HB := Aside0.mk (Below.refl w.heap.size w)
 have H : ((jigsawref06_Shapes.f).bind fun t114 => (if 0 ≤ (wrap64 (1 + (Int.tmod (wrap64 (a0_0)) 23))) then (if (wrap64 (1 + (Int.tmod (wrap64 (a0_0)) 23))) < (t114.length : Int) then (if (l0_1.length : Int) < 1 then (jigsawref06_Make.j0 k a1 (rdOf ByteArray.empty t114 (wrap64 (1 + (Int.tmod (wrap64 (a0_0)) 23)))) 1 a0_0 l0_1 l0_2 l0_3 a0_4 a0_5 (wrap64 (1 + (Int.tmod (wrap64 (a0_0)) 23))) 0) else (jigsawref06_Make.j0 k a1 (rdOf ByteArray.empty t114 (wrap64 (1 + (Int.tmod (wrap64 (a0_0)) 23)))) (l0_1.length : Int) a0_0 l0_1 l0_2 l0_3 a0_4 a0_5 (wrap64 (1 + (Int.tmod (wrap64 (a0_0)) 23))) 0)) else (none)) else (none))) = some (r1, r2, r3, r4, r5, r6, r7, r8) := h
 clear h
 replace H := Option.bind_eq_some_iff.mp H
 obtain ⟨t114, A30, H⟩ := H
 replace H : (if 0 ≤ (wrap64 (1 + (Int.tmod (wrap64 (a0_0)) 23))) then (if (wrap64 (1 + (Int.tmod (wrap64 (a0_0)) 23))) < (t114.length : Int) then (if (l0_1.length : Int) < 1 then (jigsawref06_Make.j0 k a1 (rdOf ByteArray.empty t114 (wrap64 (1 + (Int.tmod (wrap64 (a0_0)) 23)))) 1 a0_0 l0_1 l0_2 l0_3 a0_4 a0_5 (wrap64 (1 + (Int.tmod (wrap64 (a0_0)) 23))) 0) else (jigsawref06_Make.j0 k a1 (rdOf ByteArray.empty t114 (wrap64 (1 + (Int.tmod (wrap64 (a0_0)) 23)))) (l0_1.length : Int) a0_0 l0_1 l0_2 l0_3 a0_4 a0_5 (wrap64 (1 + (Int.tmod (wrap64 (a0_0)) 23))) 0)) else (none)) else (none)) = some (r1, r2, r3, r4, r5, r6, r7, r8) := H
 have A3 := Aside0.mk A30
 clear A30
 obtain ⟨ji4, hji4⟩ : ∃ j_ : Int, (wrap64 (1 + (Int.tmod (wrap64 (a0_0)) 23))) = j_ := ⟨_, rfl⟩
 replace H : (if 0 ≤ (ji4) then (if (ji4) < (t114.length : Int) then (if (l0_1.length : Int) < 1 then (jigsawref06_Make.j0 k a1 (rdOf ByteArray.empty t114 (ji4)) 1 a0_0 l0_1 l0_2 l0_3 a0_4 a0_5 ji4 0) else (jigsawref06_Make.j0 k a1 (rdOf ByteArray.empty t114 (ji4)) (l0_1.length : Int) a0_0 l0_1 l0_2 l0_3 a0_4 a0_5 ji4 0)) else (none)) else (none)) = some (r1, r2, r3, r4, r5, r6, r7, r8) := by first | (rw [hji4] at H; exact H) | (simp only [hji4] at H ⊢; exact H)
 (try rw [hji4] at A3)
 have hji4w : (IntKind.i64.wrap (1 + (Int.tmod (wrap64 (a0_0)) 23))) = ji4 := (i64_w _).trans hji4
 by_cases c5 : 0 ≤ (ji4)
 ·
  rw [if_pos c5] at H
  have c5b0 : decide (0 ≤ (ji4)) = true := decide_eq_true c5
  clear c5
  by_cases c6 : (ji4) < (t114.length : Int)
  ·
   rw [if_pos c6] at H
   have c6b0 : decide ((ji4) < (t114.length : Int)) = true := decide_eq_true c6
   clear c6
   have HC7 := Aside0.mk H
   clear H
   go_enter Tryz.func19, Tryz.ntmps19
   try go_wp2_with (first | ((with_reducible refine gate_dst (N := 2) rfl ?_); refine bxe_ (N := 2) (cs := #[.int .u8 a0_0, .slice A0_1 l0_1.length c0_1, .slice A0_2 l0_2.length c0_2, .slice A0_3 l0_3.length c0_3, .int .i16 a0_4, .int .u8 a0_5]) (t := 26) ?_; intro gb111 hg w8 hbox hb; have BK111 := Aside0.mk (hbox); have GW111 := Aside0.mk (by rw [hg]; exact (below_size bel_) : w.heap.size ≤ gb111); have GE111 := GW111; replace HB := Aside0.mk (below_step bel_ hb); clear hb hbox hg) | ((with_reducible refine gate_dst (N := 4) rfl ?_); refine bxe_ (N := 4) (cs := #[.int .i64 0, .slice none 0 0, .slice none 0 0, .slice none 0 0, .slice none 0 0, .slice none 0 0, .int .i64 0, .slice none 0 0]) (t := 32) ?_; intro gb112 hg w9 hbox hb; have BK112 := Aside0.mk (hbox); have GW112 := Aside0.mk (by rw [hg]; exact (below_size bel_) : w.heap.size ≤ gb112); have GE112 := GW112; replace HB := Aside0.mk (below_step bel_ hb); have NB111_112 := Aside0.mk ((by rw [hg]; exact Nat.ne_of_lt (blk_lt (bk_ BK111.out)) : gb111 ≠ gb112)); have NB112_111 := Aside0.mk ((by rw [hg]; exact Nat.ne_of_gt (blk_lt (bk_ BK111.out)) : gb112 ≠ gb111)); replace BK111 := Aside0.mk (blk_below (bk_ BK111.out) hb); clear hb hbox hg; have hnb10 := NB111_112.out; have hnc10 := NB112_111.out; obtain ⟨hcz11_0, hcz11_1, hcz11_2, hcz11_3, hcz11_4, hcz11_5, hfz11_0, hfz11_1, hfz11_2, hfz11_3, hfz11_4, hfz11_5⟩ := cel6_ BK111.out) | ((with_reducible refine gate_dst (N := 5) rfl ?_); refine bxe_ (N := 5) (cs := #[.int .i64 0, .slice none 0 0, .slice none 0 0, .slice none 0 0, .slice none 0 0, .slice none 0 0, .int .i64 0, .slice none 0 0]) (t := 32) ?_; intro gb113 hg w12 hbox hb; have BK113 := Aside0.mk (hbox); have GW113 := Aside0.mk (by rw [hg]; exact (below_size bel_) : w.heap.size ≤ gb113); have GE113 := GW113; replace HB := Aside0.mk (below_step bel_ hb); have NB111_113 := Aside0.mk ((by rw [hg]; exact Nat.ne_of_lt (blk_lt (bk_ BK111.out)) : gb111 ≠ gb113)); have NB113_111 := Aside0.mk ((by rw [hg]; exact Nat.ne_of_gt (blk_lt (bk_ BK111.out)) : gb113 ≠ gb111)); replace BK111 := Aside0.mk (blk_below (bk_ BK111.out) hb); have NB112_113 := Aside0.mk ((by rw [hg]; exact Nat.ne_of_lt (blk_lt (bk_ BK112.out)) : gb112 ≠ gb113)); have NB113_112 := Aside0.mk ((by rw [hg]; exact Nat.ne_of_gt (blk_lt (bk_ BK112.out)) : gb113 ≠ gb112)); replace BK112 := Aside0.mk (blk_below (bk_ BK112.out) hb); clear hb hbox hg; have hnb13 := NB113_111.out; have hnc13 := NB111_113.out; have hnb14 := NB113_112.out; have hnc14 := NB112_113.out; obtain ⟨hcz15_0, hcz15_1, hcz15_2, hcz15_3, hcz15_4, hcz15_5, hcz15_6, hcz15_7, hfz15_0, hfz15_1, hfz15_2, hfz15_3, hfz15_4, hfz15_5, hfz15_6, hfz15_7⟩ := cel8_ BK113.out))
   obtain ⟨w16, hq_⟩ : ∃ x, x = ((((((((w12.setCell ⟨gb113, 0, none⟩ (.int .i64 ji4)).setCell ⟨gb113, 1, none⟩ (.slice none 0 0)).setCell ⟨gb113, 2, none⟩ (.slice none 0 0)).setCell ⟨gb113, 3, none⟩ (.slice none 0 0)).setCell ⟨gb113, 4, none⟩ (.slice none 0 0)).setCell ⟨gb113, 5, none⟩ (.slice none 0 0)).setCell ⟨gb113, 6, none⟩ (.int .i64 0)).setCell ⟨gb113, 7, none⟩ (.slice none 0 0)) := ⟨_, rfl⟩
   replace BK111 : Aside0 (w16.heap[gb111]? = some (.cells #[.int .u8 a0_0, .slice A0_1 l0_1.length c0_1, .slice A0_2 l0_2.length c0_2, .slice A0_3 l0_3.length c0_3, .int .i16 a0_4, .int .u8 a0_5] 26 (0, 0))) := ⟨by subst hq_; refine bk_ ?_; refine blk_far ?_ NB111_113.out _; refine bk_ ?_; refine blk_far ?_ NB111_113.out _; refine bk_ ?_; refine blk_far ?_ NB111_113.out _; refine bk_ ?_; refine blk_far ?_ NB111_113.out _; refine bk_ ?_; refine blk_far ?_ NB111_113.out _; refine bk_ ?_; refine blk_far ?_ NB111_113.out _; refine bk_ ?_; refine blk_far ?_ NB111_113.out _; refine bk_ ?_; refine blk_far ?_ NB111_113.out _; refine bk_ ?_; exact BK111.out⟩
   replace BK112 : Aside0 (w16.heap[gb112]? = some (.cells #[.int .i64 0, .slice none 0 0, .slice none 0 0, .slice none 0 0, .slice none 0 0, .slice none 0 0, .int .i64 0, .slice none 0 0] 32 (0, 0))) := ⟨by subst hq_; refine bk_ ?_; refine blk_far ?_ NB112_113.out _; refine bk_ ?_; refine blk_far ?_ NB112_113.out _; refine bk_ ?_; refine blk_far ?_ NB112_113.out _; refine bk_ ?_; refine blk_far ?_ NB112_113.out _; refine bk_ ?_; refine blk_far ?_ NB112_113.out _; refine bk_ ?_; refine blk_far ?_ NB112_113.out _; refine bk_ ?_; refine blk_far ?_ NB112_113.out _; refine bk_ ?_; refine blk_far ?_ NB112_113.out _; refine bk_ ?_; exact BK112.out⟩
   replace BK113 : Aside0 (w16.heap[gb113]? = some (.cells #[.int .i64 ji4, .slice none 0 0, .slice none 0 0, .slice none 0 0, .slice none 0 0, .slice none 0 0, .int .i64 0, .slice none 0 0] 32 (0, 0))) := ⟨by subst hq_; refine bk_ ?_; refine blk_put (cs := #[.int .i64 ji4, .slice none 0 0, .slice none 0 0, .slice none 0 0, .slice none 0 0, .slice none 0 0, .int .i64 0, .slice none 0 0]) ?_ 7 _ rfl; refine bk_ ?_; refine blk_put (cs := #[.int .i64 ji4, .slice none 0 0, .slice none 0 0, .slice none 0 0, .slice none 0 0, .slice none 0 0, .int .i64 0, .slice none 0 0]) ?_ 6 _ rfl; refine bk_ ?_; refine blk_put (cs := #[.int .i64 ji4, .slice none 0 0, .slice none 0 0, .slice none 0 0, .slice none 0 0, .slice none 0 0, .int .i64 0, .slice none 0 0]) ?_ 5 _ rfl; refine bk_ ?_; refine blk_put (cs := #[.int .i64 ji4, .slice none 0 0, .slice none 0 0, .slice none 0 0, .slice none 0 0, .slice none 0 0, .int .i64 0, .slice none 0 0]) ?_ 4 _ rfl; refine bk_ ?_; refine blk_put (cs := #[.int .i64 ji4, .slice none 0 0, .slice none 0 0, .slice none 0 0, .slice none 0 0, .slice none 0 0, .int .i64 0, .slice none 0 0]) ?_ 3 _ rfl; refine bk_ ?_; refine blk_put (cs := #[.int .i64 ji4, .slice none 0 0, .slice none 0 0, .slice none 0 0, .slice none 0 0, .slice none 0 0, .int .i64 0, .slice none 0 0]) ?_ 2 _ rfl; refine bk_ ?_; refine blk_put (cs := #[.int .i64 ji4, .slice none 0 0, .slice none 0 0, .slice none 0 0, .slice none 0 0, .slice none 0 0, .int .i64 0, .slice none 0 0]) ?_ 1 _ rfl; refine bk_ ?_; refine blk_put (cs := #[.int .i64 0, .slice none 0 0, .slice none 0 0, .slice none 0 0, .slice none 0 0, .slice none 0 0, .int .i64 0, .slice none 0 0]) ?_ 0 _ rfl; refine bk_ ?_; exact BK113.out⟩
   replace HB : Aside0 (Below w.heap.size w w16) := ⟨by subst hq_; exact bel_⟩
   rw [← hq_]
   clear hq_
   replace BK111 := Aside0.mk (blk_drew BK111.out)
   replace BK112 := Aside0.mk (blk_drew BK112.out)
   replace BK113 := Aside0.mk (blk_drew BK113.out)
   replace HB := Aside0.mk (below_drew1 HB.out)
   refine start_ (n := 6) (S := fun w' => w'.cell? ⟨gb113, 0, none⟩ = some (.int .i64 ji4) ∧ w'.cell? ⟨gb113, 1, none⟩ = some (.slice none 0 0) ∧ w'.cell? ⟨gb113, 2, none⟩ = some (.slice none 0 0) ∧ w'.cell? ⟨gb113, 3, none⟩ = some (.slice none 0 0) ∧ w'.cell? ⟨gb113, 4, none⟩ = some (.slice none 0 0) ∧ w'.cell? ⟨gb113, 5, none⟩ = some (.slice none 0 0) ∧ w'.cell? ⟨gb113, 6, none⟩ = some (.int .i64 0) ∧ w'.cell? ⟨gb113, 7, none⟩ = some (.slice none 0 0)) (ds := []) #[false, false, false, false, false, false] (by kernel_rfl) rfl rfl ⟨(blk_cell BK113.out 0).trans rfl, (blk_cell BK113.out 1).trans rfl, (blk_cell BK113.out 2).trans rfl, (blk_cell BK113.out 3).trans rfl, (blk_cell BK113.out 4).trans rfl, (blk_cell BK113.out 5).trans rfl, (blk_cell BK113.out 6).trans rfl, (blk_cell BK113.out 7).trans rfl⟩ (fun hHeld => ?_)
   generalize w16.drew = w17 at BK111 BK112 BK113 HB hHeld ⊢
   refine pur_ (i := 1) (N := some 20) #[false, true, false, false, false, false] (by kernel_rfl) ?_
   refine take_ (i := 2) (N := some 21) (v := ?_) (a' := ?_) #[false, true, true, false, false, false] rfl rfl (by kernel_rfl) (fun _ _ _ h => h) (Or.inl ⟨by rfl, ?_⟩) hHeld ?_ ?_
   rotate_left
   ·
    rintro w' ⟨s0, s1, s2, s3, s4, s5, s6, s7⟩
    go_simp
    with_reducible rfl
   rotate_left
   ·
    simp only [Act.put, List.setIfInBounds_toArray, List.set_cons_zero, List.set_cons_succ, i64_w, i32_w]
    rfl
   refine one_ (i := 0) (N := some 19) #[true, true, true, false, false, false] rfl rfl (by kernel_rfl) (by decide) (fun K hK => ?_)
   refine goes_ Tryz.func36 (by kernel_rfl) rfl #[] (by rfl) rfl rfl ar_ ?_
   with_reducible refine (jigsawref06_Shapes.calls t114 _ A3.out).mono ?_
   rintro e w18 ⟨v115, rfl, ho0, hb⟩
   refine ⟨_, rfl, ?_⟩
   have HO116 := Aside0.mk (Kd.R_lower ho0 (below_size bel_))
   replace BK111 := Aside0.mk (blk_below (bk_ BK111.out) hb)
   replace BK112 := Aside0.mk (blk_below (bk_ BK112.out) hb)
   replace BK113 := Aside0.mk (blk_below (bk_ BK113.out) hb)
   replace HB := Aside0.mk (below_step bel_ hb)
   clear hb ho0
   obtain ⟨Ao19, co19, eo19⟩ := Kd.R_slice HO116.out
   (first | subst eo19 | (injection eo19 with f1_ f2_ f3_; have f4_ := f1_.symm; have f5_ := f3_.symm; clear f1_ f2_ f3_; subst f4_; subst f5_))
   have p117 : 0 ≤ ((ji4) : Int) := dq_
   have q117 : (ji4) < (t114.length : Int) := dq_
   obtain ⟨ad117, e117, hx117_0⟩ := Kd.at_string (Kd.R_reads' HO116.out).2.2 (ji4) p117 q117
   cases e117
   replace p117 := eq_true p117
   replace q117 := eq_true q117
   refine hK.out _ _ ⟨(blk_cell BK113.out 0).trans rfl, (blk_cell BK113.out 1).trans rfl, (blk_cell BK113.out 2).trans rfl, (blk_cell BK113.out 3).trans rfl, (blk_cell BK113.out 4).trans rfl, (blk_cell BK113.out 5).trans rfl, (blk_cell BK113.out 6).trans rfl, (blk_cell BK113.out 7).trans rfl⟩ (fun hHeld => ?_)
   clear hK K
   refine nor_ (N := some 19) ?_
   refine pur_ (i := 3) (N := some 22) #[true, true, true, true, false, false] (by kernel_rfl) ?_
   refine one_ (i := 4) (N := some 23) #[true, true, true, true, true, false] rfl rfl (by kernel_rfl) (by decide) (fun K hK => ?_)
   skip
   refine value_ (w1 := ?_) (v := ?_) (by rfl) rfl ?_ ?_
   rotate_left 2
   ·
    go_simp
    constructor
    ·
     rfl
    ·
     rfl
   skip
   refine hK.out _ _ ⟨(blk_cell BK113.out 0).trans rfl, (blk_cell BK113.out 1).trans rfl, (blk_cell BK113.out 2).trans rfl, (blk_cell BK113.out 3).trans rfl, (blk_cell BK113.out 4).trans rfl, (blk_cell BK113.out 5).trans rfl, (blk_cell BK113.out 6).trans rfl, (blk_cell BK113.out 7).trans rfl⟩ (fun hHeld => ?_)
   clear hK K
   refine nor_ (N := some 23) ?_
   refine pur_ (i := 5) (N := some 6) #[true, true, true, true, true, true] (by kernel_rfl) ?_
   refine done_ (by kernel_rfl) ?_
   obtain ⟨hcz20_0, hcz20_1, hcz20_2, hcz20_3, hcz20_4, hcz20_5, hfz20_0, hfz20_1, hfz20_2, hfz20_3, hfz20_4, hfz20_5⟩ := cel6_ BK111.out
   go_upto_if 28 with (fail)
   go_cut [7] (fun v7 wc => ∃ (kq : Nat) (x7_6 : Int), v7 = .int .i64 x7_6 ∧ Aside0 (jigsawref06_Make.j0 kq a1 (rdOf ByteArray.empty t114 (ji4)) x7_6 a0_0 l0_1 l0_2 l0_3 a0_4 a0_5 ji4 0 = some (r1, r2, r3, r4, r5, r6, r7, r8)) ∧ Aside0 (kq ≤ k) ∧ Aside0 (wc.heap[gb111]? = some (.cells #[.int .u8 a0_0, (.slice A0_1 l0_1.length c0_1), (.slice A0_2 l0_2.length c0_2), (.slice A0_3 l0_3.length c0_3), .int .i16 a0_4, .int .u8 a0_5] 26 (0, 0))) ∧ Aside0 (wc.heap[gb112]? = some (.cells #[.int .i64 0, (.slice none 0 0), (.slice none 0 0), (.slice none 0 0), (.slice none 0 0), (.slice none 0 0), .int .i64 0, (.slice none 0 0)] 32 (0, 0))) ∧ Aside0 (wc.heap[gb113]? = some (.cells #[.int .i64 ji4, (.slice none 0 0), (.slice none 0 0), (.slice none 0 0), (.slice none 0 0), (.slice none 0 0), .int .i64 0, (.slice none 0 0)] 32 (0, 0))) ∧ Aside0 (Below w.heap.size w wc))
   case first =>
    have H := HC7.out
    clear HC7
    by_cases c21 : (l0_1.length : Int) < 1
    ·
     rw [if_pos c21] at H
     have c21b0 : decide ((l0_1.length : Int) < 1) = true := decide_eq_true c21
     have c21b1 : decide (l0_1.length < 1) = true := decide_eq_true (by omega)
     clear c21
     (first | rw [c21b0] | (simp only [i64_w, i32_w]; rw [c21b0]) | skip)
     have H' := Aside0.mk H
     clear H
     go_wp2
     go_meet
     case rel => exact ⟨_, (1), eq_, H', ⟨by first | omega | exact Nat.le_refl _⟩, ⟨by refine bk_ ?_; exact BK111.out⟩, ⟨by refine bk_ ?_; exact BK112.out⟩, ⟨by refine bk_ ?_; exact BK113.out⟩, ⟨bel_⟩⟩
    ·
     rw [if_neg c21] at H
     have c21b0 : decide ((l0_1.length : Int) < 1) = false := decide_eq_false c21
     have c21b1 : decide (l0_1.length < 1) = false := decide_eq_false (by omega)
     clear c21
     (first | rw [c21b0] | (simp only [i64_w, i32_w]; rw [c21b0]) | skip)
     have H' := Aside0.mk H
     clear H
     go_wp2
     go_meet
     case rel => exact ⟨_, ((l0_1.length : Int)), eq_, H', ⟨by first | omega | exact Nat.le_refl _⟩, ⟨by refine bk_ ?_; exact BK111.out⟩, ⟨by refine bk_ ?_; exact BK112.out⟩, ⟨by refine bk_ ?_; exact BK113.out⟩, ⟨bel_⟩⟩
   case rest =>
    clear HC7
    try clear c1
    try clear p1
    try clear q1
    try clear hx1
    try clear c2
    try clear p2
    try clear c3
    try clear c5
    try clear c5b0
    try clear c6
    try clear c6b0
    try clear p6
    try clear c10
    try clear p11
    try clear q11
    try clear hx11
    try clear c13
    try clear c14
    try clear c19
    try clear c21
    try clear c21b0
    try clear c21b1
    try clear hcz11_0
    try clear hcz11_1
    try clear hcz11_2
    try clear hcz11_3
    try clear hcz11_4
    try clear hcz11_5
    try clear hcz15_0
    try clear hcz15_1
    try clear hcz15_2
    try clear hcz15_3
    try clear hcz15_4
    try clear hcz15_5
    try clear hcz15_6
    try clear hcz15_7
    try clear hcz20_0
    try clear hcz20_1
    try clear hcz20_2
    try clear hcz20_3
    try clear hcz20_4
    try clear hcz20_5
    try clear hfz11_0
    try clear hfz11_1
    try clear hfz11_2
    try clear hfz11_3
    try clear hfz11_4
    try clear hfz11_5
    try clear hfz15_0
    try clear hfz15_1
    try clear hfz15_2
    try clear hfz15_3
    try clear hfz15_4
    try clear hfz15_5
    try clear hfz15_6
    try clear hfz15_7
    try clear hfz20_0
    try clear hfz20_1
    try clear hfz20_2
    try clear hfz20_3
    try clear hfz20_4
    try clear hfz20_5
    try clear hx117_0
    try clear p117
    try clear q117
    obtain ⟨kq, x7_6, rfl, HA, HJ6, BK111, BK112, BK113, HB⟩ := hcut
    cases kq with
    | zero => exact absurd HA.out (by simp [jigsawref06_Make.j0])
    | succ kj6 =>
     have H := HA.out
     clear HA
     simp only [jigsawref06_Make.j0] at H
     have HC22 := Aside0.mk H
     clear H
     go_upto_if 30 with (fail)
     go_cut [7] (fun v7 wc => ∃ (kq : Nat) (x7_21 : Int), v7 = .int .i64 x7_21 ∧ Aside0 (jigsawref06_Make.j1 kq a1 (rdOf ByteArray.empty t114 (ji4)) x7_21 a0_0 l0_1 l0_2 l0_3 a0_4 a0_5 ji4 0 = some (r1, r2, r3, r4, r5, r6, r7, r8)) ∧ Aside0 (kq ≤ kj6) ∧ Aside0 (wc.heap[gb111]? = some (.cells #[.int .u8 a0_0, (.slice A0_1 l0_1.length c0_1), (.slice A0_2 l0_2.length c0_2), (.slice A0_3 l0_3.length c0_3), .int .i16 a0_4, .int .u8 a0_5] 26 (0, 0))) ∧ Aside0 (wc.heap[gb112]? = some (.cells #[.int .i64 0, (.slice none 0 0), (.slice none 0 0), (.slice none 0 0), (.slice none 0 0), (.slice none 0 0), .int .i64 0, (.slice none 0 0)] 32 (0, 0))) ∧ Aside0 (wc.heap[gb113]? = some (.cells #[.int .i64 ji4, (.slice none 0 0), (.slice none 0 0), (.slice none 0 0), (.slice none 0 0), (.slice none 0 0), .int .i64 0, (.slice none 0 0)] 32 (0, 0))) ∧ Aside0 (Below w.heap.size w wc))
     case first =>
      have H := HC22.out
      clear HC22
      by_cases c23 : x7_6 > 4
      ·
       rw [if_pos c23] at H
       have c23b0 : decide (4 < x7_6) = true := decide_eq_true c23
       clear c23
       (first | rw [c23b0] | (simp only [i64_w, i32_w]; rw [c23b0]) | skip)
       have H' := Aside0.mk H
       clear H
       go_wp2
       go_meet
       case rel => exact ⟨_, (4), eq_, H', ⟨by have := HJ6.out; first | omega | exact Nat.le_refl _⟩, ⟨by refine bk_ ?_; exact BK111.out⟩, ⟨by refine bk_ ?_; exact BK112.out⟩, ⟨by refine bk_ ?_; exact BK113.out⟩, ⟨bel_⟩⟩
      ·
       rw [if_neg c23] at H
       have c23b0 : decide (4 < x7_6) = false := decide_eq_false c23
       clear c23
       (first | rw [c23b0] | (simp only [i64_w, i32_w]; rw [c23b0]) | skip)
       have H' := Aside0.mk H
       clear H
       go_wp2
       go_meet
       case rel => exact ⟨_, (x7_6), eq_, H', ⟨by have := HJ6.out; first | omega | exact Nat.le_refl _⟩, ⟨by refine bk_ ?_; exact BK111.out⟩, ⟨by refine bk_ ?_; exact BK112.out⟩, ⟨by refine bk_ ?_; exact BK113.out⟩, ⟨bel_⟩⟩
     case rest =>
      clear HC22
      try clear c1
      try clear p1
      try clear q1
      try clear hx1
      try clear c2
      try clear p2
      try clear c3
      try clear c5
      try clear c5b0
      try clear c6
      try clear c6b0
      try clear p6
      try clear c10
      try clear p11
      try clear q11
      try clear hx11
      try clear c13
      try clear c14
      try clear c19
      try clear c21
      try clear c21b0
      try clear c21b1
      try clear c23
      try clear c23b0
      try clear hcz11_0
      try clear hcz11_1
      try clear hcz11_2
      try clear hcz11_3
      try clear hcz11_4
      try clear hcz11_5
      try clear hcz15_0
      try clear hcz15_1
      try clear hcz15_2
      try clear hcz15_3
      try clear hcz15_4
      try clear hcz15_5
      try clear hcz15_6
      try clear hcz15_7
      try clear hcz20_0
      try clear hcz20_1
      try clear hcz20_2
      try clear hcz20_3
      try clear hcz20_4
      try clear hcz20_5
      try clear hfz11_0
      try clear hfz11_1
      try clear hfz11_2
      try clear hfz11_3
      try clear hfz11_4
      try clear hfz11_5
      try clear hfz15_0
      try clear hfz15_1
      try clear hfz15_2
      try clear hfz15_3
      try clear hfz15_4
      try clear hfz15_5
      try clear hfz15_6
      try clear hfz15_7
      try clear hfz20_0
      try clear hfz20_1
      try clear hfz20_2
      try clear hfz20_3
      try clear hfz20_4
      try clear hfz20_5
      try clear hx117_0
      try clear p1
      try clear p11
      try clear p117
      try clear p2
      try clear p6
      try clear q1
      try clear q11
      try clear q117
      obtain ⟨kq, x7_21, rfl, HA, HJ21, BK111, BK112, BK113, HB⟩ := hcut
      cases kq with
      | zero => exact absurd HA.out (by simp [jigsawref06_Make.j1])
      | succ kj21 =>
       have H := HA.out
       clear HA
       simp only [jigsawref06_Make.j1] at H
       replace H := Option.bind_eq_some_iff.mp H
       obtain ⟨t118, A240, H⟩ := H
       replace H : (if t118 > 0 then (none) else ((jigsawref06_places.f kj21 l0_1 x7_21 a1).bind fun t119 => ((jigsawref06_has.f kj21 (rdOf ByteArray.empty t114 (ji4)) 119).bind fun t122 => (if t122 > 0 then (none) else ((jigsawref06_has.f kj21 (rdOf ByteArray.empty t114 (ji4)) 87).bind fun t123 => (if t123 > 0 then ((jigsawref06_places.f kj21 l0_2 x7_21 a1).bind fun t124 => ((jigsawref06_has.f kj21 (rdOf ByteArray.empty t114 (ji4)) 99).bind fun t127 => (if t127 > 0 then (none) else (if ji4 = 11 then (none) else ((jigsawref06_has.f kj21 (rdOf ByteArray.empty t114 (ji4)) 107).bind fun t128 => (if t128 > 0 then (none) else (if ji4 = 19 then (none) else (if ji4 = 21 then (none) else (if ji4 = 18 then (none) else (some (ji4, t119, t124, ([] : List Int), ([] : List Int), ([] : List Int), 0, ([] : List (List Int))))))))))))) else (none))))))) = some (r1, r2, r3, r4, r5, r6, r7, r8) := H
       have A24 := Aside0.mk A240
       clear A240
       by_cases c25 : t118 > 0
       ·
        rw [if_pos c25] at H
        exact absurd H (by simp)
       ·
        rw [if_neg c25] at H
        have c25b0 : decide (0 < t118) = false := decide_eq_false c25
        clear c25
        replace H := Option.bind_eq_some_iff.mp H
        obtain ⟨t119, A260, H⟩ := H
        replace H : ((jigsawref06_has.f kj21 (rdOf ByteArray.empty t114 (ji4)) 119).bind fun t122 => (if t122 > 0 then (none) else ((jigsawref06_has.f kj21 (rdOf ByteArray.empty t114 (ji4)) 87).bind fun t123 => (if t123 > 0 then ((jigsawref06_places.f kj21 l0_2 x7_21 a1).bind fun t124 => ((jigsawref06_has.f kj21 (rdOf ByteArray.empty t114 (ji4)) 99).bind fun t127 => (if t127 > 0 then (none) else (if ji4 = 11 then (none) else ((jigsawref06_has.f kj21 (rdOf ByteArray.empty t114 (ji4)) 107).bind fun t128 => (if t128 > 0 then (none) else (if ji4 = 19 then (none) else (if ji4 = 21 then (none) else (if ji4 = 18 then (none) else (some (ji4, t119, t124, ([] : List Int), ([] : List Int), ([] : List Int), 0, ([] : List (List Int))))))))))))) else (none))))) = some (r1, r2, r3, r4, r5, r6, r7, r8) := H
        have A26 := Aside0.mk A260
        clear A260
        replace H := Option.bind_eq_some_iff.mp H
        obtain ⟨t122, A270, H⟩ := H
        replace H : (if t122 > 0 then (none) else ((jigsawref06_has.f kj21 (rdOf ByteArray.empty t114 (ji4)) 87).bind fun t123 => (if t123 > 0 then ((jigsawref06_places.f kj21 l0_2 x7_21 a1).bind fun t124 => ((jigsawref06_has.f kj21 (rdOf ByteArray.empty t114 (ji4)) 99).bind fun t127 => (if t127 > 0 then (none) else (if ji4 = 11 then (none) else ((jigsawref06_has.f kj21 (rdOf ByteArray.empty t114 (ji4)) 107).bind fun t128 => (if t128 > 0 then (none) else (if ji4 = 19 then (none) else (if ji4 = 21 then (none) else (if ji4 = 18 then (none) else (some (ji4, t119, t124, ([] : List Int), ([] : List Int), ([] : List Int), 0, ([] : List (List Int))))))))))))) else (none)))) = some (r1, r2, r3, r4, r5, r6, r7, r8) := H
        have A27 := Aside0.mk A270
        clear A270
        by_cases c28 : t122 > 0
        ·
         rw [if_pos c28] at H
         exact absurd H (by simp)
        ·
         rw [if_neg c28] at H
         have c28b0 : decide (0 < t122) = false := decide_eq_false c28
         clear c28
         replace H := Option.bind_eq_some_iff.mp H
         obtain ⟨t123, A290, H⟩ := H
         replace H : (if t123 > 0 then ((jigsawref06_places.f kj21 l0_2 x7_21 a1).bind fun t124 => ((jigsawref06_has.f kj21 (rdOf ByteArray.empty t114 (ji4)) 99).bind fun t127 => (if t127 > 0 then (none) else (if ji4 = 11 then (none) else ((jigsawref06_has.f kj21 (rdOf ByteArray.empty t114 (ji4)) 107).bind fun t128 => (if t128 > 0 then (none) else (if ji4 = 19 then (none) else (if ji4 = 21 then (none) else (if ji4 = 18 then (none) else (some (ji4, t119, t124, ([] : List Int), ([] : List Int), ([] : List Int), 0, ([] : List (List Int))))))))))))) else (none)) = some (r1, r2, r3, r4, r5, r6, r7, r8) := H
         have A29 := Aside0.mk A290
         clear A290
         by_cases c30 : t123 > 0
         ·
          rw [if_pos c30] at H
          have c30b0 : decide (0 < t123) = true := decide_eq_true c30
          clear c30
          replace H := Option.bind_eq_some_iff.mp H
          obtain ⟨t124, A310, H⟩ := H
          replace H : ((jigsawref06_has.f kj21 (rdOf ByteArray.empty t114 (ji4)) 99).bind fun t127 => (if t127 > 0 then (none) else (if ji4 = 11 then (none) else ((jigsawref06_has.f kj21 (rdOf ByteArray.empty t114 (ji4)) 107).bind fun t128 => (if t128 > 0 then (none) else (if ji4 = 19 then (none) else (if ji4 = 21 then (none) else (if ji4 = 18 then (none) else (some (ji4, t119, t124, ([] : List Int), ([] : List Int), ([] : List Int), 0, ([] : List (List Int)))))))))))) = some (r1, r2, r3, r4, r5, r6, r7, r8) := H
          have A31 := Aside0.mk A310
          clear A310
          replace H := Option.bind_eq_some_iff.mp H
          obtain ⟨t127, A320, H⟩ := H
          replace H : (if t127 > 0 then (none) else (if ji4 = 11 then (none) else ((jigsawref06_has.f kj21 (rdOf ByteArray.empty t114 (ji4)) 107).bind fun t128 => (if t128 > 0 then (none) else (if ji4 = 19 then (none) else (if ji4 = 21 then (none) else (if ji4 = 18 then (none) else (some (ji4, t119, t124, ([] : List Int), ([] : List Int), ([] : List Int), 0, ([] : List (List Int))))))))))) = some (r1, r2, r3, r4, r5, r6, r7, r8) := H
          have A32 := Aside0.mk A320
          clear A320
          by_cases c33 : t127 > 0
          ·
           rw [if_pos c33] at H
           exact absurd H (by simp)
          ·
           rw [if_neg c33] at H
           have c33b0 : decide (0 < t127) = false := decide_eq_false c33
           clear c33
           by_cases c34 : ji4 = 11
           ·
            rw [if_pos c34] at H
            exact absurd H (by simp)
           ·
            rw [if_neg c34] at H
            have c34b0 : (ji4 == 11) = false := beq_eq_false_iff_ne.mpr c34
            have c34b1 : (ji4 != 11) = true := bne_iff_ne.mpr c34
            replace H := Option.bind_eq_some_iff.mp H
            obtain ⟨t128, A350, H⟩ := H
            replace H : (if t128 > 0 then (none) else (if ji4 = 19 then (none) else (if ji4 = 21 then (none) else (if ji4 = 18 then (none) else (some (ji4, t119, t124, ([] : List Int), ([] : List Int), ([] : List Int), 0, ([] : List (List Int)))))))) = some (r1, r2, r3, r4, r5, r6, r7, r8) := H
            have A35 := Aside0.mk A350
            clear A350
            by_cases c36 : t128 > 0
            ·
             rw [if_pos c36] at H
             exact absurd H (by simp)
            ·
             rw [if_neg c36] at H
             have c36b0 : decide (0 < t128) = false := decide_eq_false c36
             clear c36
             by_cases c37 : ji4 = 19
             ·
              rw [if_pos c37] at H
              exact absurd H (by simp)
             ·
              rw [if_neg c37] at H
              have c37b0 : (ji4 == 19) = false := beq_eq_false_iff_ne.mpr c37
              have c37b1 : (ji4 != 19) = true := bne_iff_ne.mpr c37
              by_cases c38 : ji4 = 21
              ·
               rw [if_pos c38] at H
               exact absurd H (by simp)
              ·
               rw [if_neg c38] at H
               have c38b0 : (ji4 == 21) = false := beq_eq_false_iff_ne.mpr c38
               have c38b1 : (ji4 != 21) = true := bne_iff_ne.mpr c38
               by_cases c39 : ji4 = 18
               ·
                rw [if_pos c39] at H
                exact absurd H (by simp)
               ·
                rw [if_neg c39] at H
                have c39b0 : (ji4 == 18) = false := beq_eq_false_iff_ne.mpr c39
                have c39b1 : (ji4 != 18) = true := bne_iff_ne.mpr c39
                simp only [Option.some.injEq, Prod.mk.injEq] at H
                obtain ⟨rfl, rfl, rfl, rfl, rfl, rfl, rfl, rfl⟩ := H
                go_wp2_with (first | ((with_reducible refine gate_callee (f := 37) rfl ?_); refine goesL_ (some 32) rfl rfl Tryz.func37 (by kernel_rfl) rfl #[.string (rdOf ByteArray.empty t114 (ji4)), .int .u8 118] rfl (by (try simp only [List.map_toArray, List.map_cons, List.map_nil]); first | done | (simp only [hji4]; rfl) | rfl | (simp only [List.length_drop, List.length_take]; rfl)) ?_; (with_reducible refine (jigsawref06_has.calls kj21 (rdOf ByteArray.empty t114 (ji4)) 118 t118 _ A24.out).mono ?_); rintro e w' ⟨rfl, ⟨nd, rfl⟩⟩; refine ⟨_, rfl, ?_⟩; (try (rw [drewN_self wc]; generalize hq_ : World.drewN wc _ = wc; replace BK111 : Aside0 (wc.heap[gb111]? = some (.cells #[.int .u8 a0_0, .slice A0_1 l0_1.length c0_1, .slice A0_2 l0_2.length c0_2, .slice A0_3 l0_3.length c0_3, .int .i16 a0_4, .int .u8 a0_5] 26 (0, 0))) := ⟨by rw [← hq_]; exact (bk_ BK111.out)⟩; replace BK112 : Aside0 (wc.heap[gb112]? = some (.cells #[.int .i64 0, .slice none 0 0, .slice none 0 0, .slice none 0 0, .slice none 0 0, .slice none 0 0, .int .i64 0, .slice none 0 0] 32 (0, 0))) := ⟨by rw [← hq_]; exact (bk_ BK112.out)⟩; replace BK113 : Aside0 (wc.heap[gb113]? = some (.cells #[.int .i64 ji4, .slice none 0 0, .slice none 0 0, .slice none 0 0, .slice none 0 0, .slice none 0 0, .int .i64 0, .slice none 0 0] 32 (0, 0))) := ⟨by rw [← hq_]; exact (bk_ BK113.out)⟩; replace HB : Aside0 (Below w.heap.size w wc) := ⟨by rw [← hq_]; exact bel_⟩; clear hq_)); (try (obtain ⟨_, _, _, _, _, _, _, _, _, _, _, _⟩ := cel6_ BK111.out)); (try (obtain ⟨_, _, _, _, _, _, _, _, _, _, _, _, _, _, _, _⟩ := cel8_ BK112.out)); (try (obtain ⟨_, _, _, _, _, _, _, _, _, _, _, _, _, _, _, _⟩ := cel8_ BK113.out)); have hnb43 := NB111_112.out; have hnc43 := NB112_111.out; have hnb44 := NB111_113.out; have hnc44 := NB113_111.out; obtain ⟨_, _, _, _, _, _, _, _, _, _, _, _⟩ := cel6_ BK111.out) | ((with_reducible refine gate_callee (f := 38) rfl ?_); refine goesL_ (some 40) rfl rfl Tryz.func38 (by kernel_rfl) rfl #[.slice A0_1 l0_1.length c0_1, .int .i64 x7_21, .int .i64 a1] rfl ar_ ?_; (with_reducible refine (jigsawref06_places.calls kj21 _ _ l0_1 x7_21 a1 t119 _ ?_ ?_ A26.out).mono ?_); exact ca_ ((Kd.C_below HR0_1.out HB.out)); exact HC0_1.out; rintro e w46 ⟨v120, rfl, ho0, hb⟩; refine ⟨_, rfl, ?_⟩; have HO121 := Aside0.mk (Kd.R_lower ho0 (below_size bel_)); replace BK111 := Aside0.mk (blk_below (bk_ BK111.out) hb); replace BK112 := Aside0.mk (blk_below (bk_ BK112.out) hb); replace BK113 := Aside0.mk (blk_below (bk_ BK113.out) hb); replace HB := Aside0.mk (below_step bel_ hb); clear hb ho0; obtain ⟨Ao47, co47, eo47⟩ := Kd.R_slice HO121.out; subst eo47; have hnb48 := NB113_112.out; have hnc48 := NB112_113.out; obtain ⟨_, _, _, _, _, _, _, _, _, _, _, _, _, _, _, _⟩ := cel8_ BK113.out) | ((with_reducible refine gate_callee (f := 37) rfl ?_); refine goesL_ (some 43) rfl rfl Tryz.func37 (by kernel_rfl) rfl #[.string (rdOf ByteArray.empty t114 (ji4)), .int .u8 119] rfl (by (try simp only [List.map_toArray, List.map_cons, List.map_nil]); first | done | (simp only [hji4]; rfl) | rfl | (simp only [List.length_drop, List.length_take]; rfl)) ?_; (with_reducible refine (jigsawref06_has.calls kj21 (rdOf ByteArray.empty t114 (ji4)) 119 t122 _ A27.out).mono ?_); rintro e w' ⟨rfl, ⟨nd, rfl⟩⟩; refine ⟨_, rfl, ?_⟩) | ((with_reducible refine gate_callee (f := 37) rfl ?_); refine goesL_ (some 51) rfl rfl Tryz.func37 (by kernel_rfl) rfl #[.string (rdOf ByteArray.empty t114 (ji4)), .int .u8 87] rfl (by (try simp only [List.map_toArray, List.map_cons, List.map_nil]); first | done | (simp only [hji4]; rfl) | rfl | (simp only [List.length_drop, List.length_take]; rfl)) ?_; (with_reducible refine (jigsawref06_has.calls kj21 (rdOf ByteArray.empty t114 (ji4)) 87 t123 _ A29.out).mono ?_); rintro e w' ⟨rfl, ⟨nd, rfl⟩⟩; refine ⟨_, rfl, ?_⟩; obtain ⟨_, _, _, _, _, _, _, _, _, _, _, _⟩ := cel6_ BK111.out) | ((with_reducible refine gate_callee (f := 38) rfl ?_); refine goesL_ (some 57) rfl rfl Tryz.func38 (by kernel_rfl) rfl #[.slice A0_2 l0_2.length c0_2, .int .i64 x7_21, .int .i64 a1] rfl ar_ ?_; (with_reducible refine (jigsawref06_places.calls kj21 _ _ l0_2 x7_21 a1 t124 _ ?_ ?_ A31.out).mono ?_); exact Kd.C_below HR0_2.out bel_; exact HC0_2.out; rintro e w51 ⟨v125, rfl, ho0, hb⟩; refine ⟨_, rfl, ?_⟩; have HO126 := Aside0.mk (Kd.R_lower (Kd.R_new' ho0 (Kd.R_lt (by refine vR_ ?_; exact (Kd.R_mono (Kd.R_far (Kd.R_types HO121.out BK113.out (by decide)) (fun _ hk => hk.2) _) (fun _ h_ => h_.1))))) (below_size bel_)); replace HO121 := Aside0.mk (Kd.R_elder' (by refine vR_ ?_; exact (Kd.R_mono (Kd.R_far (Kd.R_types HO121.out BK113.out (by decide)) (fun _ hk => hk.2) _) (fun _ h_ => h_.1))) (Kd.R_base ho0) hb); replace BK112 := Aside0.mk (blk_below (g := gb112) (o := .cells #[.int .i64 0, .slice none 0 0, .slice none 0 0, .slice none 0 0, .slice none 0 0, .slice none 0 0, .int .i64 0, .slice none 0 0] 32 (0, 0)) (by refine bk_ ?_; refine blk_far ?_ NB112_113.out _; refine bk_ ?_; exact BK112.out) hb); replace BK113 := Aside0.mk (blk_below (g := gb113) (o := .cells #[.int .i64 ji4, .slice Ao47 t119.length co47, .slice none 0 0, .slice none 0 0, .slice none 0 0, .slice none 0 0, .int .i64 0, .slice none 0 0] 32 (0, 0)) (by refine bk_ ?_; refine blk_put (cs := #[.int .i64 ji4, .slice none 0 0, .slice none 0 0, .slice none 0 0, .slice none 0 0, .slice none 0 0, .int .i64 0, .slice none 0 0]) ?_ 1 _ rfl; refine bk_ ?_; exact BK113.out) hb); replace HB := Aside0.mk (below_step bel_ hb); clear hb ho0; obtain ⟨Ao52, co52, eo52⟩ := Kd.R_slice HO126.out; subst eo52; obtain ⟨_, _, _, _, _, _, _, _, _, _, _, _, _, _, _, _⟩ := cel8_ BK113.out) | ((with_reducible refine gate_callee (f := 37) rfl ?_); refine goesL_ (some 60) rfl rfl Tryz.func37 (by kernel_rfl) rfl #[.string (rdOf ByteArray.empty t114 (ji4)), .int .u8 99] rfl (by (try simp only [List.map_toArray, List.map_cons, List.map_nil]); first | done | (simp only [hji4]; rfl) | rfl | (simp only [List.length_drop, List.length_take]; rfl)) ?_; (with_reducible refine (jigsawref06_has.calls kj21 (rdOf ByteArray.empty t114 (ji4)) 99 t127 _ A32.out).mono ?_); rintro e w' ⟨rfl, ⟨nd, rfl⟩⟩; refine ⟨_, rfl, ?_⟩) | ((with_reducible refine gate_callee (f := 37) rfl ?_); refine goesL_ (some 80) rfl rfl Tryz.func37 (by kernel_rfl) rfl #[.string (rdOf ByteArray.empty t114 (ji4)), .int .u8 107] rfl (by (try simp only [List.map_toArray, List.map_cons, List.map_nil]); first | done | (simp only [hji4]; rfl) | rfl | (simp only [List.length_drop, List.length_take]; rfl)) ?_; (with_reducible refine (jigsawref06_has.calls kj21 (rdOf ByteArray.empty t114 (ji4)) 107 t128 _ A35.out).mono ?_); rintro e w' ⟨rfl, ⟨nd, rfl⟩⟩; refine ⟨_, rfl, ?_⟩; obtain ⟨_, _, _, _, _, _, _, _, _, _, _, _, _, _, _, _⟩ := cel8_ BK112.out))
                refine bodyPost_ret (results_cell_row rfl _ _ gb112 32 #[.int .i64 ji4, .slice Ao47 t119.length co47, .slice Ao52 t124.length co52, .slice none 0 0, .slice none 0 0, .slice none 0 0, .int .i64 0, .slice none 0 0] (0, 0) _ rfl (by refine bk_ ?_; refine blk_put (cs := #[.int .i64 ji4, .slice Ao47 t119.length co47, .slice Ao52 t124.length co52, .slice none 0 0, .slice none 0 0, .slice none 0 0, .int .i64 0, .slice none 0 0]) ?_ 7 _ rfl; refine bk_ ?_; refine blk_put (cs := #[.int .i64 ji4, .slice Ao47 t119.length co47, .slice Ao52 t124.length co52, .slice none 0 0, .slice none 0 0, .slice none 0 0, .int .i64 0, .slice none 0 0]) ?_ 6 _ rfl; refine bk_ ?_; refine blk_put (cs := #[.int .i64 ji4, .slice Ao47 t119.length co47, .slice Ao52 t124.length co52, .slice none 0 0, .slice none 0 0, .slice none 0 0, .int .i64 0, .slice none 0 0]) ?_ 5 _ rfl; refine bk_ ?_; refine blk_put (cs := #[.int .i64 ji4, .slice Ao47 t119.length co47, .slice Ao52 t124.length co52, .slice none 0 0, .slice none 0 0, .slice none 0 0, .int .i64 0, .slice none 0 0]) ?_ 4 _ rfl; refine bk_ ?_; refine blk_put (cs := #[.int .i64 ji4, .slice Ao47 t119.length co47, .slice Ao52 t124.length co52, .slice none 0 0, .slice none 0 0, .slice none 0 0, .int .i64 0, .slice none 0 0]) ?_ 3 _ rfl; refine bk_ ?_; refine blk_put (cs := #[.int .i64 ji4, .slice Ao47 t119.length co47, .slice none 0 0, .slice none 0 0, .slice none 0 0, .slice none 0 0, .int .i64 0, .slice none 0 0]) ?_ 2 _ rfl; refine bk_ ?_; refine blk_put (cs := #[.int .i64 ji4, .slice none 0 0, .slice none 0 0, .slice none 0 0, .slice none 0 0, .slice none 0 0, .int .i64 0, .slice none 0 0]) ?_ 1 _ rfl; refine bk_ ?_; refine blk_put (cs := #[.int .i64 0, .slice none 0 0, .slice none 0 0, .slice none 0 0, .slice none 0 0, .slice none 0 0, .int .i64 0, .slice none 0 0]) ?_ 0 _ rfl; refine bk_ ?_; refine blk_far ?_ NB112_113.out _; refine bk_ ?_; exact BK112.out) Tryz.underlying32 rfl (by kernel_rfl)) rfl ?_
                exact ⟨_, _, _, _, _, _, by first | rfl | (simp [errW_none, errW_some] <;> rfl) | (simp only [← hji4]; first | rfl | (simp [errW_none, errW_some] <;> rfl)) | (simp [*, errW_none, errW_some] <;> rfl), by refine vR_ ?_; exact Kd.R_mono (Kd.R_far (Kd.R_far (Kd.R_far (Kd.R_far (Kd.R_far (Kd.R_far (Kd.R_far (Kd.R_far (Kd.R_far (Kd.R_types (Kd.R_types HO121.out BK113.out (by decide)) BK112.out (by decide)) (fun _ hk => hk.1.2) (.slice Ao52 t124.length co52)) (fun _ hk => hk.2) _) (fun _ hk => hk.2) _) (fun _ hk => hk.2) _) (fun _ hk => hk.2) _) (fun _ hk => hk.2) _) (fun _ hk => hk.2) _) (fun _ hk => hk.2) _) (fun _ hk => hk.2) _) (fun _ hk => ⟨hk.1.1.2, ⟨(by simp [Value.ownBlock]), ⟨(by simp [Value.ownBlock]), (by simp [Value.ownBlock])⟩⟩⟩), by refine vR_ ?_; exact Kd.R_mono (Kd.R_far (Kd.R_far (Kd.R_far (Kd.R_far (Kd.R_far (Kd.R_far (Kd.R_far (Kd.R_far (Kd.R_far (Kd.R_types (Kd.R_types HO126.out BK113.out (by decide)) BK112.out (by decide)) (fun _ hk => hk.1.2) (.slice Ao52 t124.length co52)) (fun _ hk => hk.2) _) (fun _ hk => hk.2) _) (fun _ hk => hk.2) _) (fun _ hk => hk.2) _) (fun _ hk => hk.2) _) (fun _ hk => hk.2) _) (fun _ hk => hk.2) _) (fun _ hk => hk.2) _) (fun _ hk => ⟨hk.1.1.2, ⟨(by simp [Value.ownBlock]), ⟨(by simp [Value.ownBlock]), (by simp [Value.ownBlock])⟩⟩⟩), by first | exact Kd.R_nil _ _ _ _ _ | exact Kd.N_nil _ _ _ _ _ | exact Kd.V_nil _ _ _ _ _ | exact Kd.Q_nil _ _ _ _ _ | exact Kd.S_nil _ _ _ _ _, by first | exact Kd.R_nil _ _ _ _ _ | exact Kd.N_nil _ _ _ _ _ | exact Kd.V_nil _ _ _ _ _ | exact Kd.Q_nil _ _ _ _ _ | exact Kd.S_nil _ _ _ _ _, by first | exact Kd.R_nil _ _ _ _ _ | exact Kd.N_nil _ _ _ _ _ | exact Kd.V_nil _ _ _ _ _ | exact Kd.Q_nil _ _ _ _ _ | exact Kd.S_nil _ _ _ _ _, by first | exact Kd.S_nil _ _ _ _ _ | exact Kd.N_nil _ _ _ _ _ | exact Kd.V_nil _ _ _ _ _ | exact Kd.Q_nil _ _ _ _ _ | exact Kd.R_nil _ _ _ _ _, bel_⟩
         ·
          rw [if_neg c30] at H
          exact absurd H (by simp)
  ·
   rw [if_neg c6] at H
   exact absurd H (by simp)
 ·
  rw [if_neg c5] at H
  exact absurd H (by simp)

end Go.Proofs.YtmhchlbbfpmdgaaGreatDoor.XClauseKeeps
