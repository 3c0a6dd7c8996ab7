-- by xprint.py, a program of this session, over the kit's print
import Derived.Test.YtmhchlbbfpmdgaaGreatDoorXCKex0
import Derived.Test.YtmhchlbbfpmdgaaGreatDoorXCKex12
import Derived.Test.YtmhchlbbfpmdgaaGreatDoorXCKex18
import Derived.Test.YtmhchlbbfpmdgaaGreatDoorSq
namespace Go.Proofs.YtmhchlbbfpmdgaaGreatDoor.XClauseKeeps
open Go.RowKit Go.Proofs.YtmhchlbbfpmdgaaGreatDoor.Sq Go.Proofs.YtmhchlbbfpmdgaaGreatDoorW.PrintWords Go.Proofs.YtmhchlbbfpmdgaaGreatDoorW.PrintLast Go.Proofs.YtmhchlbbfpmdgaaGreatDoorW.PrintMore
attribute [local go_sem] max2_int min2_int max_two min_two max_three min_three max_four min_four   -- for this text's walks alone
set_option linter.unusedVariables false
set_option linter.unusedSimpArgs false

/-! ### jigsawlaw14_doms: function 10 -/
def jigsawlaw14_doms.l0 : Nat → List (S58) → List (List Int) → Int → Int → Option ((List (S58)))
 | 0, _, _, _, _ => none
 | k + 1, x3, x8, x9, x10 => if x10 < x9 then (if 0 ≤ x10 then (if x10 < (x8.length : Int) then ((dom_Of.f k (rd_L7 x8 x10)).bind fun bt373 => (if x3.length < 2513169434916 then (jigsawlaw14_doms.l0 k (x3 ++ [(⟨bt373.1, bt373.2.1, bt373.2.2.1, bt373.2.2.2.1, bt373.2.2.2.2.1⟩ : S58)]) x8 x9 (wrap64 (x10 + 1))) else (none))) else (none)) else (none)) else (some x3)
def jigsawlaw14_doms.f (k : Nat) (l0 : List (List Int)) : Option ((List (S58))) := jigsawlaw14_doms.l0 k ([] : List (S58)) l0 (l0.length : Int) 0
theorem jigsawlaw14_doms.mono_l : ∀ k, (∀ y0 y1 y2 y3, LeO (jigsawlaw14_doms.l0 k y0 y1 y2 y3) (jigsawlaw14_doms.l0 (k + 1) y0 y1 y2 y3))
 | 0 => fun _ _ _ _ r h => by simp [jigsawlaw14_doms.l0] at h
 | k + 1 => by
  have ih0 := jigsawlaw14_doms.mono_l k
  ·
   intro y0 y1 y2 y3
   unfold jigsawlaw14_doms.l0
   have m0 := @dom_Of.mono
   exact leo_
theorem jigsawlaw14_doms.mono : ∀ a0 k, LeO (jigsawlaw14_doms.f k a0) (jigsawlaw14_doms.f (k + 1) a0) := by
 intro a0 k
 have ih0 := jigsawlaw14_doms.mono_l k
 unfold jigsawlaw14_doms.f
 have m0 := @dom_Of.mono
 exact leo_
set_option maxHeartbeats 8000000 in
set_option maxRecDepth 100000 in
theorem jigsawlaw14_doms.calls (k : Nat) (A0 : Option Addr) (c0 : Nat) (l0 : List (List Int)) (r : List (S58)) (w : World) (hr0 : Kd.C (Kd.slice 3 (Kd.int .i64)) w A0 l0.length l0) (hc0 : l0.length ≤ c0) (hrtab : Kd.C (Kd.int .u8) w (some ⟨0, 0, none⟩) tabL.length tabL) (h : jigsawlaw14_doms.f k l0 = some r) :
  Calls Tryz.prog 10 #[.slice A0 l0.length c0] w fun e w' => ∃ v0_ : Value, e = .returned (v0_) ∧ Kd.N k58 58 w' w.heap.size (fun k_ => (w.heap.size ≤ k_)) v0_ r ∧ Below w.heap.size w w' := by
 have hu58 := Tryz.underlying58
 have HR0 := Aside0.mk hr0
 have HC0 := Aside0.mk hc0
 clear hr0 hc0
 have HRtab := Aside0.mk hrtab
 clear hrtab
 have HB := Aside0.mk (Below.refl w.heap.size w)
 have H : (jigsawlaw14_doms.l0 k ([] : List (S58)) l0 (l0.length : Int) 0) = some r := h
 clear h
 have H' := Aside0.mk H
 clear H
 go_enter Tryz.func10, Tryz.ntmps10
 go_wp2
 go_loopg [3, 10] k (fun kq v3 v10 w' => ∃ (x3_1 : List (S58)) (x10_1 : Int), v10 = .int .i64 x10_1 ∧ Aside0 (jigsawlaw14_doms.l0 kq x3_1 l0 (l0.length : Int) x10_1 = some r) ∧ Aside0 (kq ≤ k) ∧ Aside0 (Kd.N k58 58 w' w.heap.size (fun k_ => (w.heap.size ≤ k_)) v3 x3_1) ∧ Aside0 (Below w.heap.size w w'))
 case atStart => exact ⟨(([] : List (S58))), (0), eq_, H', ⟨Nat.le_refl _⟩, ⟨nil_⟩, ⟨bel_⟩⟩
 case round =>
  clear H'
  try clear c1
  obtain ⟨x3_1, x10_1, rfl, HA, HK1, HO_3, HB⟩ := hrel
  cases gk with
  | zero => exact absurd HA.out (by simp [jigsawlaw14_doms.l0])
  | succ k1 =>
   have H := HA.out
   clear HA
   simp only [jigsawlaw14_doms.l0] at H
   by_cases c2 : x10_1 < (l0.length : Int)
   ·
    rw [if_pos c2] at H
    have c2b0 : decide (x10_1 < (l0.length : Int)) = true := decide_eq_true c2
    clear c2
    by_cases c3 : 0 ≤ x10_1
    ·
     rw [if_pos c3] at H
     have c3b0 : decide (0 ≤ x10_1) = true := decide_eq_true c3
     clear c3
     by_cases c4 : x10_1 < (l0.length : Int)
     ·
      rw [if_pos c4] at H
      have c4b0 : decide (x10_1 < (l0.length : Int)) = true := decide_eq_true c4
      clear c4
      replace H := Option.bind_eq_some_iff.mp H
      obtain ⟨⟨t373, t374, t377, t378, t379, t380⟩, A50, H⟩ := H
      try dsimp only at H
      have A5 := Aside0.mk A50
      clear A50
      by_cases c6 : x3_1.length < 2513169434916
      ·
       rw [if_pos c6] at H
       have LMc6 := Aside0.mk c6
       clear c6
       obtain ⟨y382, hy382⟩ : ∃ y_ : List (S58), y_ = (x3_1 ++ [(⟨t373, t374, t377, t378, t379⟩ : S58)]) := ⟨_, rfl⟩
       replace H : (jigsawlaw14_doms.l0 k1 y382 l0 (l0.length : Int) (wrap64 (x10_1 + 1))) = some r := by first | (rw [hy382]; with_reducible exact H) | (have H2_ := (Option.bind_some _ _).symm.trans H; rw [hy382]; with_reducible exact H2_) | (have H2_ := (Option.bind_some _ _).symm.trans H; with_reducible exact H2_) | with_reducible exact H | (rw [hy382]; exact H) | exact H
       have Ny382 := Aside0.mk hy382
       clear hy382
       have H' := Aside0.mk H
       clear H
       have p372 : 0 ≤ (x10_1 : Int) := dq_
       have q372 : x10_1 < (l0.length : Int) := dq_
       obtain ⟨ad372, A372_0, c372_0, e372, hx372_0, hl372_0, hi372_0⟩ := at_L7 HR0.out x10_1 p372 q372
       cases e372
       replace hx372_0 := (HB.out.cell (World.block_lt_of_cell? w _ hx372_0)).trans hx372_0
       have HR372_0 := Aside0.mk hi372_0
       have HC372_0 := Aside0.mk hl372_0
       clear hi372_0 hl372_0
       replace p372 := eq_true p372
       replace q372 := eq_true q372
       go_wp2_with (first | ((with_reducible refine gate_callee (f := 30) rfl ?_); refine goesL_ (some 16) rfl rfl Tryz.func30 (by kernel_rfl) rfl #[.slice A372_0 (rd_L7 l0 x10_1).length c372_0] rfl ar_ ?_; (with_reducible refine (dom_Of.calls k1 _ _ (rd_L7 l0 x10_1) t373 t374 t377 t378 t379 t380 _ ?_ ?_ ?_ A5.out).mono ?_); exact ca_ ((Kd.C_below HR372_0.out HB.out)); exact HC372_0.out; exact ca_ ((Kd.C_below HRtab.out HB.out)); rintro e w7 ⟨v375, rfl, ho0, hb⟩; refine ⟨_, rfl, ?_⟩; have HO376 := Aside0.mk (Kd.V_lower (Kd.V_mono (ok' := fun k_ => (w.heap.size ≤ k_) ∧ some k_ ≠ (u3 : Value).ownBlock) ho0 (fun k_ hk_ => ⟨(Nat.le_trans (below_size bel_) hk_), (Kd.fresh' (Kd.N_lt (vN_ HO_3.out)) k_ hk_)⟩)) (below_size bel_)); replace HO_3 := Aside0.mk (Kd.N_below (vN_ HO_3.out) hb); replace HB := Aside0.mk (below_step bel_ hb); clear hb ho0) | ((with_reducible refine gate_dst (N := 6) rfl ?_); refine bxe_ (N := 6) (cs := #[.int .i64 0, .slice none 0 0, .int .i64 0, .int .i64 0, .int .i64 0]) (t := 58) ?_; intro gb381 hg w8 hbox hb; replace HO_3 := Aside0.mk (Kd.N_below (Kd.N_elderB (vN_ HO_3.out) gb381 (Nat.le_of_eq hg.symm)) hb); replace HO376 := Aside0.mk (Kd.V_below (Kd.V_elderB (vV_ HO376.out) gb381 (Nat.le_of_eq hg.symm)) hb); have BK381 := Aside0.mk (hbox); have GW381 := Aside0.mk (by rw [hg]; exact (below_size bel_) : w.heap.size ≤ gb381); have GE381 := GW381; replace HB := Aside0.mk (below_step bel_ hb); clear hb hbox hg; obtain ⟨_, _, _, _, _, _, _, _, _, _⟩ := cel5_ BK381.out; obtain ⟨Ao10, co10, eo10⟩ := Kd.V_slice HO376.out; subst eo10) | ((with_reducible refine gate_store (t := 58) (p := 6) rfl ?_); refine store_event (t := 58) (p := 6) (v := ?vo_w11) (w1 := (((((w8.setCell ⟨gb381, 0, none⟩ (.int .i64 t373)).setCell ⟨gb381, 1, none⟩ (.slice Ao10 t374.length co10)).setCell ⟨gb381, 2, none⟩ (.int .i64 t377)).setCell ⟨gb381, 3, none⟩ (.int .i64 t378)).setCell ⟨gb381, 4, none⟩ (.int .i64 t379))) ?hg ?ho ?hn ?hr ?_; (case ho => rfl); (case hg => rfl); (case hn => rfl); (case hr => first | (go_simp; done) | (go_simp; rfl)); intro w11 hw; replace HO_3 : Aside0 (Kd.N k58 58 w11 w.heap.size (fun k_ => (w.heap.size ≤ k_) ∧ k_ ≠ gb381) u3 x3_1) := ⟨(by rw [hw]; exact (by refine vN_ ?_; exact Kd.N_mono (Kd.N_far (Kd.N_far (Kd.N_far (Kd.N_far (Kd.N_far (Kd.N_mono HO_3.out (fun k_ hk => (⟨hk, hk.2⟩ : _ ∧ k_ ≠ gb381))) (fun _ hk => hk.2) _) (fun _ hk => hk.2) _) (fun _ hk => hk.2) _) (fun _ hk => hk.2) _) (fun _ hk => hk.2) _) (fun _ hk => ⟨hk.1.1, hk.1.2⟩)))⟩; replace HO376 : Aside0 (Kd.V (Kd.int .u64) 80 w11 w.heap.size (fun k_ => (w.heap.size ≤ k_) ∧ some k_ ≠ (u3 : Value).ownBlock ∧ k_ ≠ gb381) (.slice Ao10 t374.length co10) t374) := ⟨(by rw [hw]; exact (by refine vV_ ?_; exact Kd.V_mono (Kd.V_far (Kd.V_far (Kd.V_far (Kd.V_far (Kd.V_far (Kd.V_mono HO376.out (fun k_ hk => (⟨hk, hk.2⟩ : _ ∧ k_ ≠ gb381))) (fun _ hk => hk.2) _) (fun _ hk => hk.2) _) (fun _ hk => hk.2) _) (fun _ hk => hk.2) _) (fun _ hk => hk.2) _) (fun _ hk => ⟨hk.1.1.1, ⟨hk.1.1.2, hk.1.2⟩⟩)))⟩; replace BK381 : Aside0 (w11.heap[gb381]? = some (.cells #[.int .i64 t373, .slice Ao10 t374.length co10, .int .i64 t377, .int .i64 t378, .int .i64 t379] 58 (0, 0))) := ⟨(by rw [hw]; exact (by refine bk_ ?_; refine blk_put (cs := #[.int .i64 t373, .slice Ao10 t374.length co10, .int .i64 t377, .int .i64 t378, .int .i64 0]) ?_ 4 _ rfl; refine bk_ ?_; refine blk_put (cs := #[.int .i64 t373, .slice Ao10 t374.length co10, .int .i64 t377, .int .i64 0, .int .i64 0]) ?_ 3 _ rfl; refine bk_ ?_; refine blk_put (cs := #[.int .i64 t373, .slice Ao10 t374.length co10, .int .i64 0, .int .i64 0, .int .i64 0]) ?_ 2 _ rfl; refine bk_ ?_; refine blk_put (cs := #[.int .i64 t373, .slice none 0 0, .int .i64 0, .int .i64 0, .int .i64 0]) ?_ 1 _ rfl; refine bk_ ?_; refine blk_put (cs := #[.int .i64 0, .slice none 0 0, .int .i64 0, .int .i64 0, .int .i64 0]) ?_ 0 _ rfl; refine bk_ ?_; exact BK381.out))⟩; replace HB : Aside0 (Below w.heap.size w w11) := ⟨(by rw [hw]; exact bel_)⟩; clear hw; obtain ⟨_, _, _, _, _, _, _, _, _, _⟩ := cel5_ BK381.out) | ((with_reducible refine gate_builtin (b := .append) (xs := #[.tmp 19, .tmp 21]) rfl ?_); at_builtin; refine Kd.N_append k58 (w0 := w) w.heap.size rfl (.tmp 19) (.tmp 21) 36 58 (.agg #[(.int .i64 0), (.slice none 0 0), (.int .i64 0), (.int .i64 0), (.int .i64 0)]) 56 rfl Tryz.underlying36 info58 rfl (by decide) (by omega) u3 x3_1 (⟨t373, t374, t377, t378, t379⟩ : S58) [.int .i64 t373, .slice Ao10 t374.length co10, .int .i64 t377, .int .i64 t378, .int .i64 t379] (fun k_ => (w.heap.size ≤ k_) ∧ k_ ≠ gb381) (fun k_ => ((fun k_ => (w.heap.size ≤ k_) ∧ k_ ≠ gb381)) k_ ∧ some k_ ≠ (u3 : Value).ownBlock) rfl rfl ?aP (fun _ hk => hk) ?aF ?aO ?aB ?aS ?aL ?_; (case aP => exact (k58_mkF _ _ (⟨t373, t374, t377, t378, t379⟩ : S58) (Kd.V_reads' (Kd.V_mono (ok' := (fun k_ => ((fun k_ => (w.heap.size ≤ k_) ∧ k_ ≠ gb381)) k_ ∧ some k_ ≠ (u3 : Value).ownBlock)) (HO376.out) (fun k_ hk => ⟨⟨hk.1, hk.2.2⟩, hk.2.1⟩))).2.1 (Kd.V_F (Kd.V_mono (ok' := (fun k_ => ((fun k_ => (w.heap.size ≤ k_) ∧ k_ ≠ gb381)) k_ ∧ some k_ ≠ (u3 : Value).ownBlock)) (HO376.out) (fun k_ hk => ⟨⟨hk.1, hk.2.2⟩, hk.2.1⟩))))); (case aB => exact bel_); (case aF => exact (fun k_ hk => ⟨(Nat.le_trans (below_size bel_) hk), Kd.freshB (bk_ BK381.out) k_ hk⟩)); (case aO => exact (vN_ HO_3.out)); (case aS => exact (below_size bel_)); (case aL => have := LMc6.out; omega); intro v383 w13 ho hb hg hat; rw [← Ny382.out] at ho; replace HB := Aside0.mk (hb); have HO384 := Aside0.mk (ho); clear HO_3; clear ho hb hg hat))
       go_roundg k1
       case measure => have := HK1.out; omega
       case rel => exact ⟨(y382), (wrap64 (x10_1 + 1)), eq_, H', ⟨by have := HK1.out; omega⟩, ⟨by refine vN_ ?_; exact Kd.N_mono HO384.out (fun _ hk => hk.1)⟩, ⟨bel_⟩⟩
      ·
       rw [if_neg c6] at H
       exact absurd H (by simp)
     ·
      rw [if_neg c4] at H
      exact absurd H (by simp)
    ·
     rw [if_neg c3] at H
     exact absurd H (by simp)
   ·
    rw [if_neg c2] at H
    have c2b0 : decide (x10_1 < (l0.length : Int)) = false := decide_eq_false c2
    clear c2
    obtain rfl := Option.some.inj H
    go_wp2
    go_ret
    exact ⟨_, by first | rfl | (simp [errW_none, errW_some] <;> rfl) | (simp [*, errW_none, errW_some] <;> rfl), by refine vN_ ?_; exact HO_3.out, bel_⟩

/-! ### dom_Dom_List: function 22 -/
mutual
def dom_Dom_List.l0 : Nat → List Int → List Int → Int → Int → Int → List Int → Int → Int → Int → Option (List Int)
 | 0, _, _, _, _, _, _, _, _, _ => none
 | k + 1, x3, x7, x8, x9, x386000, x386001, x386002, x386003, x386004 => if x9 < x8 then (if 0 ≤ x9 then (if x9 < (x7.length : Int) then (dom_Dom_List.l1 k x3 x9 (rd x7 x9) x7 x8 x9 x386000 x386001 x386002 x386003 x386004) else (none)) else (none)) else (some x3)
def dom_Dom_List.l1 : Nat → List Int → Int → Int → List Int → Int → Int → Int → List Int → Int → Int → Int → Option (List Int)
 | 0, _, _, _, _, _, _, _, _, _, _, _ => none
 | k + 1, x3, x4, x5, x7, x8, x9, x386000, x386001, x386002, x386003, x386004 => if x5 = 0 then (dom_Dom_List.l0 k x3 x7 x8 (wrap64 (x9 + 1)) x386000 x386001 x386002 x386003 x386004) else ((bits_TrailingZeros64.f x5).bind fun t387 => (if x3.length < 17592186044416 then (dom_Dom_List.l1 k (x3 ++ [wrap64 ((wrap64 (x386000 + (wrap64 (64 * x4)))) + t387)]) x4 (Go.bits .and .u64 x5 (IntKind.u64.wrap (x5 - 1))) x7 x8 x9 x386000 x386001 x386002 x386003 x386004) else (none)))
end
def dom_Dom_List.f (k : Nat) (a0_0 : Int) (l0_1 : List Int) (a0_2 : Int) (a0_3 : Int) (a0_4 : Int) : Option (List Int) := dom_Dom_List.l0 k ([] : List Int) l0_1 (l0_1.length : Int) 0 a0_0 l0_1 a0_2 a0_3 a0_4
theorem dom_Dom_List.mono_l : ∀ k, (∀ y0 y1 y2 y3 y4 y5 y6 y7 y8, LeO (dom_Dom_List.l0 k y0 y1 y2 y3 y4 y5 y6 y7 y8) (dom_Dom_List.l0 (k + 1) y0 y1 y2 y3 y4 y5 y6 y7 y8)) ∧ (∀ y0 y1 y2 y3 y4 y5 y6 y7 y8 y9 y10, LeO (dom_Dom_List.l1 k y0 y1 y2 y3 y4 y5 y6 y7 y8 y9 y10) (dom_Dom_List.l1 (k + 1) y0 y1 y2 y3 y4 y5 y6 y7 y8 y9 y10))
 | 0 => ⟨fun _ _ _ _ _ _ _ _ _ r h => by simp [dom_Dom_List.l0] at h, fun _ _ _ _ _ _ _ _ _ _ _ r h => by simp [dom_Dom_List.l1] at h⟩
 | k + 1 => by
  obtain ⟨ih0, ih1⟩ := dom_Dom_List.mono_l k
  refine ⟨?_, ?_⟩
  ·
   intro y0 y1 y2 y3 y4 y5 y6 y7 y8
   unfold dom_Dom_List.l0
   exact leo_
  ·
   intro y0 y1 y2 y3 y4 y5 y6 y7 y8 y9 y10
   unfold dom_Dom_List.l1
   exact leo_
theorem dom_Dom_List.mono : ∀ a0 a1 a2 a3 a4 k, LeO (dom_Dom_List.f k a0 a1 a2 a3 a4) (dom_Dom_List.f (k + 1) a0 a1 a2 a3 a4) := by
 intro a0 a1 a2 a3 a4 k
 obtain ⟨ih0, ih1⟩ := dom_Dom_List.mono_l k
 unfold dom_Dom_List.f
 exact leo_
def dom_Dom_List.T7 : Bool × List (List Nat × List Nat) := (true, [([], []), ([], []), ([1], [1]), ([], []), ([3], [3]), ([2, 4], [2, 4]), ([], []), ([6], [6]), ([5, 7], [5, 7]), ([8], [8]), ([0, 9, 7], [0, 9]), ([10, 10, 0, 1, 2, 3, 4, 5, 6, 7, 8, 9, 10], [0, 10])])
def dom_Dom_List.B7 : List Nat := [0, 0, 2, 0, 8, 30, 0, 64, 254, 510, 1023, 2047]
theorem dom_Dom_List.tab7 : rtab .any (opsOf Tryz.f22 7) = dom_Dom_List.T7 := by kernel_rfl
theorem dom_Dom_List.bits7 : waitsOk dom_Dom_List.T7.2 dom_Dom_List.B7 = true := by kernel_rfl
set_option maxHeartbeats 8000000 in
set_option maxRecDepth 100000 in
theorem dom_Dom_List.calls (k : Nat) (a0_0 : Int) (A0_1 : Option Addr) (c0_1 : Nat) (l0_1 : List Int) (a0_2 : Int) (a0_3 : Int) (a0_4 : Int) (r : List Int) (w : World) (hr0_1 : Kd.C (Kd.int .u64) w A0_1 l0_1.length l0_1) (hc0_1 : l0_1.length ≤ c0_1) (hrtab : Kd.C (Kd.int .u8) w (some ⟨0, 0, none⟩) tabL.length tabL) (h : dom_Dom_List.f k a0_0 l0_1 a0_2 a0_3 a0_4 = some r) :
  Calls Tryz.prog 22 #[.agg #[.int .i64 a0_0, .slice A0_1 l0_1.length c0_1, .int .i64 a0_2, .int .i64 a0_3, .int .i64 a0_4]] w fun e w' => ∃ v0_ : Value, e = .returned (v0_) ∧ Kd.R (Kd.int .i64) 3 w' w.heap.size (fun _ => True) v0_ r ∧ Below w.heap.size w w' := by
 have hu58 := Tryz.underlying58
 have HR0_1 := Aside0.mk hr0_1
 have HC0_1 := Aside0.mk hc0_1
 clear hr0_1 hc0_1
 have HRtab := Aside0.mk hrtab
 clear hrtab
 have HB := Aside0.mk (Below.refl w.heap.size w)
 have H : (dom_Dom_List.l0 k ([] : List Int) l0_1 (l0_1.length : Int) 0 a0_0 l0_1 a0_2 a0_3 a0_4) = some r := h
 clear h
 have H' := Aside0.mk H
 clear H
 go_enter Tryz.func22, Tryz.ntmps22
 go_wp2_with (first | ((with_reducible refine gate_dst (N := 1) rfl ?_); refine bxe_ (N := 1) (cs := #[.int .i64 a0_0, .slice A0_1 l0_1.length c0_1, .int .i64 a0_2, .int .i64 a0_3, .int .i64 a0_4]) (t := 58) ?_; intro gb385 hg w2 hbox hb; have BK385 := Aside0.mk (hbox); have GW385 := Aside0.mk (by rw [hg]; exact (below_size bel_) : w.heap.size ≤ gb385); have GE385 := GW385; replace HB := Aside0.mk (below_step bel_ hb); clear hb hbox hg; obtain ⟨hcz3_0, hcz3_1, hcz3_2, hcz3_3, hcz3_4, hfz3_0, hfz3_1, hfz3_2, hfz3_3, hfz3_4⟩ := cel5_ BK385.out))
 go_loopg [3, 9] k (fun kq v3 v9 w' => ∃ (x3_1 : List Int) (x9_1 : Int), v9 = .int .i64 x9_1 ∧ Aside0 (dom_Dom_List.l0 kq x3_1 l0_1 (l0_1.length : Int) x9_1 a0_0 l0_1 a0_2 a0_3 a0_4 = some r) ∧ Aside0 (kq ≤ k) ∧ Aside0 (Kd.R (Kd.int .i64) 3 w' w.heap.size (fun _ => True) v3 x3_1) ∧ Aside0 (w'.heap[gb385]? = some (.cells #[.int .i64 a0_0, (.slice A0_1 l0_1.length c0_1), .int .i64 a0_2, .int .i64 a0_3, .int .i64 a0_4] 58 (0, 0))) ∧ Aside0 (Below w.heap.size w w'))
 case atStart => exact ⟨(([] : List Int)), (0), eq_, H', ⟨Nat.le_refl _⟩, ⟨nil_⟩, ⟨by refine bk_ ?_; exact BK385.out⟩, ⟨bel_⟩⟩
 case round =>
  clear H'
  try clear c2
  try clear p2
  try clear hcz3_0
  try clear hcz3_1
  try clear hcz3_2
  try clear hcz3_3
  try clear hcz3_4
  try clear hfz3_0
  try clear hfz3_1
  try clear hfz3_2
  try clear hfz3_3
  try clear hfz3_4
  obtain ⟨x3_1, x9_1, rfl, HA, HK1, HO_3, BK385, HB⟩ := hrel
  cases gk with
  | zero => exact absurd HA.out (by simp [dom_Dom_List.l0])
  | succ k1 =>
   have H := HA.out
   clear HA
   simp only [dom_Dom_List.l0] at H
   by_cases c4 : x9_1 < (l0_1.length : Int)
   ·
    rw [if_pos c4] at H
    have c4b0 : decide (x9_1 < (l0_1.length : Int)) = true := decide_eq_true c4
    clear c4
    by_cases c5 : 0 ≤ x9_1
    ·
     rw [if_pos c5] at H
     have c5b0 : decide (0 ≤ x9_1) = true := decide_eq_true c5
     clear c5
     by_cases c6 : x9_1 < (l0_1.length : Int)
     ·
      rw [if_pos c6] at H
      have c6b0 : decide (x9_1 < (l0_1.length : Int)) = true := decide_eq_true c6
      clear c6
      have H' := Aside0.mk H
      clear H
      have p386 : 0 ≤ (x9_1 : Int) := dq_
      have q386 : x9_1 < (l0_1.length : Int) := dq_
      obtain ⟨ad386, e386, hx386_0⟩ := Kd.at_int HR0_1.out x9_1 p386 q386
      cases e386
      replace hx386_0 := (HB.out.cell (World.block_lt_of_cell? w _ hx386_0)).trans hx386_0
      replace p386 := eq_true p386
      replace q386 := eq_true q386
      go_wp2
      go_loopg [3, 5] k1 (fun kq v3 v5 w' => ∃ (x3_2 : List Int) (x5_2 : Int), v5 = .int .u64 x5_2 ∧ Aside0 (dom_Dom_List.l1 kq x3_2 x9_1 x5_2 l0_1 (l0_1.length : Int) x9_1 a0_0 l0_1 a0_2 a0_3 a0_4 = some r) ∧ Aside0 (kq ≤ k1) ∧ Aside0 (Kd.R (Kd.int .i64) 3 w' w.heap.size (fun _ => True) v3 x3_2) ∧ Aside0 (w'.heap[gb385]? = some (.cells #[.int .i64 a0_0, (.slice (some ad386) l0_1.length c0_1), .int .i64 a0_2, .int .i64 a0_3, .int .i64 a0_4] 58 (0, 0))) ∧ Aside0 (Below w.heap.size w w'))
      case atStart => exact ⟨(x3_1), (rd l0_1 x9_1), eq_, H', ⟨Nat.le_refl _⟩, ⟨by refine vR_ ?_; exact HO_3.out⟩, ⟨by refine bk_ ?_; exact BK385.out⟩, ⟨bel_⟩⟩
      case round =>
       clear H'
       try clear c2
       try clear p2
       try clear p3
       try clear q3
       try clear hx3
       try clear c4
       try clear c4b0
       try clear c5
       try clear c5b0
       try clear c6
       try clear c6b0
       try clear hcz3_0
       try clear hcz3_1
       try clear hcz3_2
       try clear hcz3_3
       try clear hcz3_4
       try clear hfz3_0
       try clear hfz3_1
       try clear hfz3_2
       try clear hfz3_3
       try clear hfz3_4
       try clear hx386_0
       try clear p2
       try clear p386
       try clear q386
       obtain ⟨x3_2, x5_2, rfl, HA, HK2, HO_3, BK385, HB⟩ := hrel
       cases gk with
       | zero => exact absurd HA.out (by simp [dom_Dom_List.l1])
       | succ k2 =>
        have H := HA.out
        clear HA
        simp only [dom_Dom_List.l1] at H
        by_cases c7 : x5_2 = 0
        ·
         rw [if_pos c7] at H
         have c7b0 : (x5_2 == 0) = true := beq_iff_eq.mpr c7
         have c7b1 : (x5_2 != 0) = false := bne_eq_false_iff_eq.mpr c7
         clear c7
         have H' := Aside0.mk H
         clear H
         go_wp2
         go_roundg k2
         case measure => have := HK1.out; have := HK2.out; omega
         case rel => exact ⟨(x3_2), (wrap64 (x9_1 + 1)), eq_, H', ⟨by have := HK1.out; have := HK2.out; omega⟩, ⟨by refine vR_ ?_; exact HO_3.out⟩, ⟨by refine bk_ ?_; exact BK385.out⟩, ⟨bel_⟩⟩
        ·
         rw [if_neg c7] at H
         have c7b0 : (x5_2 == 0) = false := beq_eq_false_iff_ne.mpr c7
         have c7b1 : (x5_2 != 0) = true := bne_iff_ne.mpr c7
         replace H := Option.bind_eq_some_iff.mp H
         obtain ⟨t387, A80, H⟩ := H
         try dsimp only at H
         have A8 := Aside0.mk A80
         clear A80
         by_cases c9 : x3_2.length < 17592186044416
         ·
          rw [if_pos c9] at H
          have LMc9 := Aside0.mk c9
          clear c9
          obtain ⟨y388, hy388⟩ : ∃ y_ : List Int, y_ = (x3_2 ++ [wrap64 ((wrap64 (a0_0 + (wrap64 (64 * x9_1)))) + t387)]) := ⟨_, rfl⟩
          replace H : (dom_Dom_List.l1 k2 y388 x9_1 (Go.bits .and .u64 x5_2 (IntKind.u64.wrap (x5_2 - 1))) l0_1 (l0_1.length : Int) x9_1 a0_0 l0_1 a0_2 a0_3 a0_4) = some r := by first | (rw [hy388]; with_reducible exact H) | (have H2_ := (Option.bind_some _ _).symm.trans H; rw [hy388]; with_reducible exact H2_) | (have H2_ := (Option.bind_some _ _).symm.trans H; with_reducible exact H2_) | with_reducible exact H | (rw [hy388]; exact H) | exact H
          have Ny388 := Aside0.mk hy388
          clear hy388
          have H' := Aside0.mk H
          clear H
          try go_wp2
          replace HO_3 := Aside0.mk (Kd.R_drew HO_3.out)
          replace BK385 := Aside0.mk (blk_drew BK385.out)
          replace HB := Aside0.mk (below_drew1 HB.out)
          refine start_ (n := 12) (S := fun w' => w'.cell? ⟨gb385, 0, none⟩ = some (.int .i64 a0_0) ∧ w'.cell? ⟨gb385, 1, none⟩ = some (.slice (some ad386) l0_1.length c0_1) ∧ w'.cell? ⟨gb385, 2, none⟩ = some (.int .i64 a0_2) ∧ w'.cell? ⟨gb385, 3, none⟩ = some (.int .i64 a0_3) ∧ w'.cell? ⟨gb385, 4, none⟩ = some (.int .i64 a0_4)) (ds := []) #[false, false, false, false, false, false, false, false, false, false, false, false] (by kernel_rfl) rfl rfl ⟨(blk_cell BK385.out 0).trans rfl, (blk_cell BK385.out 1).trans rfl, (blk_cell BK385.out 2).trans rfl, (blk_cell BK385.out 3).trans rfl, (blk_cell BK385.out 4).trans rfl⟩ (fun hHeld => ?_); refine with_tabW dom_Dom_List.tab7 dom_Dom_List.bits7 (fun HT_ HW_ => ?_)
          generalize wr.drew = w10 at HO_3 BK385 HB hHeld ⊢
          refine pur_ (i := 0) (N := some 20) #[true, false, false, false, false, false, false, false, false, false, false, false] (any_of HT_.out (by kernel_rfl)) ?_
          refine pur_ (i := 1) (N := some 21) #[true, true, false, false, false, false, false, false, false, false, false, false] (any_of HT_.out (by kernel_rfl)) ?_
          refine pur_ (i := 3) (N := some 23) #[true, true, false, true, false, false, false, false, false, false, false, false] (any_of HT_.out (by kernel_rfl)) ?_
          refine pur_ (i := 4) (N := some 24) #[true, true, false, true, true, false, false, false, false, false, false, false] (any_of HT_.out (by kernel_rfl)) ?_
          refine pur_ (i := 6) (N := some 26) #[true, true, false, true, true, false, true, false, false, false, false, false] (any_of HT_.out (by kernel_rfl)) ?_
          refine take_ (i := 2) (N := some 22) (v := ?_) (a' := ?_) #[true, true, true, true, true, false, true, false, false, false, false, false] rfl rfl (take_ofW HT_.out HW_.out (by kernel_rfl)) (fun _ _ _ h => h) (Or.inl ⟨by rfl, ?_⟩) hHeld ?_ ?_
          rotate_left
          ·
           rintro w' ⟨s0, s1, s2, s3, s4⟩
           go_simp
           with_reducible rfl
          rotate_left
          ·
           simp only [Act.put, List.setIfInBounds_toArray, List.set_cons_zero, List.set_cons_succ, i64_w, i32_w]
           rfl
          refine pur_ (i := 5) (N := some 25) #[true, true, true, true, true, true, true, false, false, false, false, false] (any_of HT_.out (by kernel_rfl)) ?_
          refine one_ (i := 7) (N := some 27) #[true, true, true, true, true, true, true, true, false, false, false, false] rfl rfl (one_of HT_.out (by kernel_rfl)) (by decide) (fun K hK => ?_)
          refine goes_ Tryz.func48 (by kernel_rfl) rfl #[.int .u64 x5_2] (by rfl) rfl rfl ar_ ?_
          with_reducible refine (bits_TrailingZeros64.calls x5_2 t387 _ ?_ A8.out).mono ?_
          exact ca_ ((Kd.C_below HRtab.out HB.out))
          rintro e w' ⟨rfl, ⟨nd, rfl⟩⟩
          refine ⟨_, rfl, ?_⟩
          refine hK.out _ _ ⟨(blk_cell BK385.out 0).trans rfl, (blk_cell BK385.out 1).trans rfl, (blk_cell BK385.out 2).trans rfl, (blk_cell BK385.out 3).trans rfl, (blk_cell BK385.out 4).trans rfl⟩ (fun hHeld => ?_)
          clear hK K
          refine nor_ (N := some 27) ?_
          refine pur_ (i := 8) (N := some 28) #[true, true, true, true, true, true, true, true, true, false, false, false] (any_of HT_.out (by kernel_rfl)) ?_
          refine one_ (i := 9) (N := some 29) #[true, true, true, true, true, true, true, true, true, true, false, false] rfl rfl (one_of HT_.out (by kernel_rfl)) (by decide) (fun K hK => ?_)
          refine value_ (w1 := ?_) (v := ?_) (by rfl) rfl ?_ ?_
          rotate_left 2
          ·
           go_simp
           constructor
           ·
            rfl
           ·
            rfl
          refine hK.out _ _ ⟨(blk_cell (blk_alloc BK385.out _) 0).trans rfl, (blk_cell (blk_alloc BK385.out _) 1).trans rfl, (blk_cell (blk_alloc BK385.out _) 2).trans rfl, (blk_cell (blk_alloc BK385.out _) 3).trans rfl, (blk_cell (blk_alloc BK385.out _) 4).trans rfl⟩ (fun hHeld => ?_)
          clear hK K
          refine nor_ (N := some 29) ?_
          refine one_ (i := 10) (N := some 30) #[true, true, true, true, true, true, true, true, true, true, true, false] rfl rfl (one_of HT_.out (by kernel_rfl)) (by decide) (fun K hK => ?_)
          refine Kd.R_append_step (Kd.int .i64) (w0 := w) w.heap.size (by rfl) (.tmp 20) (.tmp 29) 30 3 (.int .i64 0) 8 rfl Tryz.underlying30 info3 rfl (by decide) (by omega) u3 x3_2 (wrap64 ((wrap64 (a0_0 + (wrap64 (64 * x9_1)))) + t387)) [.int .i64 (wrap64 ((wrap64 (a0_0 + (wrap64 (64 * x9_1)))) + t387))] (fun _ => True) (fun _ => False) rfl rfl ?aP (fun _ hk => hk.elim) ?aF ?aO ?aB ?aS ?aL ?_
          (case aP => exact rfl)
          (case aB => exact bel_)
          (case aF => exact (fun _ _ => trivial))
          (case aO => exact (vR_ HO_3.out))
          (case aS => exact (below_size bel_))
          (case aL => have := LMc9.out; omega)
          intro v389 w11 ho hb hg hat
          rw [← Ny388.out] at ho
          replace BK385 := Aside0.mk (blk_grown (bk_ BK385.out) hg (Kd.R_ne HO_3.out BK385.out (by decide)))
          replace HB := Aside0.mk (hb)
          have HO390 := Aside0.mk (ho)
          clear HO_3
          clear ho hb hg hat
          refine hK.out _ _ ⟨(blk_cell BK385.out 0).trans rfl, (blk_cell BK385.out 1).trans rfl, (blk_cell BK385.out 2).trans rfl, (blk_cell BK385.out 3).trans rfl, (blk_cell BK385.out 4).trans rfl⟩ (fun hHeld => ?_)
          clear hK K
          refine nor_ (N := some 30) ?_
          refine pur_ (i := 11) (N := some 3) #[true, true, true, true, true, true, true, true, true, true, true, true] (any_of HT_.out (by kernel_rfl)) ?_
          refine done_ (done_of HT_.out (by kernel_rfl)) ?_
          try go_wp2
          go_roundg k2
          case measure => have := HK1.out; have := HK2.out; omega
          case rel => exact ⟨(y388), (Go.bits .and .u64 x5_2 (IntKind.u64.wrap (x5_2 - 1))), eq_, H', ⟨by have := HK1.out; have := HK2.out; omega⟩, ⟨by refine vR_ ?_; exact HO390.out⟩, ⟨by refine bk_ ?_; exact BK385.out⟩, ⟨bel_⟩⟩
         ·
          rw [if_neg c9] at H
          exact absurd H (by simp)
     ·
      rw [if_neg c6] at H
      exact absurd H (by simp)
    ·
     rw [if_neg c5] at H
     exact absurd H (by simp)
   ·
    rw [if_neg c4] at H
    have c4b0 : decide (x9_1 < (l0_1.length : Int)) = false := decide_eq_false c4
    clear c4
    obtain rfl := Option.some.inj H
    go_wp2
    go_ret
    exact ⟨_, by first | rfl | (simp [errW_none, errW_some] <;> rfl) | (simp [*, errW_none, errW_some] <;> rfl), by refine vR_ ?_; exact HO_3.out, bel_⟩

end Go.Proofs.YtmhchlbbfpmdgaaGreatDoor.XClauseKeeps
