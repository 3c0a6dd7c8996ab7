-- by xprint.py, a program of this session, over the kit's print
import Derived.Test.YtbhhbgoamomacaaGreatDoorXMUSx0
import Derived.Test.YtbhhbgoamomacaaGreatDoorXMUSx5
import Derived.Test.YtbhhbgoamomacaaGreatDoorXMUSx9
import Derived.Test.YtbhhbgoamomacaaGreatDoorSq
namespace Go.Proofs.YtbhhbgoamomacaaGreatDoor.XMulFixed
open Go.RowKit Go.Proofs.YtbhhbgoamomacaaGreatDoor.Sq Go.Proofs.YtbhhbgoamomacaaGreatDoorW.PrintWords Go.Proofs.YtbhhbgoamomacaaGreatDoorW.PrintLast Go.Proofs.YtbhhbgoamomacaaGreatDoorW.PrintMore
attribute [local go_sem] max2_int min2_int max_two min_two max_three min_three max_four min_four   -- for this text's walks alone
set_option linter.unusedVariables false
set_option linter.unusedSimpArgs false

/-! ### jigsawlaw11_doms: function 11 -/
def jigsawlaw11_doms.l0 : Nat → List (S61) → List (List Int) → Int → Int → Option ((List (S61)))
 | 0, _, _, _, _ => none
 | k + 1, x3, x8, x9, x10 => if x10 < x9 then (if 0 ≤ x10 then (if x10 < (x8.length : Int) then ((dom_Of.f k (rd_L7 x8 x10)).bind fun bt276 => (if x3.length < 2513169434916 then (jigsawlaw11_doms.l0 k (x3 ++ [(⟨bt276.1, bt276.2.1, bt276.2.2.1, bt276.2.2.2.1, bt276.2.2.2.2.1⟩ : S61)]) x8 x9 (wrap64 (x10 + 1))) else (none))) else (none)) else (none)) else (some x3)
def jigsawlaw11_doms.f (k : Nat) (l0 : List (List Int)) : Option ((List (S61))) := jigsawlaw11_doms.l0 k ([] : List (S61)) l0 (l0.length : Int) 0
theorem jigsawlaw11_doms.mono_l : ∀ k, (∀ y0 y1 y2 y3, LeO (jigsawlaw11_doms.l0 k y0 y1 y2 y3) (jigsawlaw11_doms.l0 (k + 1) y0 y1 y2 y3))
 | 0 => fun _ _ _ _ r h => by simp [jigsawlaw11_doms.l0] at h
 | k + 1 => by
  have ih0 := jigsawlaw11_doms.mono_l k
  ·
   intro y0 y1 y2 y3
   unfold jigsawlaw11_doms.l0
   have m0 := @dom_Of.mono
   exact leo_
theorem jigsawlaw11_doms.mono : ∀ a0 k, LeO (jigsawlaw11_doms.f k a0) (jigsawlaw11_doms.f (k + 1) a0) := by
 intro a0 k
 have ih0 := jigsawlaw11_doms.mono_l k
 unfold jigsawlaw11_doms.f
 have m0 := @dom_Of.mono
 exact leo_
set_option maxHeartbeats 8000000 in
set_option maxRecDepth 100000 in
theorem jigsawlaw11_doms.calls (k : Nat) (A0 : Option Addr) (c0 : Nat) (l0 : List (List Int)) (r : List (S61)) (w : World) (hr0 : Kd.C (Kd.slice 3 (Kd.int .i64)) w A0 l0.length l0) (hc0 : l0.length ≤ c0) (hrtab : Kd.C (Kd.int .u8) w (some ⟨0, 0, none⟩) tabL.length tabL) (h : jigsawlaw11_doms.f k l0 = some r) :
  Calls Tryz.prog 11 #[.slice A0 l0.length c0] w fun e w' => ∃ v0_ : Value, e = .returned (v0_) ∧ Kd.N k61 61 w' w.heap.size (fun k_ => (w.heap.size ≤ k_)) v0_ r ∧ Below w.heap.size w w' := by
 have hu61 := Tryz.underlying61
 have HR0 := Aside0.mk hr0
 have HC0 := Aside0.mk hc0
 clear hr0 hc0
 have HRtab := Aside0.mk hrtab
 clear hrtab
 have HB := Aside0.mk (Below.refl w.heap.size w)
 have H : (jigsawlaw11_doms.l0 k ([] : List (S61)) l0 (l0.length : Int) 0) = some r := h
 clear h
 have H' := Aside0.mk H
 clear H
 go_enter Tryz.func11, Tryz.ntmps11
 go_wp2
 go_loopg [3, 10] k (fun kq v3 v10 w' => ∃ (x3_1 : List (S61)) (x10_1 : Int), v10 = .int .i64 x10_1 ∧ Aside0 (jigsawlaw11_doms.l0 kq x3_1 l0 (l0.length : Int) x10_1 = some r) ∧ Aside0 (kq ≤ k) ∧ Aside0 (Kd.N k61 61 w' w.heap.size (fun k_ => (w.heap.size ≤ k_)) v3 x3_1) ∧ Aside0 (Below w.heap.size w w'))
 case atStart => exact ⟨(([] : List (S61))), (0), eq_, H', ⟨Nat.le_refl _⟩, ⟨nil_⟩, ⟨bel_⟩⟩
 case round =>
  clear H'
  try clear c1
  obtain ⟨x3_1, x10_1, rfl, HA, HK1, HO_3, HB⟩ := hrel
  cases gk with
  | zero => exact absurd HA.out (by simp [jigsawlaw11_doms.l0])
  | succ k1 =>
   have H := HA.out
   clear HA
   simp only [jigsawlaw11_doms.l0] at H
   by_cases c2 : x10_1 < (l0.length : Int)
   ·
    rw [if_pos c2] at H
    have c2b0 : decide (x10_1 < (l0.length : Int)) = true := decide_eq_true c2
    clear c2
    by_cases c3 : 0 ≤ x10_1
    ·
     rw [if_pos c3] at H
     have c3b0 : decide (0 ≤ x10_1) = true := decide_eq_true c3
     clear c3
     by_cases c4 : x10_1 < (l0.length : Int)
     ·
      rw [if_pos c4] at H
      have c4b0 : decide (x10_1 < (l0.length : Int)) = true := decide_eq_true c4
      clear c4
      replace H := Option.bind_eq_some_iff.mp H
      obtain ⟨⟨t276, t277, t280, t281, t282, t283⟩, A50, H⟩ := H
      try dsimp only at H
      have A5 := Aside0.mk A50
      clear A50
      by_cases c6 : x3_1.length < 2513169434916
      ·
       rw [if_pos c6] at H
       have LMc6 := Aside0.mk c6
       clear c6
       obtain ⟨y285, hy285⟩ : ∃ y_ : List (S61), y_ = (x3_1 ++ [(⟨t276, t277, t280, t281, t282⟩ : S61)]) := ⟨_, rfl⟩
       replace H : (jigsawlaw11_doms.l0 k1 y285 l0 (l0.length : Int) (wrap64 (x10_1 + 1))) = some r := by first | (rw [hy285]; with_reducible exact H) | (have H2_ := (Option.bind_some _ _).symm.trans H; rw [hy285]; with_reducible exact H2_) | (have H2_ := (Option.bind_some _ _).symm.trans H; with_reducible exact H2_) | with_reducible exact H | (rw [hy285]; exact H) | exact H
       have Ny285 := Aside0.mk hy285
       clear hy285
       have H' := Aside0.mk H
       clear H
       have p275 : 0 ≤ (x10_1 : Int) := dq_
       have q275 : x10_1 < (l0.length : Int) := dq_
       obtain ⟨ad275, A275_0, c275_0, e275, hx275_0, hl275_0, hi275_0⟩ := at_L7 HR0.out x10_1 p275 q275
       cases e275
       replace hx275_0 := (HB.out.cell (World.block_lt_of_cell? w _ hx275_0)).trans hx275_0
       have HR275_0 := Aside0.mk hi275_0
       have HC275_0 := Aside0.mk hl275_0
       clear hi275_0 hl275_0
       replace p275 := eq_true p275
       replace q275 := eq_true q275
       go_wp2_with (first | ((with_reducible refine gate_callee (f := 34) rfl ?_); refine goesL_ (some 16) rfl rfl Tryz.func34 (by kernel_rfl) rfl #[.slice A275_0 (rd_L7 l0 x10_1).length c275_0] rfl ar_ ?_; (with_reducible refine (dom_Of.calls k1 _ _ (rd_L7 l0 x10_1) t276 t277 t280 t281 t282 t283 _ ?_ ?_ ?_ A5.out).mono ?_); exact ca_ ((Kd.C_below HR275_0.out HB.out)); exact HC275_0.out; exact ca_ ((Kd.C_below HRtab.out HB.out)); rintro e w7 ⟨v278, rfl, ho0, hb⟩; refine ⟨_, rfl, ?_⟩; have HO279 := Aside0.mk (Kd.V_lower (Kd.V_mono (ok' := fun k_ => (w.heap.size ≤ k_) ∧ some k_ ≠ (u3 : Value).ownBlock) ho0 (fun k_ hk_ => ⟨(Nat.le_trans (below_size bel_) hk_), (Kd.fresh' (Kd.N_lt (vN_ HO_3.out)) k_ hk_)⟩)) (below_size bel_)); replace HO_3 := Aside0.mk (Kd.N_below (vN_ HO_3.out) hb); replace HB := Aside0.mk (below_step bel_ hb); clear hb ho0) | ((with_reducible refine gate_dst (N := 6) rfl ?_); refine bxe_ (N := 6) (cs := #[.int .i64 0, .slice none 0 0, .int .i64 0, .int .i64 0, .int .i64 0]) (t := 61) ?_; intro gb284 hg w8 hbox hb; replace HO_3 := Aside0.mk (Kd.N_below (Kd.N_elderB (vN_ HO_3.out) gb284 (Nat.le_of_eq hg.symm)) hb); replace HO279 := Aside0.mk (Kd.V_below (Kd.V_elderB (vV_ HO279.out) gb284 (Nat.le_of_eq hg.symm)) hb); have BK284 := Aside0.mk (hbox); have GW284 := Aside0.mk (by rw [hg]; exact (below_size bel_) : w.heap.size ≤ gb284); have GE284 := GW284; replace HB := Aside0.mk (below_step bel_ hb); clear hb hbox hg; obtain ⟨_, _, _, _, _, _, _, _, _, _⟩ := cel5_ BK284.out; obtain ⟨Ao10, co10, eo10⟩ := Kd.V_slice HO279.out; subst eo10) | ((with_reducible refine gate_store (t := 61) (p := 6) rfl ?_); refine store_event (t := 61) (p := 6) (v := ?vo_w11) (w1 := (((((w8.setCell ⟨gb284, 0, none⟩ (.int .i64 t276)).setCell ⟨gb284, 1, none⟩ (.slice Ao10 t277.length co10)).setCell ⟨gb284, 2, none⟩ (.int .i64 t280)).setCell ⟨gb284, 3, none⟩ (.int .i64 t281)).setCell ⟨gb284, 4, none⟩ (.int .i64 t282))) ?hg ?ho ?hn ?hr ?_; (case ho => rfl); (case hg => rfl); (case hn => rfl); (case hr => first | (go_simp; done) | (go_simp; rfl)); intro w11 hw; replace HO_3 : Aside0 (Kd.N k61 61 w11 w.heap.size (fun k_ => (w.heap.size ≤ k_) ∧ k_ ≠ gb284) u3 x3_1) := ⟨(by rw [hw]; exact (by refine vN_ ?_; exact Kd.N_mono (Kd.N_far (Kd.N_far (Kd.N_far (Kd.N_far (Kd.N_far (Kd.N_mono HO_3.out (fun k_ hk => (⟨hk, hk.2⟩ : _ ∧ k_ ≠ gb284))) (fun _ hk => hk.2) _) (fun _ hk => hk.2) _) (fun _ hk => hk.2) _) (fun _ hk => hk.2) _) (fun _ hk => hk.2) _) (fun _ hk => ⟨hk.1.1, hk.1.2⟩)))⟩; replace HO279 : Aside0 (Kd.V (Kd.int .u64) 87 w11 w.heap.size (fun k_ => (w.heap.size ≤ k_) ∧ some k_ ≠ (u3 : Value).ownBlock ∧ k_ ≠ gb284) (.slice Ao10 t277.length co10) t277) := ⟨(by rw [hw]; exact (by refine vV_ ?_; exact Kd.V_mono (Kd.V_far (Kd.V_far (Kd.V_far (Kd.V_far (Kd.V_far (Kd.V_mono HO279.out (fun k_ hk => (⟨hk, hk.2⟩ : _ ∧ k_ ≠ gb284))) (fun _ hk => hk.2) _) (fun _ hk => hk.2) _) (fun _ hk => hk.2) _) (fun _ hk => hk.2) _) (fun _ hk => hk.2) _) (fun _ hk => ⟨hk.1.1.1, ⟨hk.1.1.2, hk.1.2⟩⟩)))⟩; replace BK284 : Aside0 (w11.heap[gb284]? = some (.cells #[.int .i64 t276, .slice Ao10 t277.length co10, .int .i64 t280, .int .i64 t281, .int .i64 t282] 61 (0, 0))) := ⟨(by rw [hw]; exact (by refine bk_ ?_; refine blk_put (cs := #[.int .i64 t276, .slice Ao10 t277.length co10, .int .i64 t280, .int .i64 t281, .int .i64 0]) ?_ 4 _ rfl; refine bk_ ?_; refine blk_put (cs := #[.int .i64 t276, .slice Ao10 t277.length co10, .int .i64 t280, .int .i64 0, .int .i64 0]) ?_ 3 _ rfl; refine bk_ ?_; refine blk_put (cs := #[.int .i64 t276, .slice Ao10 t277.length co10, .int .i64 0, .int .i64 0, .int .i64 0]) ?_ 2 _ rfl; refine bk_ ?_; refine blk_put (cs := #[.int .i64 t276, .slice none 0 0, .int .i64 0, .int .i64 0, .int .i64 0]) ?_ 1 _ rfl; refine bk_ ?_; refine blk_put (cs := #[.int .i64 0, .slice none 0 0, .int .i64 0, .int .i64 0, .int .i64 0]) ?_ 0 _ rfl; refine bk_ ?_; exact BK284.out))⟩; replace HB : Aside0 (Below w.heap.size w w11) := ⟨(by rw [hw]; exact bel_)⟩; clear hw; obtain ⟨_, _, _, _, _, _, _, _, _, _⟩ := cel5_ BK284.out) | ((with_reducible refine gate_builtin (b := .append) (xs := #[.tmp 19, .tmp 21]) rfl ?_); at_builtin; refine Kd.N_append k61 (w0 := w) w.heap.size rfl (.tmp 19) (.tmp 21) 36 61 (.agg #[(.int .i64 0), (.slice none 0 0), (.int .i64 0), (.int .i64 0), (.int .i64 0)]) 56 rfl Tryz.underlying36 info61 rfl (by decide) (by omega) u3 x3_1 (⟨t276, t277, t280, t281, t282⟩ : S61) [.int .i64 t276, .slice Ao10 t277.length co10, .int .i64 t280, .int .i64 t281, .int .i64 t282] (fun k_ => (w.heap.size ≤ k_) ∧ k_ ≠ gb284) (fun k_ => ((fun k_ => (w.heap.size ≤ k_) ∧ k_ ≠ gb284)) k_ ∧ some k_ ≠ (u3 : Value).ownBlock) rfl rfl ?aP (fun _ hk => hk) ?aF ?aO ?aB ?aS ?aL ?_; (case aP => exact (k61_mkF _ _ (⟨t276, t277, t280, t281, t282⟩ : S61) (Kd.V_reads' (Kd.V_mono (ok' := (fun k_ => ((fun k_ => (w.heap.size ≤ k_) ∧ k_ ≠ gb284)) k_ ∧ some k_ ≠ (u3 : Value).ownBlock)) (HO279.out) (fun k_ hk => ⟨⟨hk.1, hk.2.2⟩, hk.2.1⟩))).2.1 (Kd.V_F (Kd.V_mono (ok' := (fun k_ => ((fun k_ => (w.heap.size ≤ k_) ∧ k_ ≠ gb284)) k_ ∧ some k_ ≠ (u3 : Value).ownBlock)) (HO279.out) (fun k_ hk => ⟨⟨hk.1, hk.2.2⟩, hk.2.1⟩))))); (case aB => exact bel_); (case aF => exact (fun k_ hk => ⟨(Nat.le_trans (below_size bel_) hk), Kd.freshB (bk_ BK284.out) k_ hk⟩)); (case aO => exact (vN_ HO_3.out)); (case aS => exact (below_size bel_)); (case aL => have := LMc6.out; omega); intro v286 w13 ho hb hg hat; rw [← Ny285.out] at ho; replace HB := Aside0.mk (hb); have HO287 := Aside0.mk (ho); clear HO_3; clear ho hb hg hat))
       go_roundg k1
       case measure => have := HK1.out; omega
       case rel => exact ⟨(y285), (wrap64 (x10_1 + 1)), eq_, H', ⟨by have := HK1.out; omega⟩, ⟨by refine vN_ ?_; exact Kd.N_mono HO287.out (fun _ hk => hk.1)⟩, ⟨bel_⟩⟩
      ·
       rw [if_neg c6] at H
       exact absurd H (by simp)
     ·
      rw [if_neg c4] at H
      exact absurd H (by simp)
    ·
     rw [if_neg c3] at H
     exact absurd H (by simp)
   ·
    rw [if_neg c2] at H
    have c2b0 : decide (x10_1 < (l0.length : Int)) = false := decide_eq_false c2
    clear c2
    obtain rfl := Option.some.inj H
    go_wp2
    go_ret
    exact ⟨_, by first | rfl | (simp [errW_none, errW_some] <;> rfl) | (simp [*, errW_none, errW_some] <;> rfl), by refine vN_ ?_; exact HO_3.out, bel_⟩

end Go.Proofs.YtbhhbgoamomacaaGreatDoor.XMulFixed
