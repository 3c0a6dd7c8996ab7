-- by xprint.py, a program of this session, over the kit's print
import Derived.Test.YtmhchlbbfpmdgaaGreatDoorXCFmx2
import Derived.Test.YtmhchlbbfpmdgaaGreatDoorSq
namespace Go.Proofs.YtmhchlbbfpmdgaaGreatDoor.XClauseFilters
open Go.RowKit Go.Proofs.YtmhchlbbfpmdgaaGreatDoor.Sq Go.Proofs.YtmhchlbbfpmdgaaGreatDoorW.PrintWords Go.Proofs.YtmhchlbbfpmdgaaGreatDoorW.PrintLast Go.Proofs.YtmhchlbbfpmdgaaGreatDoorW.PrintMore
attribute [local go_sem] max2_int min2_int max_two min_two max_three min_three max_four min_four   -- for this text's walks alone
set_option linter.unusedVariables false
set_option linter.unusedSimpArgs false

/-! ### jigsawlaw14_doms: function 10 -/
def jigsawlaw14_doms.l0 : Nat → List (S58) → List (List Int) → Int → Int → Option ((List (S58)))
 | 0, _, _, _, _ => none
 | k + 1, x3, x8, x9, x10 => if x10 < x9 then (if 0 ≤ x10 then (if x10 < (x8.length : Int) then ((dom_Of.f k (rd_L7 x8 x10)).bind fun bt373 => (if x3.length < 2513169434916 then (jigsawlaw14_doms.l0 k (x3 ++ [(⟨bt373.1, bt373.2.1, bt373.2.2.1, bt373.2.2.2.1, bt373.2.2.2.2.1⟩ : S58)]) x8 x9 (wrap64 (x10 + 1))) else (none))) else (none)) else (none)) else (some x3)
def jigsawlaw14_doms.f (k : Nat) (l0 : List (List Int)) : Option ((List (S58))) := jigsawlaw14_doms.l0 k ([] : List (S58)) l0 (l0.length : Int) 0
theorem jigsawlaw14_doms.mono_l : ∀ k, (∀ y0 y1 y2 y3, LeO (jigsawlaw14_doms.l0 k y0 y1 y2 y3) (jigsawlaw14_doms.l0 (k + 1) y0 y1 y2 y3))
 | 0 => fun _ _ _ _ r h => by simp [jigsawlaw14_doms.l0] at h
 | k + 1 => by
  have ih0 := jigsawlaw14_doms.mono_l k
  ·
   intro y0 y1 y2 y3
   unfold jigsawlaw14_doms.l0
   have m0 := @dom_Of.mono
   exact leo_
theorem jigsawlaw14_doms.mono : ∀ a0 k, LeO (jigsawlaw14_doms.f k a0) (jigsawlaw14_doms.f (k + 1) a0) := by
 intro a0 k
 have ih0 := jigsawlaw14_doms.mono_l k
 unfold jigsawlaw14_doms.f
 have m0 := @dom_Of.mono
 exact leo_
set_option maxHeartbeats 8000000 in
set_option maxRecDepth 100000 in
theorem jigsawlaw14_doms.calls (k : Nat) (A0 : Option Addr) (c0 : Nat) (l0 : List (List Int)) (r : List (S58)) (w : World) (hr0 : Kd.C (Kd.slice 3 (Kd.int .i64)) w A0 l0.length l0) (hc0 : l0.length ≤ c0) (hrtab : Kd.C (Kd.int .u8) w (some ⟨0, 0, none⟩) tabL.length tabL) (h : jigsawlaw14_doms.f k l0 = some r) :
  Calls Tryz.prog 10 #[.slice A0 l0.length c0] w fun e w' => ∃ v0_ : Value, e = .returned (v0_) ∧ Kd.N k58 58 w' w.heap.size (fun k_ => (w.heap.size ≤ k_)) v0_ r ∧ Below w.heap.size w w' := by
 have hu58 := Tryz.underlying58
 have HR0 := Aside0.mk hr0
 have HC0 := Aside0.mk hc0
 clear hr0 hc0
 have HRtab := Aside0.mk hrtab
 clear hrtab
 have HB := Aside0.mk (Below.refl w.heap.size w)
 unfold jigsawlaw14_doms.f at h
 have H := h
 clear h
 have H' := Aside0.mk H
 clear H
 go_enter Tryz.func10, Tryz.ntmps10
 go_wp2
 go_loopg [3, 10] k (fun kq v3 v10 w' => ∃ (x3_1 : List (S58)) (x10_1 : Int), v10 = .int .i64 x10_1 ∧ Aside0 (jigsawlaw14_doms.l0 kq x3_1 l0 (l0.length : Int) x10_1 = some r) ∧ Aside0 (kq ≤ k) ∧ Aside0 (Kd.N k58 58 w' w.heap.size (fun k_ => (w.heap.size ≤ k_)) v3 x3_1) ∧ Aside0 (Below w.heap.size w w'))
 case atStart => exact ⟨(([] : List (S58))), (0), eq_, H', ⟨Nat.le_refl _⟩, ⟨nil_⟩, ⟨bel_⟩⟩
 case round =>
  clear H'
  try clear c1
  obtain ⟨x3_1, x10_1, rfl, HA, HK1, HO_3, HB⟩ := hrel
  cases gk with
  | zero => exact absurd HA.out (by simp [jigsawlaw14_doms.l0])
  | succ k1 =>
   have H := HA.out
   clear HA
   simp only [jigsawlaw14_doms.l0] at H
   by_cases c2 : x10_1 < (l0.length : Int)
   ·
    rw [if_pos c2] at H
    have c2b0 : decide (x10_1 < (l0.length : Int)) = true := decide_eq_true c2
    clear c2
    by_cases c3 : 0 ≤ x10_1
    ·
     rw [if_pos c3] at H
     have c3b0 : decide (0 ≤ x10_1) = true := decide_eq_true c3
     clear c3
     by_cases c4 : x10_1 < (l0.length : Int)
     ·
      rw [if_pos c4] at H
      have c4b0 : decide (x10_1 < (l0.length : Int)) = true := decide_eq_true c4
      clear c4
      replace H := Option.bind_eq_some_iff.mp H
      obtain ⟨⟨t373, t374, t377, t378, t379, t380⟩, A50, H⟩ := H
      try dsimp only at H
      have A5 := Aside0.mk A50
      clear A50
      by_cases c6 : x3_1.length < 2513169434916
      ·
       rw [if_pos c6] at H
       have LMc6 := Aside0.mk c6
       clear c6
       obtain ⟨y382, hy382⟩ : ∃ y_ : List (S58), y_ = (x3_1 ++ [(⟨t373, t374, t377, t378, t379⟩ : S58)]) := ⟨_, rfl⟩
       replace H : (jigsawlaw14_doms.l0 k1 y382 l0 (l0.length : Int) (wrap64 (x10_1 + 1))) = some r := by first | (rw [hy382]; with_reducible exact H) | (have H2_ := (Option.bind_some _ _).symm.trans H; rw [hy382]; with_reducible exact H2_) | (have H2_ := (Option.bind_some _ _).symm.trans H; with_reducible exact H2_) | with_reducible exact H | (rw [hy382]; exact H) | exact H
       have Ny382 := Aside0.mk hy382
       clear hy382
       have H' := Aside0.mk H
       clear H
       have p372 : 0 ≤ (x10_1 : Int) := dq_
       have q372 : x10_1 < (l0.length : Int) := dq_
       obtain ⟨ad372, A372_0, c372_0, e372, hx372_0, hl372_0, hi372_0⟩ := at_L7 HR0.out x10_1 p372 q372
       cases e372
       replace hx372_0 := (HB.out.cell (World.block_lt_of_cell? w _ hx372_0)).trans hx372_0
       have HR372_0 := Aside0.mk hi372_0
       have HC372_0 := Aside0.mk hl372_0
       clear hi372_0 hl372_0
       replace p372 := eq_true p372
       replace q372 := eq_true q372
       go_wp2_with (first | ((with_reducible refine gate_callee (f := 30) rfl ?_); refine goesL_ (some 16) rfl rfl Tryz.func30 (by kernel_rfl) rfl #[.slice A372_0 (rd_L7 l0 x10_1).length c372_0] rfl ar_ ?_; (with_reducible refine (dom_Of.calls k1 _ _ (rd_L7 l0 x10_1) t373 t374 t377 t378 t379 t380 _ ?_ ?_ ?_ A5.out).mono ?_); exact ca_ ((Kd.C_below HR372_0.out HB.out)); exact HC372_0.out; exact ca_ ((Kd.C_below HRtab.out HB.out)); rintro e w7 ⟨v375, rfl, ho0, hb⟩; refine ⟨_, rfl, ?_⟩; have HO376 := Aside0.mk (Kd.V_lower (Kd.V_mono (ok' := fun k_ => (w.heap.size ≤ k_) ∧ some k_ ≠ (u3 : Value).ownBlock) ho0 (fun k_ hk_ => ⟨(Nat.le_trans (below_size bel_) hk_), (Kd.fresh' (Kd.N_lt (vN_ HO_3.out)) k_ hk_)⟩)) (below_size bel_)); replace HO_3 := Aside0.mk (Kd.N_below (vN_ HO_3.out) hb); replace HB := Aside0.mk (below_step bel_ hb); clear hb ho0) | ((with_reducible refine gate_dst (N := 6) rfl ?_); refine bxe_ (N := 6) (cs := #[.int .i64 0, .slice none 0 0, .int .i64 0, .int .i64 0, .int .i64 0]) (t := 58) ?_; intro gb381 hg w8 hbox hb; replace HO_3 := Aside0.mk (Kd.N_below (Kd.N_elderB (vN_ HO_3.out) gb381 (Nat.le_of_eq hg.symm)) hb); replace HO376 := Aside0.mk (Kd.V_below (Kd.V_elderB (vV_ HO376.out) gb381 (Nat.le_of_eq hg.symm)) hb); have BK381 := Aside0.mk (hbox); have GW381 := Aside0.mk (by rw [hg]; exact (below_size bel_) : w.heap.size ≤ gb381); have GE381 := GW381; replace HB := Aside0.mk (below_step bel_ hb); clear hb hbox hg; obtain ⟨_, _, _, _, _, _, _, _, _, _⟩ := cel5_ BK381.out; obtain ⟨Ao10, co10, eo10⟩ := Kd.V_slice HO376.out; subst eo10) | ((with_reducible refine gate_store (t := 58) (p := 6) rfl ?_); refine store_event (t := 58) (p := 6) (v := ?vo_w11) (w1 := (((((w8.setCell ⟨gb381, 0, none⟩ (.int .i64 t373)).setCell ⟨gb381, 1, none⟩ (.slice Ao10 t374.length co10)).setCell ⟨gb381, 2, none⟩ (.int .i64 t377)).setCell ⟨gb381, 3, none⟩ (.int .i64 t378)).setCell ⟨gb381, 4, none⟩ (.int .i64 t379))) ?hg ?ho ?hn ?hr ?_; (case ho => rfl); (case hg => rfl); (case hn => rfl); (case hr => first | (go_simp; done) | (go_simp; rfl)); intro w11 hw; replace HO_3 : Aside0 (Kd.N k58 58 w11 w.heap.size (fun k_ => (w.heap.size ≤ k_) ∧ k_ ≠ gb381) u3 x3_1) := ⟨(by rw [hw]; exact (by refine vN_ ?_; exact Kd.N_mono (fN_ (fN_ (fN_ (fN_ (fN_ (Kd.N_mono HO_3.out (fun k_ hk => (⟨hk, hk.2⟩ : _ ∧ k_ ≠ gb381)))))))) (fun _ hk => ⟨hk.1.1, hk.1.2⟩)))⟩; replace HO376 : Aside0 (Kd.V (Kd.int .u64) 80 w11 w.heap.size (fun k_ => (w.heap.size ≤ k_) ∧ some k_ ≠ (u3 : Value).ownBlock ∧ k_ ≠ gb381) (.slice Ao10 t374.length co10) t374) := ⟨(by rw [hw]; exact (by refine vV_ ?_; exact Kd.V_mono (fV_ (fV_ (fV_ (fV_ (fV_ (Kd.V_mono HO376.out (fun k_ hk => (⟨hk, hk.2⟩ : _ ∧ k_ ≠ gb381)))))))) (fun _ hk => ⟨hk.1.1.1, ⟨hk.1.1.2, hk.1.2⟩⟩)))⟩; replace BK381 : Aside0 (w11.heap[gb381]? = some (.cells #[.int .i64 t373, .slice Ao10 t374.length co10, .int .i64 t377, .int .i64 t378, .int .i64 t379] 58 (0, 0))) := ⟨(by rw [hw]; exact (by refine bk_ ?_; refine blk_put (cs := #[.int .i64 t373, .slice Ao10 t374.length co10, .int .i64 t377, .int .i64 t378, .int .i64 0]) ?_ 4 _ rfl; refine bk_ ?_; refine blk_put (cs := #[.int .i64 t373, .slice Ao10 t374.length co10, .int .i64 t377, .int .i64 0, .int .i64 0]) ?_ 3 _ rfl; refine bk_ ?_; refine blk_put (cs := #[.int .i64 t373, .slice Ao10 t374.length co10, .int .i64 0, .int .i64 0, .int .i64 0]) ?_ 2 _ rfl; refine bk_ ?_; refine blk_put (cs := #[.int .i64 t373, .slice none 0 0, .int .i64 0, .int .i64 0, .int .i64 0]) ?_ 1 _ rfl; refine bk_ ?_; refine blk_put (cs := #[.int .i64 0, .slice none 0 0, .int .i64 0, .int .i64 0, .int .i64 0]) ?_ 0 _ rfl; refine bk_ ?_; exact BK381.out))⟩; replace HB : Aside0 (Below w.heap.size w w11) := ⟨(by rw [hw]; exact bel_)⟩; clear hw; obtain ⟨_, _, _, _, _, _, _, _, _, _⟩ := cel5_ BK381.out) | ((with_reducible refine gate_builtin (b := .append) (xs := #[.tmp 19, .tmp 21]) rfl ?_); at_builtin; refine Kd.N_append k58 (w0 := w) w.heap.size rfl (.tmp 19) (.tmp 21) 36 58 (.agg #[(.int .i64 0), (.slice none 0 0), (.int .i64 0), (.int .i64 0), (.int .i64 0)]) 56 rfl Tryz.underlying36 info58 rfl (by decide) (by omega) u3 x3_1 (⟨t373, t374, t377, t378, t379⟩ : S58) [.int .i64 t373, .slice Ao10 t374.length co10, .int .i64 t377, .int .i64 t378, .int .i64 t379] (fun k_ => (w.heap.size ≤ k_) ∧ k_ ≠ gb381) (fun k_ => ((fun k_ => (w.heap.size ≤ k_) ∧ k_ ≠ gb381)) k_ ∧ some k_ ≠ (u3 : Value).ownBlock) rfl rfl ?aP (fun _ hk => hk) ?aF ?aO ?aB ?aS ?aL ?_; (case aP => exact (k58_mkF _ _ (⟨t373, t374, t377, t378, t379⟩ : S58) (Kd.V_reads' (Kd.V_mono (ok' := (fun k_ => ((fun k_ => (w.heap.size ≤ k_) ∧ k_ ≠ gb381)) k_ ∧ some k_ ≠ (u3 : Value).ownBlock)) (HO376.out) (fun k_ hk => ⟨⟨hk.1, hk.2.2⟩, hk.2.1⟩))).2.1 (Kd.V_F (Kd.V_mono (ok' := (fun k_ => ((fun k_ => (w.heap.size ≤ k_) ∧ k_ ≠ gb381)) k_ ∧ some k_ ≠ (u3 : Value).ownBlock)) (HO376.out) (fun k_ hk => ⟨⟨hk.1, hk.2.2⟩, hk.2.1⟩))))); (case aB => exact bel_); (case aF => exact (fun k_ hk => ⟨(Nat.le_trans (below_size bel_) hk), Kd.freshB (bk_ BK381.out) k_ hk⟩)); (case aO => exact (vN_ HO_3.out)); (case aS => exact (below_size bel_)); (case aL => have := LMc6.out; omega); intro v383 w13 ho hb hg hat; rw [← Ny382.out] at ho; replace HB := Aside0.mk (hb); have HO384 := Aside0.mk (ho); clear HO_3; clear ho hb hg hat))
       go_roundg k1
       case measure => have := HK1.out; omega
       case rel => exact ⟨(y382), (wrap64 (x10_1 + 1)), eq_, H', ⟨by have := HK1.out; omega⟩, ⟨by refine vN_ ?_; exact Kd.N_mono HO384.out (fun _ hk => hk.1)⟩, ⟨bel_⟩⟩
      ·
       rw [if_neg c6] at H
       exact absurd H (by simp)
     ·
      rw [if_neg c4] at H
      exact absurd H (by simp)
    ·
     rw [if_neg c3] at H
     exact absurd H (by simp)
   ·
    rw [if_neg c2] at H
    have c2b0 : decide (x10_1 < (l0.length : Int)) = false := decide_eq_false c2
    clear c2
    obtain rfl := Option.some.inj H
    go_wp2
    go_ret
    exact ⟨_, by first | rfl | (simp [errW_none, errW_some] <;> rfl) | (simp [*, errW_none, errW_some] <;> rfl), by refine vN_ ?_; exact HO_3.out, bel_⟩

/-! ### jigsawref06_list: function 86 -/
def jigsawref06_list.f (a0 : Int) (a1 : Int) (a2 : Int) : Option (Bool) := if a2 > 0 then (if a0 ≥ 1 then (some (decide (a0 ≤ 64))) else (some false)) else (some (a0 == a1))
set_option maxHeartbeats 8000000 in
set_option maxRecDepth 100000 in
theorem jigsawref06_list.calls (a0 : Int) (a1 : Int) (a2 : Int) (r : Bool) (w : World) (h : jigsawref06_list.f a0 a1 a2 = some r) :
  Calls Tryz.prog 86 #[.int .i64 a0, .int .i64 a1, .int .i64 a2] w fun e w' => e = .returned (.bool r) ∧ Drawn0 w w' := by
 unfold jigsawref06_list.f at h
 have H := h
 clear h
 by_cases c4 : a2 > 0
 ·
  rw [if_pos c4] at H
  have c4b0 : decide (0 < a2) = true := decide_eq_true c4
  clear c4
  by_cases c5 : a0 ≥ 1
  ·
   rw [if_pos c5] at H
   have c5b0 : decide (1 ≤ a0) = true := decide_eq_true c5
   clear c5
   obtain rfl := Option.some.inj H
   go_enter Tryz.func86, Tryz.ntmps86
   go_wp2
   go_ret
   exact ⟨by first | rfl | (simp; done) | (simp [*]; done), by repeat (first | exact Drawn0.refl _ | apply Drawn0.step)⟩
  ·
   rw [if_neg c5] at H
   have c5b0 : decide (1 ≤ a0) = false := decide_eq_false c5
   clear c5
   obtain rfl := Option.some.inj H
   go_enter Tryz.func86, Tryz.ntmps86
   go_wp2
   go_ret
   exact ⟨by first | rfl | (simp; done) | (simp [*]; done), by repeat (first | exact Drawn0.refl _ | apply Drawn0.step)⟩
 ·
  rw [if_neg c4] at H
  have c4b0 : decide (0 < a2) = false := decide_eq_false c4
  clear c4
  obtain rfl := Option.some.inj H
  go_enter Tryz.func86, Tryz.ntmps86
  go_wp2
  go_ret
  exact ⟨by first | rfl | (simp; done) | (simp [*]; done), by repeat (first | exact Drawn0.refl _ | apply Drawn0.step)⟩

/-! ### jigsawref06_Arity: function 67 -/
def jigsawref06_Arity.f (a0_0 : Int) (l0_1 : List Int) (l0_2 : List Int) (l0_3 : List Int) (l0_4 : List Int) (l0_5 : List Int) (a0_6 : Int) (l0_7 : List (List Int)) (a1 : ByteArray) : Option (Bool) := if a0_6 = 0 then (if a0_0 = 12 then (if (wrap64 ((l0_1.length : Int) + (l0_2.length : Int))) ≥ 1 then (if (l0_1.length : Int) ≤ 64 then (if (l0_2.length : Int) ≤ 64 then (if (l0_3.length : Int) = 0 then (if (l0_4.length : Int) = 0 then (if (l0_5.length : Int) = 0 then (some ((l0_7.length : Int) == 0)) else (none)) else (none)) else (none)) else (none)) else (none)) else (none)) else (none)) else (none)
set_option maxHeartbeats 8000000 in
set_option maxRecDepth 100000 in
theorem jigsawref06_Arity.calls (a0_0 : Int) (A0_1 : Option Addr) (c0_1 : Nat) (l0_1 : List Int) (A0_2 : Option Addr) (c0_2 : Nat) (l0_2 : List Int) (A0_3 : Option Addr) (c0_3 : Nat) (l0_3 : List Int) (A0_4 : Option Addr) (c0_4 : Nat) (l0_4 : List Int) (A0_5 : Option Addr) (c0_5 : Nat) (l0_5 : List Int) (a0_6 : Int) (A0_7 : Option Addr) (c0_7 : Nat) (l0_7 : List (List Int)) (a1 : ByteArray) (r : Bool) (w : World) (hr0_1 : Kd.C (Kd.int .i64) w A0_1 l0_1.length l0_1) (hc0_1 : l0_1.length ≤ c0_1) (hr0_2 : Kd.C (Kd.int .i64) w A0_2 l0_2.length l0_2) (hc0_2 : l0_2.length ≤ c0_2) (hr0_3 : Kd.C (Kd.int .i64) w A0_3 l0_3.length l0_3) (hc0_3 : l0_3.length ≤ c0_3) (hr0_4 : Kd.C (Kd.int .i64) w A0_4 l0_4.length l0_4) (hc0_4 : l0_4.length ≤ c0_4) (hr0_5 : Kd.C (Kd.int .i64) w A0_5 l0_5.length l0_5) (hc0_5 : l0_5.length ≤ c0_5) (hr0_7 : Kd.C (Kd.slice 3 (Kd.int .i64)) w A0_7 l0_7.length l0_7) (hc0_7 : l0_7.length ≤ c0_7) (h : jigsawref06_Arity.f a0_0 l0_1 l0_2 l0_3 l0_4 l0_5 a0_6 l0_7 a1 = some r) :
  Calls Tryz.prog 67 #[.agg #[.int .i64 a0_0, .slice A0_1 l0_1.length c0_1, .slice A0_2 l0_2.length c0_2, .slice A0_3 l0_3.length c0_3, .slice A0_4 l0_4.length c0_4, .slice A0_5 l0_5.length c0_5, .int .i64 a0_6, .slice A0_7 l0_7.length c0_7], .string a1] w fun e w' => e = .returned (.bool r) ∧ Below w.heap.size w w' := by
 have hu32 := Tryz.underlying32
 have HC0_1 := Aside0.mk hc0_1
 clear hr0_1 hc0_1
 have HC0_2 := Aside0.mk hc0_2
 clear hr0_2 hc0_2
 have HC0_3 := Aside0.mk hc0_3
 clear hr0_3 hc0_3
 have HC0_4 := Aside0.mk hc0_4
 clear hr0_4 hc0_4
 have HC0_5 := Aside0.mk hc0_5
 clear hr0_5 hc0_5
 have HC0_7 := Aside0.mk hc0_7
 clear hr0_7 hc0_7
 have HB := Aside0.mk (Below.refl w.heap.size w)
 unfold jigsawref06_Arity.f at h
 have H := h
 clear h
 by_cases c3 : a0_6 = 0
 ·
  rw [if_pos c3] at H
  have c3b0 : (a0_6 == 0) = true := beq_iff_eq.mpr c3
  have c3b1 : (a0_6 != 0) = false := bne_eq_false_iff_eq.mpr c3
  clear c3
  by_cases c4 : a0_0 = 12
  ·
   rw [if_pos c4] at H
   have c4b0 : (a0_0 == 12) = true := beq_iff_eq.mpr c4
   have c4b1 : (a0_0 != 12) = false := bne_eq_false_iff_eq.mpr c4
   clear c4
   by_cases c5 : (wrap64 ((l0_1.length : Int) + (l0_2.length : Int))) ≥ 1
   ·
    rw [if_pos c5] at H
    have c5b0 : decide (1 ≤ (wrap64 ((l0_1.length : Int) + (l0_2.length : Int)))) = true := decide_eq_true c5
    clear c5
    by_cases c6 : (l0_1.length : Int) ≤ 64
    ·
     rw [if_pos c6] at H
     have c6b0 : decide ((l0_1.length : Int) ≤ 64) = true := decide_eq_true c6
     have c6b1 : decide (l0_1.length ≤ 64) = true := decide_eq_true (by omega)
     clear c6
     by_cases c7 : (l0_2.length : Int) ≤ 64
     ·
      rw [if_pos c7] at H
      have c7b0 : decide ((l0_2.length : Int) ≤ 64) = true := decide_eq_true c7
      have c7b1 : decide (l0_2.length ≤ 64) = true := decide_eq_true (by omega)
      clear c7
      by_cases c8 : (l0_3.length : Int) = 0
      ·
       rw [if_pos c8] at H
       have c8b0 : ((l0_3.length : Int) == 0) = true := beq_iff_eq.mpr c8
       have c8b1 : ((l0_3.length : Int) != 0) = false := bne_eq_false_iff_eq.mpr c8
       clear c8
       by_cases c9 : (l0_4.length : Int) = 0
       ·
        rw [if_pos c9] at H
        have c9b0 : ((l0_4.length : Int) == 0) = true := beq_iff_eq.mpr c9
        have c9b1 : ((l0_4.length : Int) != 0) = false := bne_eq_false_iff_eq.mpr c9
        clear c9
        by_cases c10 : (l0_5.length : Int) = 0
        ·
         rw [if_pos c10] at H
         have c10b0 : ((l0_5.length : Int) == 0) = true := beq_iff_eq.mpr c10
         have c10b1 : ((l0_5.length : Int) != 0) = false := bne_eq_false_iff_eq.mpr c10
         clear c10
         obtain rfl := Option.some.inj H
         go_enter Tryz.func67, Tryz.ntmps67
         go_wp2_with (first | ((with_reducible refine gate_dst (N := 2) rfl ?_); (try (refine gate_guard (by rfl) ?_; dsimp only)); refine bxe_ (N := 2) (cs := #[.int .i64 a0_0, .slice A0_1 l0_1.length c0_1, .slice A0_2 l0_2.length c0_2, .slice A0_3 l0_3.length c0_3, .slice A0_4 l0_4.length c0_4, .slice A0_5 l0_5.length c0_5, .int .i64 a0_6, .slice A0_7 l0_7.length c0_7]) (t := 32) ?_; intro gb385 hg w11 hbox hb; have BK385 := Aside0.mk (hbox); have GW385 := Aside0.mk (by rw [hg]; exact (below_size bel_) : w.heap.size ≤ gb385); have GE385 := GW385; replace HB := Aside0.mk (below_step bel_ hb); clear hb hbox hg; obtain ⟨_, _, _, _, _, _, _, _, _, _, _, _, _, _, _, _⟩ := cel8_ BK385.out))
         repeat (go_quiet (first | ((with_reducible refine gate_dst (N := 2) rfl ?_); (try (refine gate_guard (by rfl) ?_; dsimp only)); refine bxe_ (N := 2) (cs := #[.int .i64 a0_0, .slice A0_1 l0_1.length c0_1, .slice A0_2 l0_2.length c0_2, .slice A0_3 l0_3.length c0_3, .slice A0_4 l0_4.length c0_4, .slice A0_5 l0_5.length c0_5, .int .i64 a0_6, .slice A0_7 l0_7.length c0_7]) (t := 32) ?_; intro gb385 hg w11 hbox hb; have BK385 := Aside0.mk (hbox); have GW385 := Aside0.mk (by rw [hg]; exact (below_size bel_) : w.heap.size ≤ gb385); have GE385 := GW385; replace HB := Aside0.mk (below_step bel_ hb); clear hb hbox hg; obtain ⟨_, _, _, _, _, _, _, _, _, _, _, _, _, _, _, _⟩ := cel8_ BK385.out)); try go_wp2_with (first | ((with_reducible refine gate_dst (N := 2) rfl ?_); (try (refine gate_guard (by rfl) ?_; dsimp only)); refine bxe_ (N := 2) (cs := #[.int .i64 a0_0, .slice A0_1 l0_1.length c0_1, .slice A0_2 l0_2.length c0_2, .slice A0_3 l0_3.length c0_3, .slice A0_4 l0_4.length c0_4, .slice A0_5 l0_5.length c0_5, .int .i64 a0_6, .slice A0_7 l0_7.length c0_7]) (t := 32) ?_; intro gb385 hg w11 hbox hb; have BK385 := Aside0.mk (hbox); have GW385 := Aside0.mk (by rw [hg]; exact (below_size bel_) : w.heap.size ≤ gb385); have GE385 := GW385; replace HB := Aside0.mk (below_step bel_ hb); clear hb hbox hg; obtain ⟨_, _, _, _, _, _, _, _, _, _, _, _, _, _, _, _⟩ := cel8_ BK385.out)))
         go_ret
         exact ⟨by first | rfl | (simp [errW_none, errW_some] <;> rfl) | (simp [*, errW_none, errW_some] <;> rfl), bel_⟩
        ·
         rw [if_neg c10] at H
         exact absurd H (by simp)
       ·
        rw [if_neg c9] at H
        exact absurd H (by simp)
      ·
       rw [if_neg c8] at H
       exact absurd H (by simp)
     ·
      rw [if_neg c7] at H
      exact absurd H (by simp)
    ·
     rw [if_neg c6] at H
     exact absurd H (by simp)
   ·
    rw [if_neg c5] at H
    exact absurd H (by simp)
  ·
   rw [if_neg c4] at H
   exact absurd H (by simp)
 ·
  rw [if_neg c3] at H
  exact absurd H (by simp)

/-! ### jigsawref06_in: function 68 -/
def jigsawref06_in.l0 : Nat → List Int → Int → Int → Int → Option (Bool)
 | 0, _, _, _, _ => none
 | k + 1, x0, x1, x2, x7 => if x7 < (x0.length : Int) then (if 0 ≤ x7 then (if (rd x0 x7) < x1 then (some false) else (if (rd x0 x7) > x2 then (some false) else (jigsawref06_in.l0 k x0 x1 x2 (wrap64 (x7 + 1))))) else (none)) else (some true)
def jigsawref06_in.f (k : Nat) (l0 : List Int) (a1 : Int) (a2 : Int) : Option (Bool) := jigsawref06_in.l0 k l0 a1 a2 0
theorem jigsawref06_in.mono_l : ∀ k, (∀ y0 y1 y2 y3, LeO (jigsawref06_in.l0 k y0 y1 y2 y3) (jigsawref06_in.l0 (k + 1) y0 y1 y2 y3))
 | 0 => fun _ _ _ _ r h => by simp [jigsawref06_in.l0] at h
 | k + 1 => by
  have ih0 := jigsawref06_in.mono_l k
  ·
   intro y0 y1 y2 y3
   unfold jigsawref06_in.l0
   exact leo_
theorem jigsawref06_in.mono : ∀ a0 a1 a2 k, LeO (jigsawref06_in.f k a0 a1 a2) (jigsawref06_in.f (k + 1) a0 a1 a2) := by
 intro a0 a1 a2 k
 have ih0 := jigsawref06_in.mono_l k
 unfold jigsawref06_in.f
 exact leo_
set_option maxHeartbeats 8000000 in
set_option maxRecDepth 100000 in
theorem jigsawref06_in.calls (k : Nat) (A0 : Option Addr) (c0 : Nat) (l0 : List Int) (a1 : Int) (a2 : Int) (r : Bool) (w : World) (hr0 : Kd.C (Kd.int .i64) w A0 l0.length l0) (hc0 : l0.length ≤ c0) (h : jigsawref06_in.f k l0 a1 a2 = some r) :
  Calls Tryz.prog 68 #[.slice A0 l0.length c0, .int .i64 a1, .int .i64 a2] w fun e w' => e = .returned (.bool r) ∧ Drawn0 w w' := by
 have HR0 := Aside0.mk hr0
 have HC0 := Aside0.mk hc0
 clear hr0 hc0
 unfold jigsawref06_in.f at h
 have H := h
 clear h
 have H' := Aside0.mk H
 clear H
 go_enter Tryz.func68, Tryz.ntmps68
 go_wp2
 go_loopg [7] k (fun kq v7 w' => ∃ (x7_1 : Int), v7 = .int .i64 x7_1 ∧ Aside0 (jigsawref06_in.l0 kq l0 a1 a2 x7_1 = some r) ∧ Aside0 (kq ≤ k) ∧ Drawn0 w w')
 case atStart => exact ⟨(0), eq_, H', ⟨Nat.le_refl _⟩, by repeat (first | exact Drawn0.refl _ | apply Drawn0.step)⟩
 case round =>
  clear H'
  try clear p2
  obtain ⟨x7_1, rfl, HA, HK1, ⟨m1, rfl⟩⟩ := hrel
  cases gk with
  | zero => exact absurd HA.out (by simp [jigsawref06_in.l0])
  | succ k1 =>
   have H := HA.out
   clear HA
   simp only [jigsawref06_in.l0] at H
   by_cases c4 : x7_1 < (l0.length : Int)
   ·
    rw [if_pos c4] at H
    have c4b0 : decide (x7_1 < (l0.length : Int)) = true := decide_eq_true c4
    clear c4
    by_cases c5 : 0 ≤ x7_1
    ·
     rw [if_pos c5] at H
     have c5b0 : decide (0 ≤ x7_1) = true := decide_eq_true c5
     clear c5
     by_cases c6 : (rd l0 x7_1) < a1
     ·
      rw [if_pos c6] at H
      have c6b0 : decide ((rd l0 x7_1) < a1) = true := decide_eq_true c6
      clear c6
      obtain rfl := Option.some.inj H
      have p386 : 0 ≤ (x7_1 : Int) := dq_
      have q386 : x7_1 < (l0.length : Int) := dq_
      obtain ⟨ad386, e386, hx386_0⟩ := Kd.at_int HR0.out x7_1 p386 q386
      cases e386
      replace p386 := eq_true p386
      replace q386 := eq_true q386
      go_wp2
      go_ret
      exact ⟨by first | rfl | (simp; done) | (simp [*]; done), by repeat (first | exact Drawn0.refl _ | apply Drawn0.step)⟩
     ·
      rw [if_neg c6] at H
      have c6b0 : decide ((rd l0 x7_1) < a1) = false := decide_eq_false c6
      clear c6
      by_cases c7 : (rd l0 x7_1) > a2
      ·
       rw [if_pos c7] at H
       have c7b0 : decide (a2 < (rd l0 x7_1)) = true := decide_eq_true c7
       clear c7
       obtain rfl := Option.some.inj H
       have p386 : 0 ≤ (x7_1 : Int) := dq_
       have q386 : x7_1 < (l0.length : Int) := dq_
       obtain ⟨ad386, e386, hx386_0⟩ := Kd.at_int HR0.out x7_1 p386 q386
       cases e386
       replace p386 := eq_true p386
       replace q386 := eq_true q386
       have p387 : 0 ≤ (x7_1 : Int) := dq_
       have q387 : x7_1 < (l0.length : Int) := dq_
       obtain ⟨ad387, e387, hx387_0⟩ := Kd.at_int HR0.out x7_1 p387 q387
       obtain rfl : ad386 = ad387 := (by injection e387)
       replace p387 := eq_true p387
       replace q387 := eq_true q387
       go_wp2
       go_ret
       exact ⟨by first | rfl | (simp; done) | (simp [*]; done), by repeat (first | exact Drawn0.refl _ | apply Drawn0.step)⟩
      ·
       rw [if_neg c7] at H
       have c7b0 : decide (a2 < (rd l0 x7_1)) = false := decide_eq_false c7
       clear c7
       have H' := Aside0.mk H
       clear H
       have p386 : 0 ≤ (x7_1 : Int) := dq_
       have q386 : x7_1 < (l0.length : Int) := dq_
       obtain ⟨ad386, e386, hx386_0⟩ := Kd.at_int HR0.out x7_1 p386 q386
       cases e386
       replace p386 := eq_true p386
       replace q386 := eq_true q386
       have p387 : 0 ≤ (x7_1 : Int) := dq_
       have q387 : x7_1 < (l0.length : Int) := dq_
       obtain ⟨ad387, e387, hx387_0⟩ := Kd.at_int HR0.out x7_1 p387 q387
       obtain rfl : ad386 = ad387 := (by injection e387)
       replace p387 := eq_true p387
       replace q387 := eq_true q387
       go_wp2
       go_roundg k1
       case measure => have := HK1.out; omega
       case rel => exact ⟨(wrap64 (x7_1 + 1)), eq_, H', ⟨by have := HK1.out; omega⟩, by repeat (first | exact Drawn0.refl _ | apply Drawn0.step)⟩
    ·
     rw [if_neg c5] at H
     exact absurd H (by simp)
   ·
    rw [if_neg c4] at H
    have c4b0 : decide (x7_1 < (l0.length : Int)) = false := decide_eq_false c4
    clear c4
    obtain rfl := Option.some.inj H
    go_wp2
    go_ret
    exact ⟨by first | rfl | (simp; done) | (simp [*]; done), by repeat (first | exact Drawn0.refl _ | apply Drawn0.step)⟩


/-! ### jigsawref06_Coefs: function 69 -/
mutual
def jigsawref06_Coefs.l0 : Nat → Int → Int → List Int → List Int → List Int → List Int → List Int → Int → List (List Int) → Option (Bool)
 | 0, _, _, _, _, _, _, _, _, _ => none
 | k + 1, x9, x389000, x389001, x389002, x389003, x389004, x389005, x389006, x389007 => if x9 < (x389007.length : Int) then (none) else (jigsawref06_Coefs.l1 k x389000 x389001 x389002 x389003 x389004 x389005 x389006 x389007)
def jigsawref06_Coefs.l1 : Nat → Int → List Int → List Int → List Int → List Int → List Int → Int → List (List Int) → Option (Bool)
 | 0, _, _, _, _, _, _, _, _ => none
 | k + 1, x389000, x389001, x389002, x389003, x389004, x389005, x389006, x389007 => if x389000 = 21 then (none) else (some true)
end
def jigsawref06_Coefs.f (k : Nat) (a0_0 : Int) (l0_1 : List Int) (l0_2 : List Int) (l0_3 : List Int) (l0_4 : List Int) (l0_5 : List Int) (a0_6 : Int) (l0_7 : List (List Int)) : Option (Bool) := if a0_0 = 19 then (none) else (if a0_0 = 21 then (none) else ((jigsawref06_in.f k l0_3 (-1000000) 1000000).bind fun t389 => ((jigsawref06_in.f k l0_4 (-1000000) 1000000).bind fun t390 => ((jigsawref06_in.f k l0_5 (-1000000) 1000000).bind fun t391 => (if t389 = true then (if t390 = true then (if t391 = true then (if a0_6 < (-9999999999) then (none) else (if a0_6 > 9999999999 then (none) else (jigsawref06_Coefs.l0 k 0 a0_0 l0_1 l0_2 l0_3 l0_4 l0_5 a0_6 l0_7))) else (none)) else (none)) else (none))))))
theorem jigsawref06_Coefs.mono_l : ∀ k, (∀ y0 y1 y2 y3 y4 y5 y6 y7 y8, LeO (jigsawref06_Coefs.l0 k y0 y1 y2 y3 y4 y5 y6 y7 y8) (jigsawref06_Coefs.l0 (k + 1) y0 y1 y2 y3 y4 y5 y6 y7 y8)) ∧ (∀ y0 y1 y2 y3 y4 y5 y6 y7, LeO (jigsawref06_Coefs.l1 k y0 y1 y2 y3 y4 y5 y6 y7) (jigsawref06_Coefs.l1 (k + 1) y0 y1 y2 y3 y4 y5 y6 y7))
 | 0 => ⟨fun _ _ _ _ _ _ _ _ _ r h => by simp [jigsawref06_Coefs.l0] at h, fun _ _ _ _ _ _ _ _ r h => by simp [jigsawref06_Coefs.l1] at h⟩
 | k + 1 => by
  obtain ⟨ih0, ih1⟩ := jigsawref06_Coefs.mono_l k
  refine ⟨?_, ?_⟩
  ·
   intro y0 y1 y2 y3 y4 y5 y6 y7 y8
   unfold jigsawref06_Coefs.l0
   have m0 := @jigsawref06_in.mono
   exact leo_
  ·
   intro y0 y1 y2 y3 y4 y5 y6 y7
   unfold jigsawref06_Coefs.l1
   have m0 := @jigsawref06_in.mono
   exact leo_
theorem jigsawref06_Coefs.mono : ∀ a0 a1 a2 a3 a4 a5 a6 a7 k, LeO (jigsawref06_Coefs.f k a0 a1 a2 a3 a4 a5 a6 a7) (jigsawref06_Coefs.f (k + 1) a0 a1 a2 a3 a4 a5 a6 a7) := by
 intro a0 a1 a2 a3 a4 a5 a6 a7 k
 obtain ⟨ih0, ih1⟩ := jigsawref06_Coefs.mono_l k
 unfold jigsawref06_Coefs.f
 have m0 := @jigsawref06_in.mono
 exact leo_
set_option maxHeartbeats 8000000 in
set_option maxRecDepth 100000 in
theorem jigsawref06_Coefs.calls (k : Nat) (a0_0 : Int) (A0_1 : Option Addr) (c0_1 : Nat) (l0_1 : List Int) (A0_2 : Option Addr) (c0_2 : Nat) (l0_2 : List Int) (A0_3 : Option Addr) (c0_3 : Nat) (l0_3 : List Int) (A0_4 : Option Addr) (c0_4 : Nat) (l0_4 : List Int) (A0_5 : Option Addr) (c0_5 : Nat) (l0_5 : List Int) (a0_6 : Int) (A0_7 : Option Addr) (c0_7 : Nat) (l0_7 : List (List Int)) (r : Bool) (w : World) (hr0_1 : Kd.C (Kd.int .i64) w A0_1 l0_1.length l0_1) (hc0_1 : l0_1.length ≤ c0_1) (hr0_2 : Kd.C (Kd.int .i64) w A0_2 l0_2.length l0_2) (hc0_2 : l0_2.length ≤ c0_2) (hr0_3 : Kd.C (Kd.int .i64) w A0_3 l0_3.length l0_3) (hc0_3 : l0_3.length ≤ c0_3) (hr0_4 : Kd.C (Kd.int .i64) w A0_4 l0_4.length l0_4) (hc0_4 : l0_4.length ≤ c0_4) (hr0_5 : Kd.C (Kd.int .i64) w A0_5 l0_5.length l0_5) (hc0_5 : l0_5.length ≤ c0_5) (hr0_7 : Kd.C (Kd.slice 3 (Kd.int .i64)) w A0_7 l0_7.length l0_7) (hc0_7 : l0_7.length ≤ c0_7) (h : jigsawref06_Coefs.f k a0_0 l0_1 l0_2 l0_3 l0_4 l0_5 a0_6 l0_7 = some r) :
  Calls Tryz.prog 69 #[.agg #[.int .i64 a0_0, .slice A0_1 l0_1.length c0_1, .slice A0_2 l0_2.length c0_2, .slice A0_3 l0_3.length c0_3, .slice A0_4 l0_4.length c0_4, .slice A0_5 l0_5.length c0_5, .int .i64 a0_6, .slice A0_7 l0_7.length c0_7]] w fun e w' => e = .returned (.bool r) ∧ Below w.heap.size w w' := by
 have hu32 := Tryz.underlying32
 have HC0_1 := Aside0.mk hc0_1
 clear hr0_1 hc0_1
 have HC0_2 := Aside0.mk hc0_2
 clear hr0_2 hc0_2
 have HR0_3 := Aside0.mk hr0_3
 have HC0_3 := Aside0.mk hc0_3
 clear hr0_3 hc0_3
 have HR0_4 := Aside0.mk hr0_4
 have HC0_4 := Aside0.mk hc0_4
 clear hr0_4 hc0_4
 have HR0_5 := Aside0.mk hr0_5
 have HC0_5 := Aside0.mk hc0_5
 clear hr0_5 hc0_5
 have HC0_7 := Aside0.mk hc0_7
 clear hr0_7 hc0_7
 have HB := Aside0.mk (Below.refl w.heap.size w)
 unfold jigsawref06_Coefs.f at h
 have H := h
 clear h
 by_cases c2 : a0_0 = 19
 ·
  rw [if_pos c2] at H
  exact absurd H (by simp)
 ·
  rw [if_neg c2] at H
  have c2b0 : (a0_0 == 19) = false := beq_eq_false_iff_ne.mpr c2
  have c2b1 : (a0_0 != 19) = true := bne_iff_ne.mpr c2
  by_cases c3 : a0_0 = 21
  ·
   rw [if_pos c3] at H
   exact absurd H (by simp)
  ·
   rw [if_neg c3] at H
   have c3b0 : (a0_0 == 21) = false := beq_eq_false_iff_ne.mpr c3
   have c3b1 : (a0_0 != 21) = true := bne_iff_ne.mpr c3
   replace H := Option.bind_eq_some_iff.mp H
   obtain ⟨t389, A40, H⟩ := H
   try dsimp only at H
   have A4 := Aside0.mk A40
   clear A40
   replace H := Option.bind_eq_some_iff.mp H
   obtain ⟨t390, A50, H⟩ := H
   try dsimp only at H
   have A5 := Aside0.mk A50
   clear A50
   replace H := Option.bind_eq_some_iff.mp H
   obtain ⟨t391, A60, H⟩ := H
   try dsimp only at H
   have A6 := Aside0.mk A60
   clear A60
   by_cases c7 : t389 = true
   ·
    subst c7
    rw [if_pos rfl] at H
    by_cases c8 : t390 = true
    ·
     subst c8
     rw [if_pos rfl] at H
     by_cases c9 : t391 = true
     ·
      subst c9
      rw [if_pos rfl] at H
      by_cases c10 : a0_6 < (-9999999999)
      ·
       rw [if_pos c10] at H
       exact absurd H (by simp)
      ·
       rw [if_neg c10] at H
       have c10b0 : decide (a0_6 < (-9999999999)) = false := decide_eq_false c10
       clear c10
       by_cases c11 : a0_6 > 9999999999
       ·
        rw [if_pos c11] at H
        exact absurd H (by simp)
       ·
        rw [if_neg c11] at H
        have c11b0 : decide (9999999999 < a0_6) = false := decide_eq_false c11
        clear c11
        have H' := Aside0.mk H
        clear H
        go_enter Tryz.func69, Tryz.ntmps69
        go_wp2_with (first | ((with_reducible refine gate_dst (N := 1) rfl ?_); (try (refine gate_guard (by rfl) ?_; dsimp only)); refine bxe_ (N := 1) (cs := #[.int .i64 a0_0, .slice A0_1 l0_1.length c0_1, .slice A0_2 l0_2.length c0_2, .slice A0_3 l0_3.length c0_3, .slice A0_4 l0_4.length c0_4, .slice A0_5 l0_5.length c0_5, .int .i64 a0_6, .slice A0_7 l0_7.length c0_7]) (t := 32) ?_; intro gb388 hg w12 hbox hb; have BK388 := Aside0.mk (hbox); have GW388 := Aside0.mk (by rw [hg]; exact (below_size bel_) : w.heap.size ≤ gb388); have GE388 := GW388; replace HB := Aside0.mk (below_step bel_ hb); clear hb hbox hg; obtain ⟨_, _, _, _, _, _, _, _, _, _, _, _, _, _, _, _⟩ := cel8_ BK388.out) | (go_at_call 68; (with_reducible refine (jigsawref06_in.calls k _ _ l0_3 (-1000000) 1000000 true _ ?_ ?_ A4.out).mono ?_); exact ca_ ((Kd.C_below HR0_3.out HB.out)); exact HC0_3.out; rintro e w' ⟨rfl, ⟨nd, rfl⟩⟩; (try first | exact ⟨rfl, _, World.drewN_drewN _ _ _⟩ | exact ⟨rfl, _, Eq.trans (World.drewN_drewN _ _ _) (congrArg (World.drewN _) (Nat.add_assoc _ _ _))⟩)) | (go_at_call 68; (with_reducible refine (jigsawref06_in.calls k _ _ l0_4 (-1000000) 1000000 true _ ?side1 ?side2 A5.out).mono ?_); (case side1 => repeat (first | exact (Kd.C_below HR0_4.out bel_) | (with_reducible refine Kd.C_alloc ?_ _) | (with_reducible refine Kd.C_drewN ?_ _) | (with_reducible refine Kd.C_drew ?_))); (case side2 => exact HC0_4.out); rintro e w' ⟨rfl, ⟨nd, rfl⟩⟩; (try first | exact ⟨rfl, _, World.drewN_drewN _ _ _⟩ | exact ⟨rfl, _, Eq.trans (World.drewN_drewN _ _ _) (congrArg (World.drewN _) (Nat.add_assoc _ _ _))⟩)) | (go_at_call 68; (with_reducible refine (jigsawref06_in.calls k _ _ l0_5 (-1000000) 1000000 true _ ?side1 ?side2 A6.out).mono ?_); (case side1 => repeat (first | exact (Kd.C_below HR0_5.out bel_) | (with_reducible refine Kd.C_alloc ?_ _) | (with_reducible refine Kd.C_drewN ?_ _) | (with_reducible refine Kd.C_drew ?_))); (case side2 => exact HC0_5.out); rintro e w' ⟨rfl, ⟨nd, rfl⟩⟩; (try first | exact ⟨rfl, _, World.drewN_drewN _ _ _⟩ | exact ⟨rfl, _, Eq.trans (World.drewN_drewN _ _ _) (congrArg (World.drewN _) (Nat.add_assoc _ _ _))⟩)))
        repeat (go_quiet (first | ((with_reducible refine gate_dst (N := 1) rfl ?_); (try (refine gate_guard (by rfl) ?_; dsimp only)); refine bxe_ (N := 1) (cs := #[.int .i64 a0_0, .slice A0_1 l0_1.length c0_1, .slice A0_2 l0_2.length c0_2, .slice A0_3 l0_3.length c0_3, .slice A0_4 l0_4.length c0_4, .slice A0_5 l0_5.length c0_5, .int .i64 a0_6, .slice A0_7 l0_7.length c0_7]) (t := 32) ?_; intro gb388 hg w12 hbox hb; have BK388 := Aside0.mk (hbox); have GW388 := Aside0.mk (by rw [hg]; exact (below_size bel_) : w.heap.size ≤ gb388); have GE388 := GW388; replace HB := Aside0.mk (below_step bel_ hb); clear hb hbox hg; obtain ⟨_, _, _, _, _, _, _, _, _, _, _, _, _, _, _, _⟩ := cel8_ BK388.out) | (go_at_call 68; (with_reducible refine (jigsawref06_in.calls k _ _ l0_3 (-1000000) 1000000 true _ ?_ ?_ A4.out).mono ?_); exact ca_ ((Kd.C_below HR0_3.out HB.out)); exact HC0_3.out; rintro e w' ⟨rfl, ⟨nd, rfl⟩⟩; (try first | exact ⟨rfl, _, World.drewN_drewN _ _ _⟩ | exact ⟨rfl, _, Eq.trans (World.drewN_drewN _ _ _) (congrArg (World.drewN _) (Nat.add_assoc _ _ _))⟩)) | (go_at_call 68; (with_reducible refine (jigsawref06_in.calls k _ _ l0_4 (-1000000) 1000000 true _ ?side1 ?side2 A5.out).mono ?_); (case side1 => repeat (first | exact (Kd.C_below HR0_4.out bel_) | (with_reducible refine Kd.C_alloc ?_ _) | (with_reducible refine Kd.C_drewN ?_ _) | (with_reducible refine Kd.C_drew ?_))); (case side2 => exact HC0_4.out); rintro e w' ⟨rfl, ⟨nd, rfl⟩⟩; (try first | exact ⟨rfl, _, World.drewN_drewN _ _ _⟩ | exact ⟨rfl, _, Eq.trans (World.drewN_drewN _ _ _) (congrArg (World.drewN _) (Nat.add_assoc _ _ _))⟩)) | (go_at_call 68; (with_reducible refine (jigsawref06_in.calls k _ _ l0_5 (-1000000) 1000000 true _ ?side1 ?side2 A6.out).mono ?_); (case side1 => repeat (first | exact (Kd.C_below HR0_5.out bel_) | (with_reducible refine Kd.C_alloc ?_ _) | (with_reducible refine Kd.C_drewN ?_ _) | (with_reducible refine Kd.C_drew ?_))); (case side2 => exact HC0_5.out); rintro e w' ⟨rfl, ⟨nd, rfl⟩⟩; (try first | exact ⟨rfl, _, World.drewN_drewN _ _ _⟩ | exact ⟨rfl, _, Eq.trans (World.drewN_drewN _ _ _) (congrArg (World.drewN _) (Nat.add_assoc _ _ _))⟩))); try go_wp2_with (first | ((with_reducible refine gate_dst (N := 1) rfl ?_); (try (refine gate_guard (by rfl) ?_; dsimp only)); refine bxe_ (N := 1) (cs := #[.int .i64 a0_0, .slice A0_1 l0_1.length c0_1, .slice A0_2 l0_2.length c0_2, .slice A0_3 l0_3.length c0_3, .slice A0_4 l0_4.length c0_4, .slice A0_5 l0_5.length c0_5, .int .i64 a0_6, .slice A0_7 l0_7.length c0_7]) (t := 32) ?_; intro gb388 hg w12 hbox hb; have BK388 := Aside0.mk (hbox); have GW388 := Aside0.mk (by rw [hg]; exact (below_size bel_) : w.heap.size ≤ gb388); have GE388 := GW388; replace HB := Aside0.mk (below_step bel_ hb); clear hb hbox hg; obtain ⟨_, _, _, _, _, _, _, _, _, _, _, _, _, _, _, _⟩ := cel8_ BK388.out) | (go_at_call 68; (with_reducible refine (jigsawref06_in.calls k _ _ l0_3 (-1000000) 1000000 true _ ?_ ?_ A4.out).mono ?_); exact ca_ ((Kd.C_below HR0_3.out HB.out)); exact HC0_3.out; rintro e w' ⟨rfl, ⟨nd, rfl⟩⟩; (try first | exact ⟨rfl, _, World.drewN_drewN _ _ _⟩ | exact ⟨rfl, _, Eq.trans (World.drewN_drewN _ _ _) (congrArg (World.drewN _) (Nat.add_assoc _ _ _))⟩)) | (go_at_call 68; (with_reducible refine (jigsawref06_in.calls k _ _ l0_4 (-1000000) 1000000 true _ ?side1 ?side2 A5.out).mono ?_); (case side1 => repeat (first | exact (Kd.C_below HR0_4.out bel_) | (with_reducible refine Kd.C_alloc ?_ _) | (with_reducible refine Kd.C_drewN ?_ _) | (with_reducible refine Kd.C_drew ?_))); (case side2 => exact HC0_4.out); rintro e w' ⟨rfl, ⟨nd, rfl⟩⟩; (try first | exact ⟨rfl, _, World.drewN_drewN _ _ _⟩ | exact ⟨rfl, _, Eq.trans (World.drewN_drewN _ _ _) (congrArg (World.drewN _) (Nat.add_assoc _ _ _))⟩)) | (go_at_call 68; (with_reducible refine (jigsawref06_in.calls k _ _ l0_5 (-1000000) 1000000 true _ ?side1 ?side2 A6.out).mono ?_); (case side1 => repeat (first | exact (Kd.C_below HR0_5.out bel_) | (with_reducible refine Kd.C_alloc ?_ _) | (with_reducible refine Kd.C_drewN ?_ _) | (with_reducible refine Kd.C_drew ?_))); (case side2 => exact HC0_5.out); rintro e w' ⟨rfl, ⟨nd, rfl⟩⟩; (try first | exact ⟨rfl, _, World.drewN_drewN _ _ _⟩ | exact ⟨rfl, _, Eq.trans (World.drewN_drewN _ _ _) (congrArg (World.drewN _) (Nat.add_assoc _ _ _))⟩))))
        go_loopg [9] k (fun kq v9 w' => ∃ (x9_1 : Int), v9 = .int .i64 x9_1 ∧ Aside0 (jigsawref06_Coefs.l0 kq x9_1 a0_0 l0_1 l0_2 l0_3 l0_4 l0_5 a0_6 l0_7 = some r) ∧ Aside0 (kq ≤ k) ∧ Aside0 (w'.heap[gb388]? = some (.cells #[.int .i64 a0_0, (.slice A0_1 l0_1.length c0_1), (.slice A0_2 l0_2.length c0_2), (.slice A0_3 l0_3.length c0_3), (.slice A0_4 l0_4.length c0_4), (.slice A0_5 l0_5.length c0_5), .int .i64 a0_6, (.slice A0_7 l0_7.length c0_7)] 32 (0, 0))) ∧ Aside0 (Below w.heap.size w w'))
        case atStart => exact ⟨(0), eq_, H', ⟨Nat.le_refl _⟩, ⟨by refine bk_ ?_; exact BK388.out⟩, ⟨bel_⟩⟩
        case round =>
         clear H'
         try clear c1
         try clear c2
         try clear c2b0
         try clear c2b1
         try clear p2
         try clear c3
         try clear c3b0
         try clear c3b1
         try clear c6
         try clear c7
         try clear c8
         try clear c9
         try clear c10
         try clear c10b0
         try clear c11
         try clear c11b0
         obtain ⟨x9_1, rfl, HA, HK1, BK388, HB⟩ := hrel
         cases gk with
         | zero => exact absurd HA.out (by simp [jigsawref06_Coefs.l0])
         | succ k1 =>
          have H := HA.out
          clear HA
          simp only [jigsawref06_Coefs.l0] at H
          by_cases c14 : x9_1 < (l0_7.length : Int)
          ·
           rw [if_pos c14] at H
           exact absurd H (by simp)
          ·
           rw [if_neg c14] at H
           have c14b0 : decide (x9_1 < (l0_7.length : Int)) = false := decide_eq_false c14
           clear c14
           have H' := Aside0.mk H
           clear H
           obtain ⟨_, _, _, _, _, _, _, _, _, _, _, _, _, _, _, _⟩ := cel8_ BK388.out
           go_wp2
           repeat (go_quiet (fail); try go_wp2)
           go_loopg [] k1 (fun kq w' => Aside0 (jigsawref06_Coefs.l1 kq a0_0 l0_1 l0_2 l0_3 l0_4 l0_5 a0_6 l0_7 = some r) ∧ Aside0 (kq ≤ k1) ∧ Aside0 (w'.heap[gb388]? = some (.cells #[.int .i64 a0_0, (.slice A0_1 l0_1.length c0_1), (.slice A0_2 l0_2.length c0_2), (.slice A0_3 l0_3.length c0_3), (.slice A0_4 l0_4.length c0_4), (.slice A0_5 l0_5.length c0_5), .int .i64 a0_6, (.slice A0_7 l0_7.length c0_7)] 32 (0, 0))) ∧ Aside0 (Below w.heap.size w w'))
           case atStart => exact ⟨H', ⟨Nat.le_refl _⟩, ⟨by refine bk_ ?_; exact BK388.out⟩, ⟨bel_⟩⟩
           case round =>
            clear H'
            try clear c1
            try clear c2
            try clear c2b0
            try clear c2b1
            try clear p2
            try clear c3
            try clear c3b0
            try clear c3b1
            try clear c6
            try clear c7
            try clear c8
            try clear c9
            try clear c10
            try clear c10b0
            try clear c11
            try clear c11b0
            try clear c14
            try clear c14b0
            try clear p2
            obtain ⟨HA, HK2, BK388, HB⟩ := hrel
            cases gk with
            | zero => exact absurd HA.out (by simp [jigsawref06_Coefs.l1])
            | succ k2 =>
             have H := HA.out
             clear HA
             simp only [jigsawref06_Coefs.l1] at H
             by_cases c16 : a0_0 = 21
             ·
              rw [if_pos c16] at H
              exact absurd H (by simp)
             ·
              rw [if_neg c16] at H
              have c16b0 : (a0_0 == 21) = false := beq_eq_false_iff_ne.mpr c16
              have c16b1 : (a0_0 != 21) = true := bne_iff_ne.mpr c16
              obtain rfl := Option.some.inj H
              obtain ⟨_, _, _, _, _, _, _, _, _, _, _, _, _, _, _, _⟩ := cel8_ BK388.out
              go_wp2
              repeat (go_quiet (fail); try go_wp2)
              go_ret
              exact ⟨by first | rfl | (simp [errW_none, errW_some] <;> rfl) | (simp [*, errW_none, errW_some] <;> rfl), bel_⟩
     ·
      replace c9 := Bool.eq_false_iff.mpr c9
      subst c9
      have H1 : (none) = some r := by rw [if_neg (show ¬ (false = true) by decide)] at H; exact H
      clear H
      have H := H1
      clear H1
      exact absurd H (by simp)
    ·
     replace c8 := Bool.eq_false_iff.mpr c8
     subst c8
     have H1 : (none) = some r := by rw [if_neg (show ¬ (false = true) by decide)] at H; exact H
     clear H
     have H := H1
     clear H1
     exact absurd H (by simp)
   ·
    replace c7 := Bool.eq_false_iff.mpr c7
    subst c7
    have H1 : (none) = some r := by rw [if_neg (show ¬ (false = true) by decide)] at H; exact H
    clear H
    have H := H1
    clear H1
    exact absurd H (by simp)


/-! ### jigsawref06_Right: function 35 -/
def jigsawref06_Right.f (k : Nat) (a0_0 : Int) (l0_1 : List Int) (l0_2 : List Int) (l0_3 : List Int) (l0_4 : List Int) (l0_5 : List Int) (a0_6 : Int) (l0_7 : List (List Int)) (a1 : Int) : Option (Int) := if a0_0 < 1 then (none) else (if a0_0 > 23 then (none) else ((jigsawref06_Shapes.f).bind fun t393 => (if 0 ≤ a0_0 then (if a0_0 < (t393.length : Int) then ((jigsawref06_Arity.f a0_0 l0_1 l0_2 l0_3 l0_4 l0_5 a0_6 l0_7 (rdOf ByteArray.empty t393 a0_0)).bind fun t397 => (if t397 = true then (if a1 > 0 then ((jigsawref06_in.f k l0_1 0 (wrap64 (a1 - 1))).bind fun t398 => ((jigsawref06_in.f k l0_2 0 (wrap64 (a1 - 1))).bind fun t399 => (if t398 = true then (if t399 = true then ((jigsawref06_Coefs.f k a0_0 l0_1 l0_2 l0_3 l0_4 l0_5 a0_6 l0_7).bind fun t400 => (if t400 = true then (some 0) else (none))) else (none)) else (none)))) else (none)) else (none))) else (none)) else (none))))
theorem jigsawref06_Right.mono : ∀ a0 a1 a2 a3 a4 a5 a6 a7 a8 k, LeO (jigsawref06_Right.f k a0 a1 a2 a3 a4 a5 a6 a7 a8) (jigsawref06_Right.f (k + 1) a0 a1 a2 a3 a4 a5 a6 a7 a8) := by
 intro a0 a1 a2 a3 a4 a5 a6 a7 a8 k
 unfold jigsawref06_Right.f
 have m0 := @jigsawref06_Coefs.mono
 have m1 := @jigsawref06_in.mono
 exact leo_
def jigsawref06_Right.T4 : Bool × List (List Nat × List Nat) := (true, [([], []), ([], []), ([], []), ([2], [2]), ([1, 3], [1, 3]), ([4], [4]), ([0, 5], [0, 5]), ([6, 6, 0, 1, 2, 3, 4, 5, 6], [6])])
def jigsawref06_Right.B4 : List Nat := [0, 0, 0, 4, 14, 30, 63, 127]
theorem jigsawref06_Right.tab4 : rtab .any (opsOf Tryz.f35 4) = jigsawref06_Right.T4 := by kernel_rfl
theorem jigsawref06_Right.bits4 : waitsOk jigsawref06_Right.T4.2 jigsawref06_Right.B4 = true := by kernel_rfl
set_option maxHeartbeats 8000000 in
set_option maxRecDepth 100000 in
theorem jigsawref06_Right.calls (k : Nat) (a0_0 : Int) (A0_1 : Option Addr) (c0_1 : Nat) (l0_1 : List Int) (A0_2 : Option Addr) (c0_2 : Nat) (l0_2 : List Int) (A0_3 : Option Addr) (c0_3 : Nat) (l0_3 : List Int) (A0_4 : Option Addr) (c0_4 : Nat) (l0_4 : List Int) (A0_5 : Option Addr) (c0_5 : Nat) (l0_5 : List Int) (a0_6 : Int) (A0_7 : Option Addr) (c0_7 : Nat) (l0_7 : List (List Int)) (a1 : Int) (r : Int) (w : World) (hr0_1 : Kd.C (Kd.int .i64) w A0_1 l0_1.length l0_1) (hc0_1 : l0_1.length ≤ c0_1) (hr0_2 : Kd.C (Kd.int .i64) w A0_2 l0_2.length l0_2) (hc0_2 : l0_2.length ≤ c0_2) (hr0_3 : Kd.C (Kd.int .i64) w A0_3 l0_3.length l0_3) (hc0_3 : l0_3.length ≤ c0_3) (hr0_4 : Kd.C (Kd.int .i64) w A0_4 l0_4.length l0_4) (hc0_4 : l0_4.length ≤ c0_4) (hr0_5 : Kd.C (Kd.int .i64) w A0_5 l0_5.length l0_5) (hc0_5 : l0_5.length ≤ c0_5) (hr0_7 : Kd.C (Kd.slice 3 (Kd.int .i64)) w A0_7 l0_7.length l0_7) (hc0_7 : l0_7.length ≤ c0_7) (h : jigsawref06_Right.f k a0_0 l0_1 l0_2 l0_3 l0_4 l0_5 a0_6 l0_7 a1 = some r) :
  Calls Tryz.prog 35 #[.agg #[.int .i64 a0_0, .slice A0_1 l0_1.length c0_1, .slice A0_2 l0_2.length c0_2, .slice A0_3 l0_3.length c0_3, .slice A0_4 l0_4.length c0_4, .slice A0_5 l0_5.length c0_5, .int .i64 a0_6, .slice A0_7 l0_7.length c0_7], .int .i64 a1] w fun e w' => e = .returned (.int .i64 r) ∧ Below w.heap.size w w' := by
 have hu32 := Tryz.underlying32
 have HR0_1 := Aside0.mk hr0_1
 have HC0_1 := Aside0.mk hc0_1
 clear hr0_1 hc0_1
 have HR0_2 := Aside0.mk hr0_2
 have HC0_2 := Aside0.mk hc0_2
 clear hr0_2 hc0_2
 have HR0_3 := Aside0.mk hr0_3
 have HC0_3 := Aside0.mk hc0_3
 clear hr0_3 hc0_3
 have HR0_4 := Aside0.mk hr0_4
 have HC0_4 := Aside0.mk hc0_4
 clear hr0_4 hc0_4
 have HR0_5 := Aside0.mk hr0_5
 have HC0_5 := Aside0.mk hc0_5
 clear hr0_5 hc0_5
 have HR0_7 := Aside0.mk hr0_7
 have HC0_7 := Aside0.mk hc0_7
 clear hr0_7 hc0_7
 have HB := Aside0.mk (Below.refl w.heap.size w)
 unfold jigsawref06_Right.f at h
 have H := h
 clear h
 by_cases c3 : a0_0 < 1
 ·
  rw [if_pos c3] at H
  exact absurd H (by simp)
 ·
  rw [if_neg c3] at H
  have c3b0 : decide (a0_0 < 1) = false := decide_eq_false c3
  clear c3
  by_cases c4 : a0_0 > 23
  ·
   rw [if_pos c4] at H
   exact absurd H (by simp)
  ·
   rw [if_neg c4] at H
   have c4b0 : decide (23 < a0_0) = false := decide_eq_false c4
   clear c4
   replace H := Option.bind_eq_some_iff.mp H
   obtain ⟨t393, A50, H⟩ := H
   try dsimp only at H
   have A5 := Aside0.mk A50
   clear A50
   by_cases c6 : 0 ≤ a0_0
   ·
    rw [if_pos c6] at H
    have c6b0 : decide (0 ≤ a0_0) = true := decide_eq_true c6
    clear c6
    by_cases c7 : a0_0 < (t393.length : Int)
    ·
     rw [if_pos c7] at H
     have c7b0 : decide (a0_0 < (t393.length : Int)) = true := decide_eq_true c7
     clear c7
     replace H := Option.bind_eq_some_iff.mp H
     obtain ⟨t397, A80, H⟩ := H
     try dsimp only at H
     have A8 := Aside0.mk A80
     clear A80
     by_cases c9 : t397 = true
     ·
      subst c9
      rw [if_pos rfl] at H
      by_cases c10 : a1 > 0
      ·
       rw [if_pos c10] at H
       have c10b0 : decide (0 < a1) = true := decide_eq_true c10
       clear c10
       replace H := Option.bind_eq_some_iff.mp H
       obtain ⟨t398, A110, H⟩ := H
       try dsimp only at H
       have A11 := Aside0.mk A110
       clear A110
       replace H := Option.bind_eq_some_iff.mp H
       obtain ⟨t399, A120, H⟩ := H
       try dsimp only at H
       have A12 := Aside0.mk A120
       clear A120
       by_cases c13 : t398 = true
       ·
        subst c13
        rw [if_pos rfl] at H
        by_cases c14 : t399 = true
        ·
         subst c14
         rw [if_pos rfl] at H
         replace H := Option.bind_eq_some_iff.mp H
         obtain ⟨t400, A150, H⟩ := H
         try dsimp only at H
         have A15 := Aside0.mk A150
         clear A150
         by_cases c16 : t400 = true
         ·
          subst c16
          rw [if_pos rfl] at H
          obtain rfl := Option.some.inj H
          go_enter Tryz.func35, Tryz.ntmps35
          try go_wp2_with (first | ((with_reducible refine gate_dst (N := 2) rfl ?_); refine bxe_ (N := 2) (cs := #[.int .i64 a0_0, .slice A0_1 l0_1.length c0_1, .slice A0_2 l0_2.length c0_2, .slice A0_3 l0_3.length c0_3, .slice A0_4 l0_4.length c0_4, .slice A0_5 l0_5.length c0_5, .int .i64 a0_6, .slice A0_7 l0_7.length c0_7]) (t := 32) ?_; intro gb392 hg w17 hbox hb; have BK392 := Aside0.mk (hbox); have GW392 := Aside0.mk (by rw [hg]; exact (below_size bel_) : w.heap.size ≤ gb392); have GE392 := GW392; replace HB := Aside0.mk (below_step bel_ hb); clear hb hbox hg; obtain ⟨_, _, _, _, _, _, _, _, _, _, _, _, _, _, _, _⟩ := cel8_ BK392.out) | ((with_reducible refine gate_callee (f := 36) rfl ?_); refine goesL_ (some 18) rfl rfl Tryz.func36 (by kernel_rfl) rfl #[] rfl ar_ ?_; (with_reducible refine (jigsawref06_Shapes.calls t393 _ A5.out).mono ?_); rintro e w19 ⟨v394, rfl, ho0, hb⟩; refine ⟨_, rfl, ?_⟩; have HO395 := Aside0.mk (Kd.R_lower ho0 (below_size bel_)); replace BK392 := Aside0.mk (blk_below (bk_ BK392.out) hb); replace HB := Aside0.mk (below_step bel_ hb); clear hb ho0))
          replace HO395 := Aside0.mk (Kd.R_drew HO395.out)
          replace BK392 := Aside0.mk (blk_drew BK392.out)
          replace HB := Aside0.mk (below_drew1 HB.out)
          obtain ⟨Ao21, co21, eo21⟩ := Kd.R_slice HO395.out
          (first | subst eo21 | (injection eo21 with f1_ f2_ f3_; have f4_ := f1_.symm; have f5_ := f3_.symm; clear f1_ f2_ f3_; subst f4_; subst f5_))
          have p396 : 0 ≤ (a0_0 : Int) := dq_
          have q396 : a0_0 < (t393.length : Int) := dq_
          obtain ⟨ad396, e396, hx396_0⟩ := Kd.at_string (Kd.R_reads' HO395.out).2.2 a0_0 p396 q396
          cases e396
          replace p396 := eq_true p396
          replace q396 := eq_true q396
          refine start_ (n := 8) (S := fun w' => w'.cell? ⟨gb392, 0, none⟩ = some (.int .i64 a0_0) ∧ w'.cell? ⟨gb392, 1, none⟩ = some (.slice A0_1 l0_1.length c0_1) ∧ w'.cell? ⟨gb392, 2, none⟩ = some (.slice A0_2 l0_2.length c0_2) ∧ w'.cell? ⟨gb392, 3, none⟩ = some (.slice A0_3 l0_3.length c0_3) ∧ w'.cell? ⟨gb392, 4, none⟩ = some (.slice A0_4 l0_4.length c0_4) ∧ w'.cell? ⟨gb392, 5, none⟩ = some (.slice A0_5 l0_5.length c0_5) ∧ w'.cell? ⟨gb392, 6, none⟩ = some (.int .i64 a0_6) ∧ w'.cell? ⟨gb392, 7, none⟩ = some (.slice A0_7 l0_7.length c0_7) ∧ w'.cell? (ad396.add (a0_0).toNat) = some (.string (rdOf ByteArray.empty t393 a0_0))) (ds := []) #[false, false, false, false, false, false, false, false] (by kernel_rfl) rfl rfl (cb8_ BK392.out (hx396_0)) (fun hHeld => ?_); refine with_tabW jigsawref06_Right.tab4 jigsawref06_Right.bits4 (fun HT_ HW_ => ?_)
          generalize w19.drew = w20 at HO395 BK392 HB hx396_0 hHeld ⊢
          refine pu_ (i := 1) (N := some 20) (any_of HT_.out (by kernel_rfl)) ?_
          refine pu_ (i := 2) (N := some 21) (any_of HT_.out (by kernel_rfl)) ?_
          refine tak_ (i := 0) (N := some 19) (take_ofW HT_.out HW_.out (by kernel_rfl)) hHeld ?_
          refine tak_ (i := 3) (N := some 22) (take_ofW HT_.out HW_.out (by kernel_rfl)) hHeld ?_
          refine pu_ (i := 4) (N := some 23) (any_of HT_.out (by kernel_rfl)) ?_
          refine tak_ (i := 5) (N := some 24) (take_ofW HT_.out HW_.out (by kernel_rfl)) hHeld ?_
          refine one_ (i := 6) (N := some 25) #[true, true, true, true, true, true, true, false] rfl rfl (one_of HT_.out (by kernel_rfl)) (by decide) (fun K hK => ?_)
          refine goes_ Tryz.func67 (by kernel_rfl) rfl #[.agg #[.int .i64 a0_0, .slice A0_1 l0_1.length c0_1, .slice A0_2 l0_2.length c0_2, .slice A0_3 l0_3.length c0_3, .slice A0_4 l0_4.length c0_4, .slice A0_5 l0_5.length c0_5, .int .i64 a0_6, .slice A0_7 l0_7.length c0_7], .string (rdOf ByteArray.empty t393 a0_0)] (by rfl) rfl rfl ar_ ?_
          with_reducible refine (jigsawref06_Arity.calls a0_0 _ _ l0_1 _ _ l0_2 _ _ l0_3 _ _ l0_4 _ _ l0_5 a0_6 _ _ l0_7 (rdOf ByteArray.empty t393 a0_0) true _ ?_ ?_ ?_ ?_ ?_ ?_ ?_ ?_ ?_ ?_ ?_ ?_ A8.out).mono ?_
          exact ca_ ((Kd.C_below HR0_1.out HB.out))
          exact HC0_1.out
          exact ca_ ((Kd.C_below HR0_2.out HB.out))
          exact HC0_2.out
          exact ca_ ((Kd.C_below HR0_3.out HB.out))
          exact HC0_3.out
          exact ca_ ((Kd.C_below HR0_4.out HB.out))
          exact HC0_4.out
          exact ca_ ((Kd.C_below HR0_5.out HB.out))
          exact HC0_5.out
          exact ca_ ((Kd.C_below HR0_7.out HB.out))
          exact HC0_7.out
          rintro e w22 ⟨rfl, hb⟩
          have HS8_ := (hb.cell (World.block_lt_of_cell? _ _ (hHeld.2.2.2.2.2.2.2.2))).trans (hHeld.2.2.2.2.2.2.2.2)
          refine ⟨_, rfl, ?_⟩
          replace BK392 := Aside0.mk (blk_below (bk_ BK392.out) hb)
          replace HB := Aside0.mk (below_step bel_ hb)
          clear hb
          refine hK.out _ _ (cb8_ BK392.out (HS8_)) (fun hHeld => ?_)
          clear hK K
          refine nor_ (N := some 25) ?_
          refine pu_ (i := 7) (N := some 6) (any_of HT_.out (by kernel_rfl)) ?_
          refine done_ (done_of HT_.out (by kernel_rfl)) ?_
          obtain ⟨_, _, _, _, _, _, _, _, _, _, _, _, _, _, _, _⟩ := cel8_ BK392.out
          try go_wp2_with (first | ((with_reducible refine gate_callee (f := 68) rfl ?_); refine goesL_ (some 35) rfl rfl Tryz.func68 (by kernel_rfl) rfl #[.slice A0_1 l0_1.length c0_1, .int .i64 0, .int .i64 (wrap64 (a1 - 1))] rfl ar_ ?_; (with_reducible refine (jigsawref06_in.calls k _ _ l0_1 0 (wrap64 (a1 - 1)) true _ ?_ ?_ A11.out).mono ?_); exact ca_ ((Kd.C_below HR0_1.out HB.out)); exact HC0_1.out; rintro e w' ⟨rfl, ⟨nd, rfl⟩⟩; refine ⟨_, rfl, ?_⟩) | ((with_reducible refine gate_callee (f := 68) rfl ?_); refine goesL_ (some 39) rfl rfl Tryz.func68 (by kernel_rfl) rfl #[.slice A0_2 l0_2.length c0_2, .int .i64 0, .int .i64 (wrap64 (a1 - 1))] rfl ar_ ?_; (with_reducible refine (jigsawref06_in.calls k _ _ l0_2 0 (wrap64 (a1 - 1)) true _ ?side1 ?side2 A12.out).mono ?_); (case side1 => repeat (first | exact (Kd.C_below HR0_2.out bel_) | (with_reducible refine Kd.C_alloc ?_ _) | (with_reducible refine Kd.C_drewN ?_ _) | (with_reducible refine Kd.C_drew ?_))); (case side2 => exact HC0_2.out); rintro e w' ⟨rfl, ⟨nd, rfl⟩⟩; refine ⟨_, rfl, ?_⟩) | ((with_reducible refine gate_callee (f := 69) rfl ?_); refine goesL_ (some 47) rfl rfl Tryz.func69 (by kernel_rfl) rfl #[.agg #[.int .i64 a0_0, .slice A0_1 l0_1.length c0_1, .slice A0_2 l0_2.length c0_2, .slice A0_3 l0_3.length c0_3, .slice A0_4 l0_4.length c0_4, .slice A0_5 l0_5.length c0_5, .int .i64 a0_6, .slice A0_7 l0_7.length c0_7]] rfl ar_ ?_; (with_reducible refine (jigsawref06_Coefs.calls k a0_0 _ _ l0_1 _ _ l0_2 _ _ l0_3 _ _ l0_4 _ _ l0_5 a0_6 _ _ l0_7 true _ ?side1 ?side2 ?side3 ?side4 ?side5 ?side6 ?side7 ?side8 ?side9 ?side10 ?side11 ?side12 A15.out).mono ?_); (case side1 => repeat (first | exact (Kd.C_below HR0_1.out bel_) | (with_reducible refine Kd.C_alloc ?_ _) | (with_reducible refine Kd.C_drewN ?_ _) | (with_reducible refine Kd.C_drew ?_))); (case side2 => exact HC0_1.out); (case side3 => repeat (first | exact (Kd.C_below HR0_2.out bel_) | (with_reducible refine Kd.C_alloc ?_ _) | (with_reducible refine Kd.C_drewN ?_ _) | (with_reducible refine Kd.C_drew ?_))); (case side4 => exact HC0_2.out); (case side5 => repeat (first | exact (Kd.C_below HR0_3.out bel_) | (with_reducible refine Kd.C_alloc ?_ _) | (with_reducible refine Kd.C_drewN ?_ _) | (with_reducible refine Kd.C_drew ?_))); (case side6 => exact HC0_3.out); (case side7 => repeat (first | exact (Kd.C_below HR0_4.out bel_) | (with_reducible refine Kd.C_alloc ?_ _) | (with_reducible refine Kd.C_drewN ?_ _) | (with_reducible refine Kd.C_drew ?_))); (case side8 => exact HC0_4.out); (case side9 => repeat (first | exact (Kd.C_below HR0_5.out bel_) | (with_reducible refine Kd.C_alloc ?_ _) | (with_reducible refine Kd.C_drewN ?_ _) | (with_reducible refine Kd.C_drew ?_))); (case side10 => exact HC0_5.out); (case side11 => repeat (first | exact (Kd.C_below HR0_7.out bel_) | (with_reducible refine Kd.C_alloc ?_ _) | (with_reducible refine Kd.C_drewN ?_ _) | (with_reducible refine Kd.C_drew ?_))); (case side12 => exact HC0_7.out); rintro e w24 ⟨rfl, hb⟩; refine ⟨_, rfl, ?_⟩; replace HB := Aside0.mk (below_step bel_ hb); clear hb))
          go_ret
          exact ⟨by first | rfl | (simp [errW_none, errW_some] <;> rfl) | (simp [*, errW_none, errW_some] <;> rfl), bel_⟩
         ·
          replace c16 := Bool.eq_false_iff.mpr c16
          subst c16
          have H1 : (none) = some r := by rw [if_neg (show ¬ (false = true) by decide)] at H; exact H
          clear H
          have H := H1
          clear H1
          exact absurd H (by simp)
        ·
         replace c14 := Bool.eq_false_iff.mpr c14
         subst c14
         have H1 : (none) = some r := by rw [if_neg (show ¬ (false = true) by decide)] at H; exact H
         clear H
         have H := H1
         clear H1
         exact absurd H (by simp)
       ·
        replace c13 := Bool.eq_false_iff.mpr c13
        subst c13
        have H1 : (none) = some r := by rw [if_neg (show ¬ (false = true) by decide)] at H; exact H
        clear H
        have H := H1
        clear H1
        exact absurd H (by simp)
      ·
       rw [if_neg c10] at H
       exact absurd H (by simp)
     ·
      replace c9 := Bool.eq_false_iff.mpr c9
      subst c9
      have H1 : (none) = some r := by rw [if_neg (show ¬ (false = true) by decide)] at H; exact H
      clear H
      have H := H1
      clear H1
      exact absurd H (by simp)
    ·
     rw [if_neg c7] at H
     exact absurd H (by simp)
   ·
    rw [if_neg c6] at H
    exact absurd H (by simp)

/-! ### jigsawref10_Fits: function 18 -/
def jigsawref10_Fits.l0 : Nat → List (List Int) → Int → Option (Bool)
 | 0, _, _ => none
 | k + 1, x1, x10 => if x10 < (x1.length : Int) then (if 0 ≤ x10 then (if ((rd_L7 x1 x10).length : Int) = 0 then (none) else (jigsawref10_Fits.l0 k x1 (wrap64 (x10 + 1)))) else (none)) else (some true)
def jigsawref10_Fits.f (k : Nat) (a0_0 : Int) (l0_1 : List Int) (l0_2 : List Int) (l0_3 : List Int) (l0_4 : List Int) (l0_5 : List Int) (a0_6 : Int) (l0_7 : List (List Int)) (l1 : List (List Int)) (a2 : Int) (a3 : Int) : Option (Bool) := if a0_0 < a2 then (none) else (if a0_0 > a3 then (none) else (if (l1.length : Int) = (wrap64 ((l0_1.length : Int) + (l0_2.length : Int))) then ((jigsawref06_Right.f k a0_0 l0_1 l0_2 l0_3 l0_4 l0_5 a0_6 l0_7 256).bind fun t402 => (if t402 = 0 then (jigsawref10_Fits.l0 k l1 0) else (none))) else (none)))
theorem jigsawref10_Fits.mono_l : ∀ k, (∀ y0 y1, LeO (jigsawref10_Fits.l0 k y0 y1) (jigsawref10_Fits.l0 (k + 1) y0 y1))
 | 0 => fun _ _ r h => by simp [jigsawref10_Fits.l0] at h
 | k + 1 => by
  have ih0 := jigsawref10_Fits.mono_l k
  ·
   intro y0 y1
   unfold jigsawref10_Fits.l0
   have m0 := @jigsawref06_Right.mono
   exact leo_
theorem jigsawref10_Fits.mono : ∀ a0 a1 a2 a3 a4 a5 a6 a7 a8 a9 a10 k, LeO (jigsawref10_Fits.f k a0 a1 a2 a3 a4 a5 a6 a7 a8 a9 a10) (jigsawref10_Fits.f (k + 1) a0 a1 a2 a3 a4 a5 a6 a7 a8 a9 a10) := by
 intro a0 a1 a2 a3 a4 a5 a6 a7 a8 a9 a10 k
 have ih0 := jigsawref10_Fits.mono_l k
 unfold jigsawref10_Fits.f
 have m0 := @jigsawref06_Right.mono
 exact leo_
set_option maxHeartbeats 8000000 in
set_option maxRecDepth 100000 in
theorem jigsawref10_Fits.calls (k : Nat) (a0_0 : Int) (A0_1 : Option Addr) (c0_1 : Nat) (l0_1 : List Int) (A0_2 : Option Addr) (c0_2 : Nat) (l0_2 : List Int) (A0_3 : Option Addr) (c0_3 : Nat) (l0_3 : List Int) (A0_4 : Option Addr) (c0_4 : Nat) (l0_4 : List Int) (A0_5 : Option Addr) (c0_5 : Nat) (l0_5 : List Int) (a0_6 : Int) (A0_7 : Option Addr) (c0_7 : Nat) (l0_7 : List (List Int)) (A1 : Option Addr) (c1 : Nat) (l1 : List (List Int)) (a2 : Int) (a3 : Int) (r : Bool) (w : World) (hr0_1 : Kd.C (Kd.int .i64) w A0_1 l0_1.length l0_1) (hc0_1 : l0_1.length ≤ c0_1) (hr0_2 : Kd.C (Kd.int .i64) w A0_2 l0_2.length l0_2) (hc0_2 : l0_2.length ≤ c0_2) (hr0_3 : Kd.C (Kd.int .i64) w A0_3 l0_3.length l0_3) (hc0_3 : l0_3.length ≤ c0_3) (hr0_4 : Kd.C (Kd.int .i64) w A0_4 l0_4.length l0_4) (hc0_4 : l0_4.length ≤ c0_4) (hr0_5 : Kd.C (Kd.int .i64) w A0_5 l0_5.length l0_5) (hc0_5 : l0_5.length ≤ c0_5) (hr0_7 : Kd.C (Kd.slice 3 (Kd.int .i64)) w A0_7 l0_7.length l0_7) (hc0_7 : l0_7.length ≤ c0_7) (hr1 : Kd.C (Kd.slice 3 (Kd.int .i64)) w A1 l1.length l1) (hc1 : l1.length ≤ c1) (h : jigsawref10_Fits.f k a0_0 l0_1 l0_2 l0_3 l0_4 l0_5 a0_6 l0_7 l1 a2 a3 = some r) :
  Calls Tryz.prog 18 #[.agg #[.int .i64 a0_0, .slice A0_1 l0_1.length c0_1, .slice A0_2 l0_2.length c0_2, .slice A0_3 l0_3.length c0_3, .slice A0_4 l0_4.length c0_4, .slice A0_5 l0_5.length c0_5, .int .i64 a0_6, .slice A0_7 l0_7.length c0_7], .slice A1 l1.length c1, .int .i64 a2, .int .i64 a3] w fun e w' => e = .returned (.bool r) ∧ Below w.heap.size w w' := by
 have hu32 := Tryz.underlying32
 have HR0_1 := Aside0.mk hr0_1
 have HC0_1 := Aside0.mk hc0_1
 clear hr0_1 hc0_1
 have HR0_2 := Aside0.mk hr0_2
 have HC0_2 := Aside0.mk hc0_2
 clear hr0_2 hc0_2
 have HR0_3 := Aside0.mk hr0_3
 have HC0_3 := Aside0.mk hc0_3
 clear hr0_3 hc0_3
 have HR0_4 := Aside0.mk hr0_4
 have HC0_4 := Aside0.mk hc0_4
 clear hr0_4 hc0_4
 have HR0_5 := Aside0.mk hr0_5
 have HC0_5 := Aside0.mk hc0_5
 clear hr0_5 hc0_5
 have HR0_7 := Aside0.mk hr0_7
 have HC0_7 := Aside0.mk hc0_7
 clear hr0_7 hc0_7
 have HR1 := Aside0.mk hr1
 have HC1 := Aside0.mk hc1
 clear hr1 hc1
 have HB := Aside0.mk (Below.refl w.heap.size w)
 unfold jigsawref10_Fits.f at h
 have H := h
 clear h
 by_cases c5 : a0_0 < a2
 ·
  rw [if_pos c5] at H
  exact absurd H (by simp)
 ·
  rw [if_neg c5] at H
  have c5b0 : decide (a0_0 < a2) = false := decide_eq_false c5
  clear c5
  by_cases c6 : a0_0 > a3
  ·
   rw [if_pos c6] at H
   exact absurd H (by simp)
  ·
   rw [if_neg c6] at H
   have c6b0 : decide (a3 < a0_0) = false := decide_eq_false c6
   clear c6
   by_cases c7 : (l1.length : Int) = (wrap64 ((l0_1.length : Int) + (l0_2.length : Int)))
   ·
    rw [if_pos c7] at H
    have c7b0 : ((l1.length : Int) == (wrap64 ((l0_1.length : Int) + (l0_2.length : Int)))) = true := beq_iff_eq.mpr c7
    have c7b1 : ((l1.length : Int) != (wrap64 ((l0_1.length : Int) + (l0_2.length : Int)))) = false := bne_eq_false_iff_eq.mpr c7
    clear c7
    replace H := Option.bind_eq_some_iff.mp H
    obtain ⟨t402, A80, H⟩ := H
    try dsimp only at H
    have A8 := Aside0.mk A80
    clear A80
    by_cases c9 : t402 = 0
    ·
     rw [if_pos c9] at H
     have c9b0 : (t402 == 0) = true := beq_iff_eq.mpr c9
     have c9b1 : (t402 != 0) = false := bne_eq_false_iff_eq.mpr c9
     clear c9
     have H' := Aside0.mk H
     clear H
     go_enter Tryz.func18, Tryz.ntmps18
     go_wp2_with (first | ((with_reducible refine gate_dst (N := 4) rfl ?_); (try (refine gate_guard (by rfl) ?_; dsimp only)); refine bxe_ (N := 4) (cs := #[.int .i64 a0_0, .slice A0_1 l0_1.length c0_1, .slice A0_2 l0_2.length c0_2, .slice A0_3 l0_3.length c0_3, .slice A0_4 l0_4.length c0_4, .slice A0_5 l0_5.length c0_5, .int .i64 a0_6, .slice A0_7 l0_7.length c0_7]) (t := 32) ?_; intro gb401 hg w10 hbox hb; have BK401 := Aside0.mk (hbox); have GW401 := Aside0.mk (by rw [hg]; exact (below_size bel_) : w.heap.size ≤ gb401); have GE401 := GW401; replace HB := Aside0.mk (below_step bel_ hb); clear hb hbox hg; obtain ⟨_, _, _, _, _, _, _, _, _, _, _, _, _, _, _, _⟩ := cel8_ BK401.out) | ((with_reducible refine gate_callee (f := 35) rfl ?_); refine goesL_ (some 34) rfl rfl Tryz.func35 (by kernel_rfl) rfl #[.agg #[.int .i64 a0_0, .slice A0_1 l0_1.length c0_1, .slice A0_2 l0_2.length c0_2, .slice A0_3 l0_3.length c0_3, .slice A0_4 l0_4.length c0_4, .slice A0_5 l0_5.length c0_5, .int .i64 a0_6, .slice A0_7 l0_7.length c0_7], .int .i64 256] rfl ar_ ?_; (with_reducible refine (jigsawref06_Right.calls k a0_0 _ _ l0_1 _ _ l0_2 _ _ l0_3 _ _ l0_4 _ _ l0_5 a0_6 _ _ l0_7 256 t402 _ ?_ ?_ ?_ ?_ ?_ ?_ ?_ ?_ ?_ ?_ ?_ ?_ A8.out).mono ?_); exact ca_ ((Kd.C_below HR0_1.out HB.out)); exact HC0_1.out; exact ca_ ((Kd.C_below HR0_2.out HB.out)); exact HC0_2.out; exact ca_ ((Kd.C_below HR0_3.out HB.out)); exact HC0_3.out; exact ca_ ((Kd.C_below HR0_4.out HB.out)); exact HC0_4.out; exact ca_ ((Kd.C_below HR0_5.out HB.out)); exact HC0_5.out; exact ca_ ((Kd.C_below HR0_7.out HB.out)); exact HC0_7.out; rintro e w12 ⟨rfl, hb⟩; refine ⟨_, rfl, ?_⟩; replace BK401 := Aside0.mk (blk_below (bk_ BK401.out) hb); replace HB := Aside0.mk (below_step bel_ hb); clear hb))
     go_loopg [10] k (fun kq v10 w' => ∃ (x10_1 : Int), v10 = .int .i64 x10_1 ∧ Aside0 (jigsawref10_Fits.l0 kq l1 x10_1 = some r) ∧ Aside0 (kq ≤ k) ∧ Aside0 (w'.heap[gb401]? = some (.cells #[.int .i64 a0_0, (.slice A0_1 l0_1.length c0_1), (.slice A0_2 l0_2.length c0_2), (.slice A0_3 l0_3.length c0_3), (.slice A0_4 l0_4.length c0_4), (.slice A0_5 l0_5.length c0_5), .int .i64 a0_6, (.slice A0_7 l0_7.length c0_7)] 32 (0, 0))) ∧ Aside0 (Below w.heap.size w w'))
     case atStart => exact ⟨(0), eq_, H', ⟨Nat.le_refl _⟩, ⟨by refine bk_ ?_; exact BK401.out⟩, ⟨bel_⟩⟩
     case round =>
      clear H'
      try clear c1
      try clear p2
      try clear c3
      try clear c5
      try clear c5b0
      try clear c6
      try clear c6b0
      try clear p6
      try clear c7
      try clear c7b0
      try clear c7b1
      try clear c9
      try clear c9b0
      try clear c9b1
      obtain ⟨x10_1, rfl, HA, HK1, BK401, HB⟩ := hrel
      cases gk with
      | zero => exact absurd HA.out (by simp [jigsawref10_Fits.l0])
      | succ k1 =>
       have H := HA.out
       clear HA
       simp only [jigsawref10_Fits.l0] at H
       by_cases c13 : x10_1 < (l1.length : Int)
       ·
        rw [if_pos c13] at H
        have c13b0 : decide (x10_1 < (l1.length : Int)) = true := decide_eq_true c13
        clear c13
        by_cases c14 : 0 ≤ x10_1
        ·
         rw [if_pos c14] at H
         have c14b0 : decide (0 ≤ x10_1) = true := decide_eq_true c14
         clear c14
         by_cases c15 : ((rd_L7 l1 x10_1).length : Int) = 0
         ·
          rw [if_pos c15] at H
          exact absurd H (by simp)
         ·
          rw [if_neg c15] at H
          have c15b0 : (((rd_L7 l1 x10_1).length : Int) == 0) = false := beq_eq_false_iff_ne.mpr c15
          have c15b1 : (((rd_L7 l1 x10_1).length : Int) != 0) = true := bne_iff_ne.mpr c15
          have c15b2 : ¬ ((rd_L7 l1 x10_1) = []) := fun h_ => c15 (by rw [h_]; rfl)
          have H' := Aside0.mk H
          clear H
          have p403 : 0 ≤ (x10_1 : Int) := dq_
          have q403 : x10_1 < (l1.length : Int) := dq_
          obtain ⟨ad403, A403_0, c403_0, e403, hx403_0, hl403_0, hi403_0⟩ := at_L7 HR1.out x10_1 p403 q403
          cases e403
          replace hx403_0 := (HB.out.cell (World.block_lt_of_cell? w _ hx403_0)).trans hx403_0
          have HC403_0 := Aside0.mk hl403_0
          clear hi403_0 hl403_0
          replace p403 := eq_true p403
          replace q403 := eq_true q403
          go_wp2
          go_roundg k1
          case measure => have := HK1.out; omega
          case rel => exact ⟨(wrap64 (x10_1 + 1)), eq_, H', ⟨by have := HK1.out; omega⟩, ⟨by refine bk_ ?_; exact BK401.out⟩, ⟨bel_⟩⟩
        ·
         rw [if_neg c14] at H
         exact absurd H (by simp)
       ·
        rw [if_neg c13] at H
        have c13b0 : decide (x10_1 < (l1.length : Int)) = false := decide_eq_false c13
        clear c13
        obtain rfl := Option.some.inj H
        go_wp2
        go_ret
        exact ⟨by first | rfl | (simp [errW_none, errW_some] <;> rfl) | (simp [*, errW_none, errW_some] <;> rfl), bel_⟩
    ·
     rw [if_neg c9] at H
     exact absurd H (by simp)
   ·
    rw [if_neg c7] at H
    exact absurd H (by simp)


/-! ### jigsawref14_can: function 31 -/
def jigsawref14_can.l0 : Nat → List (List Int) → Int → Int → Int → Int → List Int → List Int → List Int → List Int → List Int → Int → List (List Int) → Option (Bool)
 | 0, _, _, _, _, _, _, _, _, _, _, _, _ => none
 | k + 1, x1, x2, x3, x9, x405000, x405001, x405002, x405003, x405004, x405005, x405006, x405007 => if x9 < (x1.length : Int) then (if x9 < (x405001.length : Int) then (if 0 ≤ x9 then ((jigsawref02_Has.f k (rd_L7 x1 x9) 1).bind fun t406 => (if x9 = x2 then (if x3 = 1 then (some true) else (jigsawref14_can.l0 k x1 x2 x3 (wrap64 (x9 + 1)) x405000 x405001 x405002 x405003 x405004 x405005 x405006 x405007)) else (if t406 = true then (some true) else (jigsawref14_can.l0 k x1 x2 x3 (wrap64 (x9 + 1)) x405000 x405001 x405002 x405003 x405004 x405005 x405006 x405007)))) else (none)) else (if 0 ≤ x9 then ((jigsawref02_Has.f k (rd_L7 x1 x9) 0).bind fun t408 => (if x9 = x2 then (if x3 = 0 then (some true) else (jigsawref14_can.l0 k x1 x2 x3 (wrap64 (x9 + 1)) x405000 x405001 x405002 x405003 x405004 x405005 x405006 x405007)) else (if t408 = true then (some true) else (jigsawref14_can.l0 k x1 x2 x3 (wrap64 (x9 + 1)) x405000 x405001 x405002 x405003 x405004 x405005 x405006 x405007)))) else (none))) else (some false)
def jigsawref14_can.f (k : Nat) (a0_0 : Int) (l0_1 : List Int) (l0_2 : List Int) (l0_3 : List Int) (l0_4 : List Int) (l0_5 : List Int) (a0_6 : Int) (l0_7 : List (List Int)) (l1 : List (List Int)) (a2 : Int) (a3 : Int) : Option (Bool) := jigsawref14_can.l0 k l1 a2 a3 0 a0_0 l0_1 l0_2 l0_3 l0_4 l0_5 a0_6 l0_7
theorem jigsawref14_can.mono_l : ∀ k, (∀ y0 y1 y2 y3 y4 y5 y6 y7 y8 y9 y10 y11, LeO (jigsawref14_can.l0 k y0 y1 y2 y3 y4 y5 y6 y7 y8 y9 y10 y11) (jigsawref14_can.l0 (k + 1) y0 y1 y2 y3 y4 y5 y6 y7 y8 y9 y10 y11))
 | 0 => fun _ _ _ _ _ _ _ _ _ _ _ _ r h => by simp [jigsawref14_can.l0] at h
 | k + 1 => by
  have ih0 := jigsawref14_can.mono_l k
  ·
   intro y0 y1 y2 y3 y4 y5 y6 y7 y8 y9 y10 y11
   unfold jigsawref14_can.l0
   have m0 := @jigsawref02_Has.mono
   exact leo_
theorem jigsawref14_can.mono : ∀ a0 a1 a2 a3 a4 a5 a6 a7 a8 a9 a10 k, LeO (jigsawref14_can.f k a0 a1 a2 a3 a4 a5 a6 a7 a8 a9 a10) (jigsawref14_can.f (k + 1) a0 a1 a2 a3 a4 a5 a6 a7 a8 a9 a10) := by
 intro a0 a1 a2 a3 a4 a5 a6 a7 a8 a9 a10 k
 have ih0 := jigsawref14_can.mono_l k
 unfold jigsawref14_can.f
 have m0 := @jigsawref02_Has.mono
 exact leo_
set_option maxHeartbeats 8000000 in
set_option maxRecDepth 100000 in
theorem jigsawref14_can.calls (k : Nat) (a0_0 : Int) (A0_1 : Option Addr) (c0_1 : Nat) (l0_1 : List Int) (A0_2 : Option Addr) (c0_2 : Nat) (l0_2 : List Int) (A0_3 : Option Addr) (c0_3 : Nat) (l0_3 : List Int) (A0_4 : Option Addr) (c0_4 : Nat) (l0_4 : List Int) (A0_5 : Option Addr) (c0_5 : Nat) (l0_5 : List Int) (a0_6 : Int) (A0_7 : Option Addr) (c0_7 : Nat) (l0_7 : List (List Int)) (A1 : Option Addr) (c1 : Nat) (l1 : List (List Int)) (a2 : Int) (a3 : Int) (r : Bool) (w : World) (hr0_1 : Kd.C (Kd.int .i64) w A0_1 l0_1.length l0_1) (hc0_1 : l0_1.length ≤ c0_1) (hr0_2 : Kd.C (Kd.int .i64) w A0_2 l0_2.length l0_2) (hc0_2 : l0_2.length ≤ c0_2) (hr0_3 : Kd.C (Kd.int .i64) w A0_3 l0_3.length l0_3) (hc0_3 : l0_3.length ≤ c0_3) (hr0_4 : Kd.C (Kd.int .i64) w A0_4 l0_4.length l0_4) (hc0_4 : l0_4.length ≤ c0_4) (hr0_5 : Kd.C (Kd.int .i64) w A0_5 l0_5.length l0_5) (hc0_5 : l0_5.length ≤ c0_5) (hr0_7 : Kd.C (Kd.slice 3 (Kd.int .i64)) w A0_7 l0_7.length l0_7) (hc0_7 : l0_7.length ≤ c0_7) (hr1 : Kd.C (Kd.slice 3 (Kd.int .i64)) w A1 l1.length l1) (hc1 : l1.length ≤ c1) (h : jigsawref14_can.f k a0_0 l0_1 l0_2 l0_3 l0_4 l0_5 a0_6 l0_7 l1 a2 a3 = some r) :
  Calls Tryz.prog 31 #[.agg #[.int .i64 a0_0, .slice A0_1 l0_1.length c0_1, .slice A0_2 l0_2.length c0_2, .slice A0_3 l0_3.length c0_3, .slice A0_4 l0_4.length c0_4, .slice A0_5 l0_5.length c0_5, .int .i64 a0_6, .slice A0_7 l0_7.length c0_7], .slice A1 l1.length c1, .int .i64 a2, .int .i64 a3] w fun e w' => e = .returned (.bool r) ∧ Below w.heap.size w w' := by
 have hu32 := Tryz.underlying32
 have HC0_1 := Aside0.mk hc0_1
 clear hr0_1 hc0_1
 have HC0_2 := Aside0.mk hc0_2
 clear hr0_2 hc0_2
 have HC0_3 := Aside0.mk hc0_3
 clear hr0_3 hc0_3
 have HC0_4 := Aside0.mk hc0_4
 clear hr0_4 hc0_4
 have HC0_5 := Aside0.mk hc0_5
 clear hr0_5 hc0_5
 have HC0_7 := Aside0.mk hc0_7
 clear hr0_7 hc0_7
 have HR1 := Aside0.mk hr1
 have HC1 := Aside0.mk hc1
 clear hr1 hc1
 have HB := Aside0.mk (Below.refl w.heap.size w)
 unfold jigsawref14_can.f at h
 have H := h
 clear h
 have H' := Aside0.mk H
 clear H
 go_enter Tryz.func31, Tryz.ntmps31
 go_wp2_with (first | ((with_reducible refine gate_dst (N := 4) rfl ?_); refine bxe_ (N := 4) (cs := #[.int .i64 a0_0, .slice A0_1 l0_1.length c0_1, .slice A0_2 l0_2.length c0_2, .slice A0_3 l0_3.length c0_3, .slice A0_4 l0_4.length c0_4, .slice A0_5 l0_5.length c0_5, .int .i64 a0_6, .slice A0_7 l0_7.length c0_7]) (t := 32) ?_; intro gb404 hg w5 hbox hb; have BK404 := Aside0.mk (hbox); have GW404 := Aside0.mk (by rw [hg]; exact (below_size bel_) : w.heap.size ≤ gb404); have GE404 := GW404; replace HB := Aside0.mk (below_step bel_ hb); clear hb hbox hg))
 go_loopg [9] k (fun kq v9 w' => ∃ (x9_1 : Int), v9 = .int .i64 x9_1 ∧ Aside0 (jigsawref14_can.l0 kq l1 a2 a3 x9_1 a0_0 l0_1 l0_2 l0_3 l0_4 l0_5 a0_6 l0_7 = some r) ∧ Aside0 (kq ≤ k) ∧ Aside0 (w'.heap[gb404]? = some (.cells #[.int .i64 a0_0, (.slice A0_1 l0_1.length c0_1), (.slice A0_2 l0_2.length c0_2), (.slice A0_3 l0_3.length c0_3), (.slice A0_4 l0_4.length c0_4), (.slice A0_5 l0_5.length c0_5), .int .i64 a0_6, (.slice A0_7 l0_7.length c0_7)] 32 (0, 0))) ∧ Aside0 (Below w.heap.size w w'))
 case atStart => exact ⟨(0), eq_, H', ⟨Nat.le_refl _⟩, ⟨by refine bk_ ?_; exact BK404.out⟩, ⟨bel_⟩⟩
 case round =>
  clear H'
  try clear c1
  try clear p2
  try clear c3
  obtain ⟨x9_1, rfl, HA, HK1, BK404, HB⟩ := hrel
  cases gk with
  | zero => exact absurd HA.out (by simp [jigsawref14_can.l0])
  | succ k1 =>
   have H := HA.out
   clear HA
   simp only [jigsawref14_can.l0] at H
   by_cases c6 : x9_1 < (l1.length : Int)
   ·
    rw [if_pos c6] at H
    have c6b0 : decide (x9_1 < (l1.length : Int)) = true := decide_eq_true c6
    clear c6
    by_cases c7 : x9_1 < (l0_1.length : Int)
    ·
     rw [if_pos c7] at H
     have c7b0 : decide (x9_1 < (l0_1.length : Int)) = true := decide_eq_true c7
     clear c7
     by_cases c8 : 0 ≤ x9_1
     ·
      rw [if_pos c8] at H
      have c8b0 : decide (0 ≤ x9_1) = true := decide_eq_true c8
      clear c8
      replace H := Option.bind_eq_some_iff.mp H
      obtain ⟨t406, A90, H⟩ := H
      try dsimp only at H
      have A9 := Aside0.mk A90
      clear A90
      by_cases c10 : x9_1 = a2
      ·
       rw [if_pos c10] at H
       have c10b0 : (x9_1 == a2) = true := beq_iff_eq.mpr c10
       have c10b1 : (x9_1 != a2) = false := bne_eq_false_iff_eq.mpr c10
       clear c10
       by_cases c11 : a3 = 1
       ·
        rw [if_pos c11] at H
        have c11b0 : (a3 == 1) = true := beq_iff_eq.mpr c11
        have c11b1 : (a3 != 1) = false := bne_eq_false_iff_eq.mpr c11
        clear c11
        obtain rfl := Option.some.inj H
        obtain ⟨_, _, _, _, _, _, _, _, _, _, _, _, _, _, _, _⟩ := cel8_ BK404.out
        have p405 : 0 ≤ (x9_1 : Int) := dq_
        have q405 : x9_1 < (l1.length : Int) := dq_
        obtain ⟨ad405, A405_0, c405_0, e405, hx405_0, hl405_0, hi405_0⟩ := at_L7 HR1.out x9_1 p405 q405
        cases e405
        replace hx405_0 := (HB.out.cell (World.block_lt_of_cell? w _ hx405_0)).trans hx405_0
        have HR405_0 := Aside0.mk hi405_0
        have HC405_0 := Aside0.mk hl405_0
        clear hi405_0 hl405_0
        replace p405 := eq_true p405
        replace q405 := eq_true q405
        go_wp2_with (first | ((with_reducible refine gate_callee (f := 66) rfl ?_); refine goesL_ (some 28) rfl rfl Tryz.func66 (by kernel_rfl) rfl #[.slice A405_0 (rd_L7 l1 x9_1).length c405_0, .int .i64 1] rfl ar_ ?_; (with_reducible refine (jigsawref02_Has.calls k1 _ _ (rd_L7 l1 x9_1) 1 t406 _ ?_ ?_ A9.out).mono ?_); exact ca_ ((Kd.C_below HR405_0.out HB.out)); exact HC405_0.out; rintro e w' ⟨rfl, ⟨nd, rfl⟩⟩; refine ⟨_, rfl, ?_⟩))
        go_ret
        exact ⟨by first | rfl | (simp [errW_none, errW_some] <;> rfl) | (simp [*, errW_none, errW_some] <;> rfl), bel_⟩
       ·
        rw [if_neg c11] at H
        have c11b0 : (a3 == 1) = false := beq_eq_false_iff_ne.mpr c11
        have c11b1 : (a3 != 1) = true := bne_iff_ne.mpr c11
        have H' := Aside0.mk H
        clear H
        obtain ⟨_, _, _, _, _, _, _, _, _, _, _, _, _, _, _, _⟩ := cel8_ BK404.out
        have p405 : 0 ≤ (x9_1 : Int) := dq_
        have q405 : x9_1 < (l1.length : Int) := dq_
        obtain ⟨ad405, A405_0, c405_0, e405, hx405_0, hl405_0, hi405_0⟩ := at_L7 HR1.out x9_1 p405 q405
        cases e405
        replace hx405_0 := (HB.out.cell (World.block_lt_of_cell? w _ hx405_0)).trans hx405_0
        have HR405_0 := Aside0.mk hi405_0
        have HC405_0 := Aside0.mk hl405_0
        clear hi405_0 hl405_0
        replace p405 := eq_true p405
        replace q405 := eq_true q405
        go_wp2_with (first | ((with_reducible refine gate_callee (f := 66) rfl ?_); refine goesL_ (some 28) rfl rfl Tryz.func66 (by kernel_rfl) rfl #[.slice A405_0 (rd_L7 l1 x9_1).length c405_0, .int .i64 1] rfl ar_ ?_; (with_reducible refine (jigsawref02_Has.calls k1 _ _ (rd_L7 l1 x9_1) 1 t406 _ ?_ ?_ A9.out).mono ?_); exact ca_ ((Kd.C_below HR405_0.out HB.out)); exact HC405_0.out; rintro e w' ⟨rfl, ⟨nd, rfl⟩⟩; refine ⟨_, rfl, ?_⟩))
        go_roundg k1
        case measure => have := HK1.out; omega
        case rel => exact ⟨(wrap64 (x9_1 + 1)), eq_, H', ⟨by have := HK1.out; omega⟩, ⟨by refine bk_ ?_; exact BK404.out⟩, ⟨bel_⟩⟩
      ·
       rw [if_neg c10] at H
       have c10b0 : (x9_1 == a2) = false := beq_eq_false_iff_ne.mpr c10
       have c10b1 : (x9_1 != a2) = true := bne_iff_ne.mpr c10
       by_cases c14 : t406 = true
       ·
        subst c14
        rw [if_pos rfl] at H
        obtain rfl := Option.some.inj H
        obtain ⟨_, _, _, _, _, _, _, _, _, _, _, _, _, _, _, _⟩ := cel8_ BK404.out
        have p405 : 0 ≤ (x9_1 : Int) := dq_
        have q405 : x9_1 < (l1.length : Int) := dq_
        obtain ⟨ad405, A405_0, c405_0, e405, hx405_0, hl405_0, hi405_0⟩ := at_L7 HR1.out x9_1 p405 q405
        cases e405
        replace hx405_0 := (HB.out.cell (World.block_lt_of_cell? w _ hx405_0)).trans hx405_0
        have HR405_0 := Aside0.mk hi405_0
        have HC405_0 := Aside0.mk hl405_0
        clear hi405_0 hl405_0
        replace p405 := eq_true p405
        replace q405 := eq_true q405
        go_wp2_with (first | ((with_reducible refine gate_callee (f := 66) rfl ?_); refine goesL_ (some 28) rfl rfl Tryz.func66 (by kernel_rfl) rfl #[.slice A405_0 (rd_L7 l1 x9_1).length c405_0, .int .i64 1] rfl ar_ ?_; (with_reducible refine (jigsawref02_Has.calls k1 _ _ (rd_L7 l1 x9_1) 1 true _ ?_ ?_ A9.out).mono ?_); exact ca_ ((Kd.C_below HR405_0.out HB.out)); exact HC405_0.out; rintro e w' ⟨rfl, ⟨nd, rfl⟩⟩; refine ⟨_, rfl, ?_⟩))
        go_ret
        exact ⟨by first | rfl | (simp [errW_none, errW_some] <;> rfl) | (simp [*, errW_none, errW_some] <;> rfl), bel_⟩
       ·
        replace c14 := Bool.eq_false_iff.mpr c14
        subst c14
        have H1 : (jigsawref14_can.l0 k1 l1 a2 a3 (wrap64 (x9_1 + 1)) a0_0 l0_1 l0_2 l0_3 l0_4 l0_5 a0_6 l0_7) = some r := by rw [if_neg (show ¬ (false = true) by decide)] at H; exact H
        clear H
        have H := H1
        clear H1
        have H' := Aside0.mk H
        clear H
        obtain ⟨_, _, _, _, _, _, _, _, _, _, _, _, _, _, _, _⟩ := cel8_ BK404.out
        have p405 : 0 ≤ (x9_1 : Int) := dq_
        have q405 : x9_1 < (l1.length : Int) := dq_
        obtain ⟨ad405, A405_0, c405_0, e405, hx405_0, hl405_0, hi405_0⟩ := at_L7 HR1.out x9_1 p405 q405
        cases e405
        replace hx405_0 := (HB.out.cell (World.block_lt_of_cell? w _ hx405_0)).trans hx405_0
        have HR405_0 := Aside0.mk hi405_0
        have HC405_0 := Aside0.mk hl405_0
        clear hi405_0 hl405_0
        replace p405 := eq_true p405
        replace q405 := eq_true q405
        go_wp2_with (first | ((with_reducible refine gate_callee (f := 66) rfl ?_); refine goesL_ (some 28) rfl rfl Tryz.func66 (by kernel_rfl) rfl #[.slice A405_0 (rd_L7 l1 x9_1).length c405_0, .int .i64 1] rfl ar_ ?_; (with_reducible refine (jigsawref02_Has.calls k1 _ _ (rd_L7 l1 x9_1) 1 false _ ?_ ?_ A9.out).mono ?_); exact ca_ ((Kd.C_below HR405_0.out HB.out)); exact HC405_0.out; rintro e w' ⟨rfl, ⟨nd, rfl⟩⟩; refine ⟨_, rfl, ?_⟩))
        go_roundg k1
        case measure => have := HK1.out; omega
        case rel => exact ⟨(wrap64 (x9_1 + 1)), eq_, H', ⟨by have := HK1.out; omega⟩, ⟨by refine bk_ ?_; exact BK404.out⟩, ⟨bel_⟩⟩
     ·
      rw [if_neg c8] at H
      exact absurd H (by simp)
    ·
     rw [if_neg c7] at H
     have c7b0 : decide (x9_1 < (l0_1.length : Int)) = false := decide_eq_false c7
     clear c7
     by_cases c17 : 0 ≤ x9_1
     ·
      rw [if_pos c17] at H
      have c17b0 : decide (0 ≤ x9_1) = true := decide_eq_true c17
      clear c17
      replace H := Option.bind_eq_some_iff.mp H
      obtain ⟨t408, A180, H⟩ := H
      try dsimp only at H
      have A18 := Aside0.mk A180
      clear A180
      by_cases c19 : x9_1 = a2
      ·
       rw [if_pos c19] at H
       have c19b0 : (x9_1 == a2) = true := beq_iff_eq.mpr c19
       have c19b1 : (x9_1 != a2) = false := bne_eq_false_iff_eq.mpr c19
       clear c19
       by_cases c20 : a3 = 0
       ·
        rw [if_pos c20] at H
        have c20b0 : (a3 == 0) = true := beq_iff_eq.mpr c20
        have c20b1 : (a3 != 0) = false := bne_eq_false_iff_eq.mpr c20
        clear c20
        obtain rfl := Option.some.inj H
        obtain ⟨_, _, _, _, _, _, _, _, _, _, _, _, _, _, _, _⟩ := cel8_ BK404.out
        have p407 : 0 ≤ (x9_1 : Int) := dq_
        have q407 : x9_1 < (l1.length : Int) := dq_
        obtain ⟨ad407, A407_0, c407_0, e407, hx407_0, hl407_0, hi407_0⟩ := at_L7 HR1.out x9_1 p407 q407
        cases e407
        replace hx407_0 := (HB.out.cell (World.block_lt_of_cell? w _ hx407_0)).trans hx407_0
        have HR407_0 := Aside0.mk hi407_0
        have HC407_0 := Aside0.mk hl407_0
        clear hi407_0 hl407_0
        replace p407 := eq_true p407
        replace q407 := eq_true q407
        go_wp2_with (first | ((with_reducible refine gate_callee (f := 66) rfl ?_); refine goesL_ (some 28) rfl rfl Tryz.func66 (by kernel_rfl) rfl #[.slice A407_0 (rd_L7 l1 x9_1).length c407_0, .int .i64 0] rfl ar_ ?_; (with_reducible refine (jigsawref02_Has.calls k1 _ _ (rd_L7 l1 x9_1) 0 t408 _ ?_ ?_ A18.out).mono ?_); exact ca_ ((Kd.C_below HR407_0.out HB.out)); exact HC407_0.out; rintro e w' ⟨rfl, ⟨nd, rfl⟩⟩; refine ⟨_, rfl, ?_⟩))
        go_ret
        exact ⟨by first | rfl | (simp [errW_none, errW_some] <;> rfl) | (simp [*, errW_none, errW_some] <;> rfl), bel_⟩
       ·
        rw [if_neg c20] at H
        have c20b0 : (a3 == 0) = false := beq_eq_false_iff_ne.mpr c20
        have c20b1 : (a3 != 0) = true := bne_iff_ne.mpr c20
        have H' := Aside0.mk H
        clear H
        obtain ⟨_, _, _, _, _, _, _, _, _, _, _, _, _, _, _, _⟩ := cel8_ BK404.out
        have p407 : 0 ≤ (x9_1 : Int) := dq_
        have q407 : x9_1 < (l1.length : Int) := dq_
        obtain ⟨ad407, A407_0, c407_0, e407, hx407_0, hl407_0, hi407_0⟩ := at_L7 HR1.out x9_1 p407 q407
        cases e407
        replace hx407_0 := (HB.out.cell (World.block_lt_of_cell? w _ hx407_0)).trans hx407_0
        have HR407_0 := Aside0.mk hi407_0
        have HC407_0 := Aside0.mk hl407_0
        clear hi407_0 hl407_0
        replace p407 := eq_true p407
        replace q407 := eq_true q407
        go_wp2_with (first | ((with_reducible refine gate_callee (f := 66) rfl ?_); refine goesL_ (some 28) rfl rfl Tryz.func66 (by kernel_rfl) rfl #[.slice A407_0 (rd_L7 l1 x9_1).length c407_0, .int .i64 0] rfl ar_ ?_; (with_reducible refine (jigsawref02_Has.calls k1 _ _ (rd_L7 l1 x9_1) 0 t408 _ ?_ ?_ A18.out).mono ?_); exact ca_ ((Kd.C_below HR407_0.out HB.out)); exact HC407_0.out; rintro e w' ⟨rfl, ⟨nd, rfl⟩⟩; refine ⟨_, rfl, ?_⟩))
        go_roundg k1
        case measure => have := HK1.out; omega
        case rel => exact ⟨(wrap64 (x9_1 + 1)), eq_, H', ⟨by have := HK1.out; omega⟩, ⟨by refine bk_ ?_; exact BK404.out⟩, ⟨bel_⟩⟩
      ·
       rw [if_neg c19] at H
       have c19b0 : (x9_1 == a2) = false := beq_eq_false_iff_ne.mpr c19
       have c19b1 : (x9_1 != a2) = true := bne_iff_ne.mpr c19
       by_cases c23 : t408 = true
       ·
        subst c23
        rw [if_pos rfl] at H
        obtain rfl := Option.some.inj H
        obtain ⟨_, _, _, _, _, _, _, _, _, _, _, _, _, _, _, _⟩ := cel8_ BK404.out
        have p407 : 0 ≤ (x9_1 : Int) := dq_
        have q407 : x9_1 < (l1.length : Int) := dq_
        obtain ⟨ad407, A407_0, c407_0, e407, hx407_0, hl407_0, hi407_0⟩ := at_L7 HR1.out x9_1 p407 q407
        cases e407
        replace hx407_0 := (HB.out.cell (World.block_lt_of_cell? w _ hx407_0)).trans hx407_0
        have HR407_0 := Aside0.mk hi407_0
        have HC407_0 := Aside0.mk hl407_0
        clear hi407_0 hl407_0
        replace p407 := eq_true p407
        replace q407 := eq_true q407
        go_wp2_with (first | ((with_reducible refine gate_callee (f := 66) rfl ?_); refine goesL_ (some 28) rfl rfl Tryz.func66 (by kernel_rfl) rfl #[.slice A407_0 (rd_L7 l1 x9_1).length c407_0, .int .i64 0] rfl ar_ ?_; (with_reducible refine (jigsawref02_Has.calls k1 _ _ (rd_L7 l1 x9_1) 0 true _ ?_ ?_ A18.out).mono ?_); exact ca_ ((Kd.C_below HR407_0.out HB.out)); exact HC407_0.out; rintro e w' ⟨rfl, ⟨nd, rfl⟩⟩; refine ⟨_, rfl, ?_⟩))
        go_ret
        exact ⟨by first | rfl | (simp [errW_none, errW_some] <;> rfl) | (simp [*, errW_none, errW_some] <;> rfl), bel_⟩
       ·
        replace c23 := Bool.eq_false_iff.mpr c23
        subst c23
        have H1 : (jigsawref14_can.l0 k1 l1 a2 a3 (wrap64 (x9_1 + 1)) a0_0 l0_1 l0_2 l0_3 l0_4 l0_5 a0_6 l0_7) = some r := by rw [if_neg (show ¬ (false = true) by decide)] at H; exact H
        clear H
        have H := H1
        clear H1
        have H' := Aside0.mk H
        clear H
        obtain ⟨_, _, _, _, _, _, _, _, _, _, _, _, _, _, _, _⟩ := cel8_ BK404.out
        have p407 : 0 ≤ (x9_1 : Int) := dq_
        have q407 : x9_1 < (l1.length : Int) := dq_
        obtain ⟨ad407, A407_0, c407_0, e407, hx407_0, hl407_0, hi407_0⟩ := at_L7 HR1.out x9_1 p407 q407
        cases e407
        replace hx407_0 := (HB.out.cell (World.block_lt_of_cell? w _ hx407_0)).trans hx407_0
        have HR407_0 := Aside0.mk hi407_0
        have HC407_0 := Aside0.mk hl407_0
        clear hi407_0 hl407_0
        replace p407 := eq_true p407
        replace q407 := eq_true q407
        go_wp2_with (first | ((with_reducible refine gate_callee (f := 66) rfl ?_); refine goesL_ (some 28) rfl rfl Tryz.func66 (by kernel_rfl) rfl #[.slice A407_0 (rd_L7 l1 x9_1).length c407_0, .int .i64 0] rfl ar_ ?_; (with_reducible refine (jigsawref02_Has.calls k1 _ _ (rd_L7 l1 x9_1) 0 false _ ?_ ?_ A18.out).mono ?_); exact ca_ ((Kd.C_below HR407_0.out HB.out)); exact HC407_0.out; rintro e w' ⟨rfl, ⟨nd, rfl⟩⟩; refine ⟨_, rfl, ?_⟩))
        go_roundg k1
        case measure => have := HK1.out; omega
        case rel => exact ⟨(wrap64 (x9_1 + 1)), eq_, H', ⟨by have := HK1.out; omega⟩, ⟨by refine bk_ ?_; exact BK404.out⟩, ⟨bel_⟩⟩
     ·
      rw [if_neg c17] at H
      exact absurd H (by simp)
   ·
    rw [if_neg c6] at H
    have c6b0 : decide (x9_1 < (l1.length : Int)) = false := decide_eq_false c6
    clear c6
    obtain rfl := Option.some.inj H
    go_wp2
    go_ret
    exact ⟨by first | rfl | (simp [errW_none, errW_some] <;> rfl) | (simp [*, errW_none, errW_some] <;> rfl), bel_⟩


/-! ### jigsawref14_Filter: function 11 -/
mutual
def jigsawref14_Filter.l0 : Nat → List (List Int) → List (List Int) → Int → Int → List Int → List Int → List Int → List Int → List Int → Int → List (List Int) → Option ((List (List Int)) × Bool)
 | 0, _, _, _, _, _, _, _, _, _, _, _ => none
 | k + 1, x1, x7, x8, x410000, x410001, x410002, x410003, x410004, x410005, x410006, x410007 => if x8 < (x1.length : Int) then (jigsawref14_Filter.l1 k x1 x7 x8 ([] : List Int) 0 x410000 x410001 x410002 x410003 x410004 x410005 x410006 x410007) else (some (x7, true))
def jigsawref14_Filter.l1 : Nat → List (List Int) → List (List Int) → Int → List Int → Int → Int → List Int → List Int → List Int → List Int → List Int → Int → List (List Int) → Option ((List (List Int)) × Bool)
 | 0, _, _, _, _, _, _, _, _, _, _, _, _, _ => none
 | k + 1, x1, x7, x8, x9, x10, x410000, x410001, x410002, x410003, x410004, x410005, x410006, x410007 => if 0 ≤ x8 then (if x8 < (x1.length : Int) then (if x10 < ((rd_L7 x1 x8).length : Int) then (if 0 ≤ x10 then ((jigsawref14_can.f k x410000 x410001 x410002 x410003 x410004 x410005 x410006 x410007 x1 x8 (rd (rd_L7 x1 x8) x10)).bind fun t414 => (if t414 = true then (if x9.length < 17592186044416 then (jigsawref14_Filter.l1 k x1 x7 x8 (x9 ++ [rd (rd_L7 x1 x8) x10]) (wrap64 (x10 + 1)) x410000 x410001 x410002 x410003 x410004 x410005 x410006 x410007) else (none)) else (jigsawref14_Filter.l1 k x1 x7 x8 x9 (wrap64 (x10 + 1)) x410000 x410001 x410002 x410003 x410004 x410005 x410006 x410007))) else (none)) else (if (x9.length : Int) = 0 then (some (([] : List (List Int)), false)) else (if x7.length < 5864062014805 then (jigsawref14_Filter.l0 k x1 (x7 ++ [x9]) (wrap64 (x8 + 1)) x410000 x410001 x410002 x410003 x410004 x410005 x410006 x410007) else (none)))) else (none)) else (none)
end
def jigsawref14_Filter.f (k : Nat) (a0_0 : Int) (l0_1 : List Int) (l0_2 : List Int) (l0_3 : List Int) (l0_4 : List Int) (l0_5 : List Int) (a0_6 : Int) (l0_7 : List (List Int)) (l1 : List (List Int)) : Option ((List (List Int)) × Bool) := (jigsawref10_Fits.f k a0_0 l0_1 l0_2 l0_3 l0_4 l0_5 a0_6 l0_7 l1 12 12).bind fun t410 => (if t410 = true then (jigsawref14_Filter.l0 k l1 ([] : List (List Int)) 0 a0_0 l0_1 l0_2 l0_3 l0_4 l0_5 a0_6 l0_7) else (none))
theorem jigsawref14_Filter.mono_l : ∀ k, (∀ y0 y1 y2 y3 y4 y5 y6 y7 y8 y9 y10, LeO (jigsawref14_Filter.l0 k y0 y1 y2 y3 y4 y5 y6 y7 y8 y9 y10) (jigsawref14_Filter.l0 (k + 1) y0 y1 y2 y3 y4 y5 y6 y7 y8 y9 y10)) ∧ (∀ y0 y1 y2 y3 y4 y5 y6 y7 y8 y9 y10 y11 y12, LeO (jigsawref14_Filter.l1 k y0 y1 y2 y3 y4 y5 y6 y7 y8 y9 y10 y11 y12) (jigsawref14_Filter.l1 (k + 1) y0 y1 y2 y3 y4 y5 y6 y7 y8 y9 y10 y11 y12))
 | 0 => ⟨fun _ _ _ _ _ _ _ _ _ _ _ r h => by simp [jigsawref14_Filter.l0] at h, fun _ _ _ _ _ _ _ _ _ _ _ _ _ r h => by simp [jigsawref14_Filter.l1] at h⟩
 | k + 1 => by
  obtain ⟨ih0, ih1⟩ := jigsawref14_Filter.mono_l k
  refine ⟨?_, ?_⟩
  ·
   intro y0 y1 y2 y3 y4 y5 y6 y7 y8 y9 y10
   unfold jigsawref14_Filter.l0
   have m0 := @jigsawref10_Fits.mono
   have m1 := @jigsawref14_can.mono
   exact leo_
  ·
   intro y0 y1 y2 y3 y4 y5 y6 y7 y8 y9 y10 y11 y12
   unfold jigsawref14_Filter.l1
   have m0 := @jigsawref10_Fits.mono
   have m1 := @jigsawref14_can.mono
   exact leo_
theorem jigsawref14_Filter.mono : ∀ a0 a1 a2 a3 a4 a5 a6 a7 a8 k, LeO (jigsawref14_Filter.f k a0 a1 a2 a3 a4 a5 a6 a7 a8) (jigsawref14_Filter.f (k + 1) a0 a1 a2 a3 a4 a5 a6 a7 a8) := by
 intro a0 a1 a2 a3 a4 a5 a6 a7 a8 k
 obtain ⟨ih0, ih1⟩ := jigsawref14_Filter.mono_l k
 unfold jigsawref14_Filter.f
 have m0 := @jigsawref10_Fits.mono
 have m1 := @jigsawref14_can.mono
 exact leo_
def jigsawref14_Filter.T12 : Bool × List (List Nat × List Nat) := (true, [([], []), ([], []), ([], []), ([], []), ([], []), ([3, 4], [3, 4]), ([5], [5]), ([], []), ([6, 7], [6, 7]), ([8], [8]), ([0, 1, 2, 9], [0, 1, 2, 9]), ([10, 10, 0, 1, 2, 3, 4, 5, 6, 7, 8, 9, 10], [10])])
def jigsawref14_Filter.B12 : List Nat := [0, 0, 0, 0, 0, 24, 56, 0, 248, 504, 1023, 2047]
theorem jigsawref14_Filter.tab12 : rtab .any (opsOf Tryz.f11 12) = jigsawref14_Filter.T12 := by kernel_rfl
theorem jigsawref14_Filter.bits12 : waitsOk jigsawref14_Filter.T12.2 jigsawref14_Filter.B12 = true := by kernel_rfl
set_option maxHeartbeats 8000000 in
set_option maxRecDepth 100000 in
theorem jigsawref14_Filter.calls (k : Nat) (a0_0 : Int) (A0_1 : Option Addr) (c0_1 : Nat) (l0_1 : List Int) (A0_2 : Option Addr) (c0_2 : Nat) (l0_2 : List Int) (A0_3 : Option Addr) (c0_3 : Nat) (l0_3 : List Int) (A0_4 : Option Addr) (c0_4 : Nat) (l0_4 : List Int) (A0_5 : Option Addr) (c0_5 : Nat) (l0_5 : List Int) (a0_6 : Int) (A0_7 : Option Addr) (c0_7 : Nat) (l0_7 : List (List Int)) (A1 : Option Addr) (c1 : Nat) (l1 : List (List Int)) (r1 : List (List Int)) (r2 : Bool) (w : World) (hr0_1 : Kd.C (Kd.int .i64) w A0_1 l0_1.length l0_1) (hc0_1 : l0_1.length ≤ c0_1) (hr0_2 : Kd.C (Kd.int .i64) w A0_2 l0_2.length l0_2) (hc0_2 : l0_2.length ≤ c0_2) (hr0_3 : Kd.C (Kd.int .i64) w A0_3 l0_3.length l0_3) (hc0_3 : l0_3.length ≤ c0_3) (hr0_4 : Kd.C (Kd.int .i64) w A0_4 l0_4.length l0_4) (hc0_4 : l0_4.length ≤ c0_4) (hr0_5 : Kd.C (Kd.int .i64) w A0_5 l0_5.length l0_5) (hc0_5 : l0_5.length ≤ c0_5) (hr0_7 : Kd.C (Kd.slice 3 (Kd.int .i64)) w A0_7 l0_7.length l0_7) (hc0_7 : l0_7.length ≤ c0_7) (hr1 : Kd.C (Kd.slice 3 (Kd.int .i64)) w A1 l1.length l1) (hc1 : l1.length ≤ c1) (h : jigsawref14_Filter.f k a0_0 l0_1 l0_2 l0_3 l0_4 l0_5 a0_6 l0_7 l1 = some (r1, r2)) :
  Calls Tryz.prog 11 #[.agg #[.int .i64 a0_0, .slice A0_1 l0_1.length c0_1, .slice A0_2 l0_2.length c0_2, .slice A0_3 l0_3.length c0_3, .slice A0_4 l0_4.length c0_4, .slice A0_5 l0_5.length c0_5, .int .i64 a0_6, .slice A0_7 l0_7.length c0_7], .slice A1 l1.length c1] w fun e w' => ∃ v0_ : Value, e = .returned (.tuple #[v0_, .bool r2]) ∧ Kd.S (Kd.slice 3 (Kd.int .i64)) 30 w' w.heap.size (fun _ => True) v0_ r1 ∧ Below w.heap.size w w' := by
 have hu32 := Tryz.underlying32
 have HR0_1 := Aside0.mk hr0_1
 have HC0_1 := Aside0.mk hc0_1
 clear hr0_1 hc0_1
 have HR0_2 := Aside0.mk hr0_2
 have HC0_2 := Aside0.mk hc0_2
 clear hr0_2 hc0_2
 have HR0_3 := Aside0.mk hr0_3
 have HC0_3 := Aside0.mk hc0_3
 clear hr0_3 hc0_3
 have HR0_4 := Aside0.mk hr0_4
 have HC0_4 := Aside0.mk hc0_4
 clear hr0_4 hc0_4
 have HR0_5 := Aside0.mk hr0_5
 have HC0_5 := Aside0.mk hc0_5
 clear hr0_5 hc0_5
 have HR0_7 := Aside0.mk hr0_7
 have HC0_7 := Aside0.mk hc0_7
 clear hr0_7 hc0_7
 have HR1 := Aside0.mk hr1
 have HC1 := Aside0.mk hc1
 clear hr1 hc1
 have HB := Aside0.mk (Below.refl w.heap.size w)
 unfold jigsawref14_Filter.f at h
 have H := h
 clear h
 replace H := Option.bind_eq_some_iff.mp H
 obtain ⟨t410, A30, H⟩ := H
 try dsimp only at H
 have A3 := Aside0.mk A30
 clear A30
 by_cases c4 : t410 = true
 ·
  subst c4
  rw [if_pos rfl] at H
  have H' := Aside0.mk H
  clear H
  go_enter Tryz.func11, Tryz.ntmps11
  go_wp2_with (first | ((with_reducible refine gate_dst (N := 2) rfl ?_); refine bxe_ (N := 2) (cs := #[.int .i64 a0_0, .slice A0_1 l0_1.length c0_1, .slice A0_2 l0_2.length c0_2, .slice A0_3 l0_3.length c0_3, .slice A0_4 l0_4.length c0_4, .slice A0_5 l0_5.length c0_5, .int .i64 a0_6, .slice A0_7 l0_7.length c0_7]) (t := 32) ?_; intro gb409 hg w5 hbox hb; have BK409 := Aside0.mk (hbox); have GW409 := Aside0.mk (by rw [hg]; exact (below_size bel_) : w.heap.size ≤ gb409); have GE409 := GW409; replace HB := Aside0.mk (below_step bel_ hb); clear hb hbox hg; obtain ⟨_, _, _, _, _, _, _, _, _, _, _, _, _, _, _, _⟩ := cel8_ BK409.out) | ((with_reducible refine gate_callee (f := 18) rfl ?_); refine goesL_ (some 14) rfl rfl Tryz.func18 (by kernel_rfl) rfl #[.agg #[.int .i64 a0_0, .slice A0_1 l0_1.length c0_1, .slice A0_2 l0_2.length c0_2, .slice A0_3 l0_3.length c0_3, .slice A0_4 l0_4.length c0_4, .slice A0_5 l0_5.length c0_5, .int .i64 a0_6, .slice A0_7 l0_7.length c0_7], .slice A1 l1.length c1, .int .i64 12, .int .i64 12] rfl ar_ ?_; (with_reducible refine (jigsawref10_Fits.calls k a0_0 _ _ l0_1 _ _ l0_2 _ _ l0_3 _ _ l0_4 _ _ l0_5 a0_6 _ _ l0_7 _ _ l1 12 12 true _ ?_ ?_ ?_ ?_ ?_ ?_ ?_ ?_ ?_ ?_ ?_ ?_ ?_ ?_ A3.out).mono ?_); exact ca_ ((Kd.C_below HR0_1.out HB.out)); exact HC0_1.out; exact ca_ ((Kd.C_below HR0_2.out HB.out)); exact HC0_2.out; exact ca_ ((Kd.C_below HR0_3.out HB.out)); exact HC0_3.out; exact ca_ ((Kd.C_below HR0_4.out HB.out)); exact HC0_4.out; exact ca_ ((Kd.C_below HR0_5.out HB.out)); exact HC0_5.out; exact ca_ ((Kd.C_below HR0_7.out HB.out)); exact HC0_7.out; exact ca_ ((Kd.C_below HR1.out HB.out)); exact HC1.out; rintro e w7 ⟨rfl, hb⟩; refine ⟨_, rfl, ?_⟩; replace BK409 := Aside0.mk (blk_below (bk_ BK409.out) hb); replace HB := Aside0.mk (below_step bel_ hb); clear hb))
  go_loopg [7, 8] k (fun kq v7 v8 w' => ∃ (x7_1 : List (List Int)) (x8_1 : Int), v8 = .int .i64 x8_1 ∧ Aside0 (jigsawref14_Filter.l0 kq l1 x7_1 x8_1 a0_0 l0_1 l0_2 l0_3 l0_4 l0_5 a0_6 l0_7 = some (r1, r2)) ∧ Aside0 (kq ≤ k) ∧ Aside0 (Kd.S (Kd.slice 3 (Kd.int .i64)) 30 w' w.heap.size (fun _ => True) v7 x7_1) ∧ Aside0 (w'.heap[gb409]? = some (.cells #[.int .i64 a0_0, (.slice A0_1 l0_1.length c0_1), (.slice A0_2 l0_2.length c0_2), (.slice A0_3 l0_3.length c0_3), (.slice A0_4 l0_4.length c0_4), (.slice A0_5 l0_5.length c0_5), .int .i64 a0_6, (.slice A0_7 l0_7.length c0_7)] 32 (0, 0))) ∧ Aside0 (Below w.heap.size w w'))
  case atStart => exact ⟨(([] : List (List Int))), (0), eq_, H', ⟨Nat.le_refl _⟩, ⟨nil_⟩, ⟨by refine bk_ ?_; exact BK409.out⟩, ⟨bel_⟩⟩
  case round =>
   clear H'
   try clear c1
   try clear p2
   try clear c4
   obtain ⟨x7_1, x8_1, rfl, HA, HK1, HO_7, BK409, HB⟩ := hrel
   cases gk with
   | zero => exact absurd HA.out (by simp [jigsawref14_Filter.l0])
   | succ k1 =>
    have H := HA.out
    clear HA
    simp only [jigsawref14_Filter.l0] at H
    by_cases c8 : x8_1 < (l1.length : Int)
    ·
     rw [if_pos c8] at H
     have c8b0 : decide (x8_1 < (l1.length : Int)) = true := decide_eq_true c8
     clear c8
     have H' := Aside0.mk H
     clear H
     go_wp2
     go_loopg [9, 10] k1 (fun kq v9 v10 w' => ∃ (x9_2 : List Int) (x10_2 : Int), v10 = .int .i64 x10_2 ∧ Aside0 (jigsawref14_Filter.l1 kq l1 x7_1 x8_1 x9_2 x10_2 a0_0 l0_1 l0_2 l0_3 l0_4 l0_5 a0_6 l0_7 = some (r1, r2)) ∧ Aside0 (kq ≤ k1) ∧ Aside0 (Kd.S (Kd.slice 3 (Kd.int .i64)) 30 w' w.heap.size (fun k_ => some k_ ≠ (v9 : Value).ownBlock) u7 x7_1) ∧ Aside0 (Kd.R (Kd.int .i64) 3 w' w.heap.size (fun _ => True) v9 x9_2) ∧ Aside0 (w'.heap[gb409]? = some (.cells #[.int .i64 a0_0, (.slice A0_1 l0_1.length c0_1), (.slice A0_2 l0_2.length c0_2), (.slice A0_3 l0_3.length c0_3), (.slice A0_4 l0_4.length c0_4), (.slice A0_5 l0_5.length c0_5), .int .i64 a0_6, (.slice A0_7 l0_7.length c0_7)] 32 (0, 0))) ∧ Aside0 (Below w.heap.size w w'))
     case atStart => exact ⟨(([] : List Int)), (0), eq_, H', ⟨Nat.le_refl _⟩, ⟨by refine vS_ ?_; exact Kd.S_mono HO_7.out (fun _ hk => (by simp [Value.ownBlock]))⟩, ⟨nil_⟩, ⟨by refine bk_ ?_; exact BK409.out⟩, ⟨bel_⟩⟩
     case round =>
      clear H'
      try clear c1
      try clear p2
      try clear c4
      try clear c8
      try clear c8b0
      try clear p2
      obtain ⟨x9_2, x10_2, rfl, HA, HK2, HO_7, HO_9, BK409, HB⟩ := hrel
      cases gk with
      | zero => exact absurd HA.out (by simp [jigsawref14_Filter.l1])
      | succ k2 =>
       have H := HA.out
       clear HA
       simp only [jigsawref14_Filter.l1] at H
       by_cases c9 : 0 ≤ x8_1
       ·
        rw [if_pos c9] at H
        have c9b0 : decide (0 ≤ x8_1) = true := decide_eq_true c9
        clear c9
        by_cases c10 : x8_1 < (l1.length : Int)
        ·
         rw [if_pos c10] at H
         have c10b0 : decide (x8_1 < (l1.length : Int)) = true := decide_eq_true c10
         clear c10
         by_cases c11 : x10_2 < ((rd_L7 l1 x8_1).length : Int)
         ·
          rw [if_pos c11] at H
          have c11b0 : decide (x10_2 < ((rd_L7 l1 x8_1).length : Int)) = true := decide_eq_true c11
          clear c11
          by_cases c12 : 0 ≤ x10_2
          ·
           rw [if_pos c12] at H
           have c12b0 : decide (0 ≤ x10_2) = true := decide_eq_true c12
           clear c12
           replace H := Option.bind_eq_some_iff.mp H
           obtain ⟨t414, A130, H⟩ := H
           try dsimp only at H
           have A13 := Aside0.mk A130
           clear A130
           by_cases c14 : t414 = true
           ·
            subst c14
            rw [if_pos rfl] at H
            by_cases c15 : x9_2.length < 17592186044416
            ·
             rw [if_pos c15] at H
             have LMc15 := Aside0.mk c15
             clear c15
             obtain ⟨y417, hy417⟩ : ∃ y_ : List Int, y_ = (x9_2 ++ [rd (rd_L7 l1 x8_1) x10_2]) := ⟨_, rfl⟩
             replace H : (jigsawref14_Filter.l1 k2 l1 x7_1 x8_1 y417 (wrap64 (x10_2 + 1)) a0_0 l0_1 l0_2 l0_3 l0_4 l0_5 a0_6 l0_7) = some (r1, r2) := by first | (rw [hy417]; with_reducible exact H) | (have H2_ := (Option.bind_some _ _).symm.trans H; rw [hy417]; with_reducible exact H2_) | (have H2_ := (Option.bind_some _ _).symm.trans H; with_reducible exact H2_) | with_reducible exact H | (rw [hy417]; exact H) | exact H
             have Ny417 := Aside0.mk hy417
             clear hy417
             have H' := Aside0.mk H
             clear H
             have p411 : 0 ≤ (x8_1 : Int) := dq_
             have q411 : x8_1 < (l1.length : Int) := dq_
             obtain ⟨ad411, A411_0, c411_0, e411, hx411_0, hl411_0, hi411_0⟩ := at_L7 HR1.out x8_1 p411 q411
             cases e411
             replace hx411_0 := (HB.out.cell (World.block_lt_of_cell? w _ hx411_0)).trans hx411_0
             have HC411_0 := Aside0.mk hl411_0
             clear hi411_0 hl411_0
             replace p411 := eq_true p411
             replace q411 := eq_true q411
             try go_wp2
             replace HO_7 := Aside0.mk (Kd.S_drew HO_7.out)
             replace HO_9 := Aside0.mk (Kd.R_drew HO_9.out)
             replace BK409 := Aside0.mk (blk_drew BK409.out)
             replace HB := Aside0.mk (below_drew1 HB.out)
             have p412 : 0 ≤ (x8_1 : Int) := dq_
             have q412 : x8_1 < (l1.length : Int) := dq_
             obtain ⟨ad412, A412_0, c412_0, e412, hx412_0, hl412_0, hi412_0⟩ := at_L7 HR1.out x8_1 p412 q412
             have hw412_0 := hx412_0
             obtain rfl : ad411 = ad412 := (by injection e412)
             replace hx412_0 := (HB.out.cell (World.block_lt_of_cell? w _ hx412_0)).trans hx412_0
             have HR412_0 := Aside0.mk hi412_0
             have HC412_0 := Aside0.mk hl412_0
             clear hi412_0 hl412_0
             replace p412 := eq_true p412
             replace q412 := eq_true q412
             have p413 : 0 ≤ (x10_2 : Int) := dq_
             have q413 : x10_2 < ((rd_L7 l1 x8_1).length : Int) := dq_
             obtain ⟨ad413, e413, hx413_0⟩ := Kd.at_int HR412_0.out x10_2 p413 q413
             have hw413_0 := hx413_0
             cases e413
             replace hx413_0 := (HB.out.cell (World.block_lt_of_cell? w _ hx413_0)).trans hx413_0
             replace p413 := eq_true p413
             replace q413 := eq_true q413
             refine start_ (n := 12) (S := fun w' => w'.cell? ⟨gb409, 0, none⟩ = some (.int .i64 a0_0) ∧ w'.cell? ⟨gb409, 1, none⟩ = some (.slice A0_1 l0_1.length c0_1) ∧ w'.cell? ⟨gb409, 2, none⟩ = some (.slice A0_2 l0_2.length c0_2) ∧ w'.cell? ⟨gb409, 3, none⟩ = some (.slice A0_3 l0_3.length c0_3) ∧ w'.cell? ⟨gb409, 4, none⟩ = some (.slice A0_4 l0_4.length c0_4) ∧ w'.cell? ⟨gb409, 5, none⟩ = some (.slice A0_5 l0_5.length c0_5) ∧ w'.cell? ⟨gb409, 6, none⟩ = some (.int .i64 a0_6) ∧ w'.cell? ⟨gb409, 7, none⟩ = some (.slice A0_7 l0_7.length c0_7) ∧ w'.cell? (ad411.add (x8_1).toNat) = some (.slice (some ad413) (rd_L7 l1 x8_1).length c412_0) ∧ w'.cell? (ad413.add (x10_2).toNat) = some (.int .i64 (rd (rd_L7 l1 x8_1) x10_2))) (ds := []) #[false, false, false, false, false, false, false, false, false, false, false, false] (by kernel_rfl) rfl rfl (cb8_ BK409.out ⟨((HB.out.cell (World.block_lt_of_cell? w _ hw412_0)).trans hw412_0), ((HB.out.cell (World.block_lt_of_cell? w _ hw413_0)).trans hw413_0)⟩) (fun hHeld => ?_); refine with_tabW jigsawref14_Filter.tab12 jigsawref14_Filter.bits12 (fun HT_ HW_ => ?_)
             generalize wr.drew = w16 at HO_7 HO_9 BK409 HB HR412_0 hx412_0 hx413_0 hHeld ⊢
             refine pu_ (i := 1) (N := some 33) (any_of HT_.out (by kernel_rfl)) ?_
             refine pu_ (i := 2) (N := some 34) (any_of HT_.out (by kernel_rfl)) ?_
             refine pu_ (i := 3) (N := some 35) (any_of HT_.out (by kernel_rfl)) ?_
             refine pu_ (i := 4) (N := some 36) (any_of HT_.out (by kernel_rfl)) ?_
             refine pu_ (i := 5) (N := some 37) (any_of HT_.out (by kernel_rfl)) ?_
             refine pu_ (i := 7) (N := some 39) (any_of HT_.out (by kernel_rfl)) ?_
             refine tak_ (i := 0) (N := some 32) (take_ofW HT_.out HW_.out (by kernel_rfl)) hHeld ?_
             refine tak_ (i := 6) (N := some 38) (take_ofW HT_.out HW_.out (by kernel_rfl)) hHeld ?_
             refine pu_ (i := 8) (N := some 40) (any_of HT_.out (by kernel_rfl)) ?_
             refine tak_ (i := 9) (N := some 41) (take_ofW HT_.out HW_.out (by kernel_rfl)) hHeld ?_
             refine one_ (i := 10) (N := some 42) #[true, true, true, true, true, true, true, true, true, true, true, false] rfl rfl (one_of HT_.out (by kernel_rfl)) (by decide) (fun K hK => ?_)
             refine goes_ Tryz.func31 (by kernel_rfl) rfl #[.agg #[.int .i64 a0_0, .slice A0_1 l0_1.length c0_1, .slice A0_2 l0_2.length c0_2, .slice A0_3 l0_3.length c0_3, .slice A0_4 l0_4.length c0_4, .slice A0_5 l0_5.length c0_5, .int .i64 a0_6, .slice A0_7 l0_7.length c0_7], .slice (some ad411) l1.length c1, .int .i64 x8_1, .int .i64 (rd (rd_L7 l1 x8_1) x10_2)] (by rfl) rfl rfl ar_ ?_
             with_reducible refine (jigsawref14_can.calls k2 a0_0 _ _ l0_1 _ _ l0_2 _ _ l0_3 _ _ l0_4 _ _ l0_5 a0_6 _ _ l0_7 _ _ l1 x8_1 (rd (rd_L7 l1 x8_1) x10_2) true _ ?_ ?_ ?_ ?_ ?_ ?_ ?_ ?_ ?_ ?_ ?_ ?_ ?_ ?_ A13.out).mono ?_
             exact ca_ ((Kd.C_below HR0_1.out HB.out))
             exact HC0_1.out
             exact ca_ ((Kd.C_below HR0_2.out HB.out))
             exact HC0_2.out
             exact ca_ ((Kd.C_below HR0_3.out HB.out))
             exact HC0_3.out
             exact ca_ ((Kd.C_below HR0_4.out HB.out))
             exact HC0_4.out
             exact ca_ ((Kd.C_below HR0_5.out HB.out))
             exact HC0_5.out
             exact ca_ ((Kd.C_below HR0_7.out HB.out))
             exact HC0_7.out
             exact ca_ ((Kd.C_below HR1.out HB.out))
             exact HC1.out
             rintro e w17 ⟨rfl, hb⟩
             refine ⟨_, rfl, ?_⟩
             replace HO_7 := Aside0.mk (Kd.S_below (vS_ HO_7.out) hb)
             replace HO_9 := Aside0.mk (Kd.R_below (vR_ HO_9.out) hb)
             replace BK409 := Aside0.mk (blk_below (bk_ BK409.out) hb)
             replace HB := Aside0.mk (below_step bel_ hb)
             clear hb
             refine hK.out _ _ (cb8_ BK409.out ⟨((HB.out.cell (World.block_lt_of_cell? w _ hw412_0)).trans hw412_0), ((HB.out.cell (World.block_lt_of_cell? w _ hw413_0)).trans hw413_0)⟩) (fun hHeld => ?_)
             clear hK K
             refine nor_ (N := some 42) ?_
             refine pu_ (i := 11) (N := some 11) (any_of HT_.out (by kernel_rfl)) ?_
             refine done_ (done_of HT_.out (by kernel_rfl)) ?_
             have p415 : 0 ≤ (x8_1 : Int) := dq_
             have q415 : x8_1 < (l1.length : Int) := dq_
             obtain ⟨ad415, A415_0, c415_0, e415, hx415_0, hl415_0, hi415_0⟩ := at_L7 HR1.out x8_1 p415 q415
             obtain rfl : ad411 = ad415 := (by injection e415)
             replace hx415_0 := (HB.out.cell (World.block_lt_of_cell? w _ hx415_0)).trans hx415_0
             have HR415_0 := Aside0.mk hi415_0
             have HC415_0 := Aside0.mk hl415_0
             clear hi415_0 hl415_0
             replace p415 := eq_true p415
             replace q415 := eq_true q415
             have p416 : 0 ≤ (x10_2 : Int) := dq_
             have q416 : x10_2 < ((rd_L7 l1 x8_1).length : Int) := dq_
             obtain ⟨ad416, e416, hx416_0⟩ := Kd.at_int HR415_0.out x10_2 p416 q416
             cases e416
             replace hx416_0 := (HB.out.cell (World.block_lt_of_cell? w _ hx416_0)).trans hx416_0
             replace p416 := eq_true p416
             replace q416 := eq_true q416
             try go_wp2_with (first | ((with_reducible refine gate_builtin (b := .append) (xs := #[.tmp 44, .tmp 52]) rfl ?_); at_builtin; refine Kd.R_append (Kd.int .i64) (w0 := w) w.heap.size rfl (.tmp 44) (.tmp 52) 30 3 (.int .i64 0) 8 rfl Tryz.underlying30 info3 rfl (by decide) (by omega) u9 x9_2 (rd (rd_L7 l1 x8_1) x10_2) [.int .i64 (rd (rd_L7 l1 x8_1) x10_2)] (fun _ => True) (fun _ => False) rfl rfl ?aP (fun _ hk => hk.elim) ?aF ?aO ?aB ?aS ?aL ?_; (case aP => exact rfl); (case aB => exact bel_); (case aF => exact (fun _ _ => trivial)); (case aO => exact (vR_ HO_9.out)); (case aS => exact (below_size bel_)); (case aL => have := LMc15.out; omega); intro v418 w18 ho hb hg hat; rw [← Ny417.out] at ho; replace HO_7 := Aside0.mk (Kd.S_after (ok := (fun _ => True)) (by refine vS_ ?_; exact Kd.S_mono HO_7.out (fun _ hk => ⟨trivial, hk⟩)) hg hat); replace BK409 := Aside0.mk (blk_grown (bk_ BK409.out) hg (Kd.R_ne HO_9.out BK409.out (by decide))); replace HB := Aside0.mk (hb); have HO419 := Aside0.mk (ho); clear HO_9; clear ho hb hg hat))
             go_roundg k2
             case measure => have := HK1.out; have := HK2.out; omega
             case rel => exact ⟨(y417), (wrap64 (x10_2 + 1)), eq_, H', ⟨by have := HK1.out; have := HK2.out; omega⟩, ⟨by refine vS_ ?_; exact Kd.S_mono HO_7.out (fun _ hk => hk.2)⟩, ⟨by refine vR_ ?_; exact HO419.out⟩, ⟨by refine bk_ ?_; exact BK409.out⟩, ⟨bel_⟩⟩
            ·
             rw [if_neg c15] at H
             exact absurd H (by simp)
           ·
            replace c14 := Bool.eq_false_iff.mpr c14
            subst c14
            have H1 : (jigsawref14_Filter.l1 k2 l1 x7_1 x8_1 x9_2 (wrap64 (x10_2 + 1)) a0_0 l0_1 l0_2 l0_3 l0_4 l0_5 a0_6 l0_7) = some (r1, r2) := by rw [if_neg (show ¬ (false = true) by decide)] at H; exact H
            clear H
            have H := H1
            clear H1
            have H' := Aside0.mk H
            clear H
            have p411 : 0 ≤ (x8_1 : Int) := dq_
            have q411 : x8_1 < (l1.length : Int) := dq_
            obtain ⟨ad411, A411_0, c411_0, e411, hx411_0, hl411_0, hi411_0⟩ := at_L7 HR1.out x8_1 p411 q411
            cases e411
            replace hx411_0 := (HB.out.cell (World.block_lt_of_cell? w _ hx411_0)).trans hx411_0
            have HC411_0 := Aside0.mk hl411_0
            clear hi411_0 hl411_0
            replace p411 := eq_true p411
            replace q411 := eq_true q411
            try go_wp2
            replace HO_7 := Aside0.mk (Kd.S_drew HO_7.out)
            replace HO_9 := Aside0.mk (Kd.R_drew HO_9.out)
            replace BK409 := Aside0.mk (blk_drew BK409.out)
            replace HB := Aside0.mk (below_drew1 HB.out)
            have p412 : 0 ≤ (x8_1 : Int) := dq_
            have q412 : x8_1 < (l1.length : Int) := dq_
            obtain ⟨ad412, A412_0, c412_0, e412, hx412_0, hl412_0, hi412_0⟩ := at_L7 HR1.out x8_1 p412 q412
            have hw412_0 := hx412_0
            obtain rfl : ad411 = ad412 := (by injection e412)
            replace hx412_0 := (HB.out.cell (World.block_lt_of_cell? w _ hx412_0)).trans hx412_0
            have HR412_0 := Aside0.mk hi412_0
            have HC412_0 := Aside0.mk hl412_0
            clear hi412_0 hl412_0
            replace p412 := eq_true p412
            replace q412 := eq_true q412
            have p413 : 0 ≤ (x10_2 : Int) := dq_
            have q413 : x10_2 < ((rd_L7 l1 x8_1).length : Int) := dq_
            obtain ⟨ad413, e413, hx413_0⟩ := Kd.at_int HR412_0.out x10_2 p413 q413
            have hw413_0 := hx413_0
            cases e413
            replace hx413_0 := (HB.out.cell (World.block_lt_of_cell? w _ hx413_0)).trans hx413_0
            replace p413 := eq_true p413
            replace q413 := eq_true q413
            refine start_ (n := 12) (S := fun w' => w'.cell? ⟨gb409, 0, none⟩ = some (.int .i64 a0_0) ∧ w'.cell? ⟨gb409, 1, none⟩ = some (.slice A0_1 l0_1.length c0_1) ∧ w'.cell? ⟨gb409, 2, none⟩ = some (.slice A0_2 l0_2.length c0_2) ∧ w'.cell? ⟨gb409, 3, none⟩ = some (.slice A0_3 l0_3.length c0_3) ∧ w'.cell? ⟨gb409, 4, none⟩ = some (.slice A0_4 l0_4.length c0_4) ∧ w'.cell? ⟨gb409, 5, none⟩ = some (.slice A0_5 l0_5.length c0_5) ∧ w'.cell? ⟨gb409, 6, none⟩ = some (.int .i64 a0_6) ∧ w'.cell? ⟨gb409, 7, none⟩ = some (.slice A0_7 l0_7.length c0_7) ∧ w'.cell? (ad411.add (x8_1).toNat) = some (.slice (some ad413) (rd_L7 l1 x8_1).length c412_0) ∧ w'.cell? (ad413.add (x10_2).toNat) = some (.int .i64 (rd (rd_L7 l1 x8_1) x10_2))) (ds := []) #[false, false, false, false, false, false, false, false, false, false, false, false] (by kernel_rfl) rfl rfl (cb8_ BK409.out ⟨((HB.out.cell (World.block_lt_of_cell? w _ hw412_0)).trans hw412_0), ((HB.out.cell (World.block_lt_of_cell? w _ hw413_0)).trans hw413_0)⟩) (fun hHeld => ?_); refine with_tabW jigsawref14_Filter.tab12 jigsawref14_Filter.bits12 (fun HT_ HW_ => ?_)
            generalize wr.drew = w19 at HO_7 HO_9 BK409 HB HR412_0 hx412_0 hx413_0 hHeld ⊢
            refine pu_ (i := 1) (N := some 33) (any_of HT_.out (by kernel_rfl)) ?_
            refine pu_ (i := 2) (N := some 34) (any_of HT_.out (by kernel_rfl)) ?_
            refine pu_ (i := 3) (N := some 35) (any_of HT_.out (by kernel_rfl)) ?_
            refine pu_ (i := 4) (N := some 36) (any_of HT_.out (by kernel_rfl)) ?_
            refine pu_ (i := 5) (N := some 37) (any_of HT_.out (by kernel_rfl)) ?_
            refine pu_ (i := 7) (N := some 39) (any_of HT_.out (by kernel_rfl)) ?_
            refine tak_ (i := 0) (N := some 32) (take_ofW HT_.out HW_.out (by kernel_rfl)) hHeld ?_
            refine tak_ (i := 6) (N := some 38) (take_ofW HT_.out HW_.out (by kernel_rfl)) hHeld ?_
            refine pu_ (i := 8) (N := some 40) (any_of HT_.out (by kernel_rfl)) ?_
            refine tak_ (i := 9) (N := some 41) (take_ofW HT_.out HW_.out (by kernel_rfl)) hHeld ?_
            refine one_ (i := 10) (N := some 42) #[true, true, true, true, true, true, true, true, true, true, true, false] rfl rfl (one_of HT_.out (by kernel_rfl)) (by decide) (fun K hK => ?_)
            refine goes_ Tryz.func31 (by kernel_rfl) rfl #[.agg #[.int .i64 a0_0, .slice A0_1 l0_1.length c0_1, .slice A0_2 l0_2.length c0_2, .slice A0_3 l0_3.length c0_3, .slice A0_4 l0_4.length c0_4, .slice A0_5 l0_5.length c0_5, .int .i64 a0_6, .slice A0_7 l0_7.length c0_7], .slice (some ad411) l1.length c1, .int .i64 x8_1, .int .i64 (rd (rd_L7 l1 x8_1) x10_2)] (by rfl) rfl rfl ar_ ?_
            with_reducible refine (jigsawref14_can.calls k2 a0_0 _ _ l0_1 _ _ l0_2 _ _ l0_3 _ _ l0_4 _ _ l0_5 a0_6 _ _ l0_7 _ _ l1 x8_1 (rd (rd_L7 l1 x8_1) x10_2) false _ ?_ ?_ ?_ ?_ ?_ ?_ ?_ ?_ ?_ ?_ ?_ ?_ ?_ ?_ A13.out).mono ?_
            exact ca_ ((Kd.C_below HR0_1.out HB.out))
            exact HC0_1.out
            exact ca_ ((Kd.C_below HR0_2.out HB.out))
            exact HC0_2.out
            exact ca_ ((Kd.C_below HR0_3.out HB.out))
            exact HC0_3.out
            exact ca_ ((Kd.C_below HR0_4.out HB.out))
            exact HC0_4.out
            exact ca_ ((Kd.C_below HR0_5.out HB.out))
            exact HC0_5.out
            exact ca_ ((Kd.C_below HR0_7.out HB.out))
            exact HC0_7.out
            exact ca_ ((Kd.C_below HR1.out HB.out))
            exact HC1.out
            rintro e w20 ⟨rfl, hb⟩
            refine ⟨_, rfl, ?_⟩
            replace HO_7 := Aside0.mk (Kd.S_below (vS_ HO_7.out) hb)
            replace HO_9 := Aside0.mk (Kd.R_below (vR_ HO_9.out) hb)
            replace BK409 := Aside0.mk (blk_below (bk_ BK409.out) hb)
            replace HB := Aside0.mk (below_step bel_ hb)
            clear hb
            refine hK.out _ _ (cb8_ BK409.out ⟨((HB.out.cell (World.block_lt_of_cell? w _ hw412_0)).trans hw412_0), ((HB.out.cell (World.block_lt_of_cell? w _ hw413_0)).trans hw413_0)⟩) (fun hHeld => ?_)
            clear hK K
            refine nor_ (N := some 42) ?_
            refine pu_ (i := 11) (N := some 11) (any_of HT_.out (by kernel_rfl)) ?_
            refine done_ (done_of HT_.out (by kernel_rfl)) ?_
            try go_wp2
            go_roundg k2
            case measure => have := HK1.out; have := HK2.out; omega
            case rel => exact ⟨(x9_2), (wrap64 (x10_2 + 1)), eq_, H', ⟨by have := HK1.out; have := HK2.out; omega⟩, ⟨by refine vS_ ?_; exact HO_7.out⟩, ⟨by refine vR_ ?_; exact HO_9.out⟩, ⟨by refine bk_ ?_; exact BK409.out⟩, ⟨bel_⟩⟩
          ·
           rw [if_neg c12] at H
           exact absurd H (by simp)
         ·
          rw [if_neg c11] at H
          have c11b0 : decide (x10_2 < ((rd_L7 l1 x8_1).length : Int)) = false := decide_eq_false c11
          clear c11
          by_cases c21 : (x9_2.length : Int) = 0
          ·
           rw [if_pos c21] at H
           have c21b0 : ((x9_2.length : Int) == 0) = true := beq_iff_eq.mpr c21
           have c21b1 : ((x9_2.length : Int) != 0) = false := bne_eq_false_iff_eq.mpr c21
           clear c21
           simp only [Option.some.injEq, Prod.mk.injEq] at H
           obtain ⟨rfl, rfl⟩ := H
           have p411 : 0 ≤ (x8_1 : Int) := dq_
           have q411 : x8_1 < (l1.length : Int) := dq_
           obtain ⟨ad411, A411_0, c411_0, e411, hx411_0, hl411_0, hi411_0⟩ := at_L7 HR1.out x8_1 p411 q411
           cases e411
           replace hx411_0 := (HB.out.cell (World.block_lt_of_cell? w _ hx411_0)).trans hx411_0
           have HC411_0 := Aside0.mk hl411_0
           clear hi411_0 hl411_0
           replace p411 := eq_true p411
           replace q411 := eq_true q411
           obtain ⟨Ao22, co22, eo22⟩ := Kd.R_slice HO_9.out
           subst eo22
           go_wp2
           go_ret2
           exact ⟨_, by first | rfl | (simp [errW_none, errW_some] <;> rfl) | (simp [*, errW_none, errW_some] <;> rfl), by first | exact Kd.S_nil _ _ _ _ _ | exact Kd.N_nil _ _ _ _ _ | exact Kd.V_nil _ _ _ _ _ | exact Kd.Q_nil _ _ _ _ _ | exact Kd.R_nil _ _ _ _ _, bel_⟩
          ·
           rw [if_neg c21] at H
           have c21b0 : ((x9_2.length : Int) == 0) = false := beq_eq_false_iff_ne.mpr c21
           have c21b1 : ((x9_2.length : Int) != 0) = true := bne_iff_ne.mpr c21
           have c21b2 : ¬ (x9_2 = []) := fun h_ => c21 (by rw [h_]; rfl)
           by_cases c23 : x7_1.length < 5864062014805
           ·
            rw [if_pos c23] at H
            have LMc23 := Aside0.mk c23
            clear c23
            obtain ⟨y420, hy420⟩ : ∃ y_ : List (List Int), y_ = (x7_1 ++ [x9_2]) := ⟨_, rfl⟩
            replace H : (jigsawref14_Filter.l0 k2 l1 y420 (wrap64 (x8_1 + 1)) a0_0 l0_1 l0_2 l0_3 l0_4 l0_5 a0_6 l0_7) = some (r1, r2) := by first | (rw [hy420]; with_reducible exact H) | (have H2_ := (Option.bind_some _ _).symm.trans H; rw [hy420]; with_reducible exact H2_) | (have H2_ := (Option.bind_some _ _).symm.trans H; with_reducible exact H2_) | with_reducible exact H | (rw [hy420]; exact H) | exact H
            have Ny420 := Aside0.mk hy420
            clear hy420
            have H' := Aside0.mk H
            clear H
            have p411 : 0 ≤ (x8_1 : Int) := dq_
            have q411 : x8_1 < (l1.length : Int) := dq_
            obtain ⟨ad411, A411_0, c411_0, e411, hx411_0, hl411_0, hi411_0⟩ := at_L7 HR1.out x8_1 p411 q411
            cases e411
            replace hx411_0 := (HB.out.cell (World.block_lt_of_cell? w _ hx411_0)).trans hx411_0
            have HC411_0 := Aside0.mk hl411_0
            clear hi411_0 hl411_0
            replace p411 := eq_true p411
            replace q411 := eq_true q411
            obtain ⟨Ao24, co24, eo24⟩ := Kd.R_slice HO_9.out
            subst eo24
            go_wp2_with (first | ((with_reducible refine gate_builtin (b := .append) (xs := #[.tmp 57, .tmp 59]) rfl ?_); at_builtin; refine Kd.S_append (Kd.slice 3 (Kd.int .i64)) (w0 := w) w.heap.size rfl (.tmp 57) (.tmp 59) 27 30 (.slice none 0 0) 24 rfl Tryz.underlying27 info30 rfl (by decide) (by omega) u7 x7_1 x9_2 [.slice Ao24 x9_2.length co24] (fun _ => True) (fun k_ => some k_ = (.slice Ao24 x9_2.length co24 : Value).ownBlock) rfl rfl ?aP (fun k_ hk_ => ((Kd.R_mono (ok' := fun k_ => ((fun _ => True)) k_ ∧ some k_ ≠ (u7 : Value).ownBlock) (Kd.R_apart' (HO_9.out) (Kd.S_typed HO_7.out) (by decide)) (fun k_ hk => ⟨trivial, hk.2⟩))).1 k_ hk_.symm) ?aF ?aO ?aB ?aS ?aL ?_; (case aP => exact Kd.M_row (Kd.R_mono (Kd.R_tight rfl (Kd.R_mono (ok' := fun k_ => ((fun _ => True)) k_ ∧ some k_ ≠ (u7 : Value).ownBlock) (Kd.R_apart' (HO_9.out) (Kd.S_typed HO_7.out) (by decide)) (fun k_ hk => ⟨trivial, hk.2⟩))) (fun _ h_ => h_))); (case aB => exact bel_); (case aF => exact (fun _ _ => trivial)); (case aO => exact (by refine vS_ ?_; exact Kd.S_mono HO_7.out (fun k_ hk => ⟨trivial, fun e_ => hk e_⟩))); (case aS => exact (below_size bel_)); (case aL => have := LMc23.out; omega); intro v421 w25 ho hb hg hat; rw [← Ny420.out] at ho; replace BK409 := Aside0.mk (blk_grown (bk_ BK409.out) hg (Kd.S_ne HO_7.out BK409.out (by decide))); replace HB := Aside0.mk (hb); have HO422 := Aside0.mk (ho); clear HO_7 HO_9; clear ho hb hg hat))
            go_roundg k2
            case measure => have := HK1.out; have := HK2.out; omega
            case rel => exact ⟨(y420), (wrap64 (x8_1 + 1)), eq_, H', ⟨by have := HK1.out; have := HK2.out; omega⟩, ⟨by refine vS_ ?_; exact HO422.out⟩, ⟨by refine bk_ ?_; exact BK409.out⟩, ⟨bel_⟩⟩
           ·
            rw [if_neg c23] at H
            exact absurd H (by simp)
        ·
         rw [if_neg c10] at H
         exact absurd H (by simp)
       ·
        rw [if_neg c9] at H
        exact absurd H (by simp)
    ·
     rw [if_neg c8] at H
     have c8b0 : decide (x8_1 < (l1.length : Int)) = false := decide_eq_false c8
     clear c8
     simp only [Option.some.injEq, Prod.mk.injEq] at H
     obtain ⟨rfl, rfl⟩ := H
     go_wp2
     go_ret2
     exact ⟨_, by first | rfl | (simp [errW_none, errW_some] <;> rfl) | (simp [*, errW_none, errW_some] <;> rfl), by refine vS_ ?_; exact HO_7.out, bel_⟩
 ·
  replace c4 := Bool.eq_false_iff.mpr c4
  subst c4
  have H1 : (none) = some (r1, r2) := by rw [if_neg (show ¬ (false = true) by decide)] at H; exact H
  clear H
  have H := H1
  clear H1
  exact absurd H (by simp)


/-! ### dom_Dom_List: function 22 -/
mutual
def dom_Dom_List.l0 : Nat → List Int → List Int → Int → Int → Int → List Int → Int → Int → Int → Option (List Int)
 | 0, _, _, _, _, _, _, _, _, _ => none
 | k + 1, x3, x7, x8, x9, x424000, x424001, x424002, x424003, x424004 => if x9 < x8 then (if 0 ≤ x9 then (if x9 < (x7.length : Int) then (dom_Dom_List.l1 k x3 x9 (rd x7 x9) x7 x8 x9 x424000 x424001 x424002 x424003 x424004) else (none)) else (none)) else (some x3)
def dom_Dom_List.l1 : Nat → List Int → Int → Int → List Int → Int → Int → Int → List Int → Int → Int → Int → Option (List Int)
 | 0, _, _, _, _, _, _, _, _, _, _, _ => none
 | k + 1, x3, x4, x5, x7, x8, x9, x424000, x424001, x424002, x424003, x424004 => if x5 = 0 then (dom_Dom_List.l0 k x3 x7 x8 (wrap64 (x9 + 1)) x424000 x424001 x424002 x424003 x424004) else ((bits_TrailingZeros64.f x5).bind fun t425 => (if x3.length < 17592186044416 then (dom_Dom_List.l1 k (x3 ++ [wrap64 ((wrap64 (x424000 + (wrap64 (64 * x4)))) + t425)]) x4 (Go.bits .and .u64 x5 (IntKind.u64.wrap (x5 - 1))) x7 x8 x9 x424000 x424001 x424002 x424003 x424004) else (none)))
end
def dom_Dom_List.f (k : Nat) (a0_0 : Int) (l0_1 : List Int) (a0_2 : Int) (a0_3 : Int) (a0_4 : Int) : Option (List Int) := dom_Dom_List.l0 k ([] : List Int) l0_1 (l0_1.length : Int) 0 a0_0 l0_1 a0_2 a0_3 a0_4
theorem dom_Dom_List.mono_l : ∀ k, (∀ y0 y1 y2 y3 y4 y5 y6 y7 y8, LeO (dom_Dom_List.l0 k y0 y1 y2 y3 y4 y5 y6 y7 y8) (dom_Dom_List.l0 (k + 1) y0 y1 y2 y3 y4 y5 y6 y7 y8)) ∧ (∀ y0 y1 y2 y3 y4 y5 y6 y7 y8 y9 y10, LeO (dom_Dom_List.l1 k y0 y1 y2 y3 y4 y5 y6 y7 y8 y9 y10) (dom_Dom_List.l1 (k + 1) y0 y1 y2 y3 y4 y5 y6 y7 y8 y9 y10))
 | 0 => ⟨fun _ _ _ _ _ _ _ _ _ r h => by simp [dom_Dom_List.l0] at h, fun _ _ _ _ _ _ _ _ _ _ _ r h => by simp [dom_Dom_List.l1] at h⟩
 | k + 1 => by
  obtain ⟨ih0, ih1⟩ := dom_Dom_List.mono_l k
  refine ⟨?_, ?_⟩
  ·
   intro y0 y1 y2 y3 y4 y5 y6 y7 y8
   unfold dom_Dom_List.l0
   exact leo_
  ·
   intro y0 y1 y2 y3 y4 y5 y6 y7 y8 y9 y10
   unfold dom_Dom_List.l1
   exact leo_
theorem dom_Dom_List.mono : ∀ a0 a1 a2 a3 a4 k, LeO (dom_Dom_List.f k a0 a1 a2 a3 a4) (dom_Dom_List.f (k + 1) a0 a1 a2 a3 a4) := by
 intro a0 a1 a2 a3 a4 k
 obtain ⟨ih0, ih1⟩ := dom_Dom_List.mono_l k
 unfold dom_Dom_List.f
 exact leo_
def dom_Dom_List.T7 : Bool × List (List Nat × List Nat) := (true, [([], []), ([], []), ([1], [1]), ([], []), ([3], [3]), ([2, 4], [2, 4]), ([], []), ([6], [6]), ([5, 7], [5, 7]), ([8], [8]), ([0, 9, 7], [0, 9]), ([10, 10, 0, 1, 2, 3, 4, 5, 6, 7, 8, 9, 10], [0, 10])])
def dom_Dom_List.B7 : List Nat := [0, 0, 2, 0, 8, 30, 0, 64, 254, 510, 1023, 2047]
theorem dom_Dom_List.tab7 : rtab .any (opsOf Tryz.f22 7) = dom_Dom_List.T7 := by kernel_rfl
theorem dom_Dom_List.bits7 : waitsOk dom_Dom_List.T7.2 dom_Dom_List.B7 = true := by kernel_rfl
set_option maxHeartbeats 8000000 in
set_option maxRecDepth 100000 in
theorem dom_Dom_List.calls (k : Nat) (a0_0 : Int) (A0_1 : Option Addr) (c0_1 : Nat) (l0_1 : List Int) (a0_2 : Int) (a0_3 : Int) (a0_4 : Int) (r : List Int) (w : World) (hr0_1 : Kd.C (Kd.int .u64) w A0_1 l0_1.length l0_1) (hc0_1 : l0_1.length ≤ c0_1) (hrtab : Kd.C (Kd.int .u8) w (some ⟨0, 0, none⟩) tabL.length tabL) (h : dom_Dom_List.f k a0_0 l0_1 a0_2 a0_3 a0_4 = some r) :
  Calls Tryz.prog 22 #[.agg #[.int .i64 a0_0, .slice A0_1 l0_1.length c0_1, .int .i64 a0_2, .int .i64 a0_3, .int .i64 a0_4]] w fun e w' => ∃ v0_ : Value, e = .returned (v0_) ∧ Kd.R (Kd.int .i64) 3 w' w.heap.size (fun _ => True) v0_ r ∧ Below w.heap.size w w' := by
 have hu58 := Tryz.underlying58
 have HR0_1 := Aside0.mk hr0_1
 have HC0_1 := Aside0.mk hc0_1
 clear hr0_1 hc0_1
 have HRtab := Aside0.mk hrtab
 clear hrtab
 have HB := Aside0.mk (Below.refl w.heap.size w)
 unfold dom_Dom_List.f at h
 have H := h
 clear h
 have H' := Aside0.mk H
 clear H
 go_enter Tryz.func22, Tryz.ntmps22
 go_wp2_with (first | ((with_reducible refine gate_dst (N := 1) rfl ?_); refine bxe_ (N := 1) (cs := #[.int .i64 a0_0, .slice A0_1 l0_1.length c0_1, .int .i64 a0_2, .int .i64 a0_3, .int .i64 a0_4]) (t := 58) ?_; intro gb423 hg w2 hbox hb; have BK423 := Aside0.mk (hbox); have GW423 := Aside0.mk (by rw [hg]; exact (below_size bel_) : w.heap.size ≤ gb423); have GE423 := GW423; replace HB := Aside0.mk (below_step bel_ hb); clear hb hbox hg; obtain ⟨_, _, _, _, _, _, _, _, _, _⟩ := cel5_ BK423.out))
 go_loopg [3, 9] k (fun kq v3 v9 w' => ∃ (x3_1 : List Int) (x9_1 : Int), v9 = .int .i64 x9_1 ∧ Aside0 (dom_Dom_List.l0 kq x3_1 l0_1 (l0_1.length : Int) x9_1 a0_0 l0_1 a0_2 a0_3 a0_4 = some r) ∧ Aside0 (kq ≤ k) ∧ Aside0 (Kd.R (Kd.int .i64) 3 w' w.heap.size (fun _ => True) v3 x3_1) ∧ Aside0 (w'.heap[gb423]? = some (.cells #[.int .i64 a0_0, (.slice A0_1 l0_1.length c0_1), .int .i64 a0_2, .int .i64 a0_3, .int .i64 a0_4] 58 (0, 0))) ∧ Aside0 (Below w.heap.size w w'))
 case atStart => exact ⟨(([] : List Int)), (0), eq_, H', ⟨Nat.le_refl _⟩, ⟨nil_⟩, ⟨by refine bk_ ?_; exact BK423.out⟩, ⟨bel_⟩⟩
 case round =>
  clear H'
  try clear c2
  try clear p2
  obtain ⟨x3_1, x9_1, rfl, HA, HK1, HO_3, BK423, HB⟩ := hrel
  cases gk with
  | zero => exact absurd HA.out (by simp [dom_Dom_List.l0])
  | succ k1 =>
   have H := HA.out
   clear HA
   simp only [dom_Dom_List.l0] at H
   by_cases c4 : x9_1 < (l0_1.length : Int)
   ·
    rw [if_pos c4] at H
    have c4b0 : decide (x9_1 < (l0_1.length : Int)) = true := decide_eq_true c4
    clear c4
    by_cases c5 : 0 ≤ x9_1
    ·
     rw [if_pos c5] at H
     have c5b0 : decide (0 ≤ x9_1) = true := decide_eq_true c5
     clear c5
     by_cases c6 : x9_1 < (l0_1.length : Int)
     ·
      rw [if_pos c6] at H
      have c6b0 : decide (x9_1 < (l0_1.length : Int)) = true := decide_eq_true c6
      clear c6
      have H' := Aside0.mk H
      clear H
      have p424 : 0 ≤ (x9_1 : Int) := dq_
      have q424 : x9_1 < (l0_1.length : Int) := dq_
      obtain ⟨ad424, e424, hx424_0⟩ := Kd.at_int HR0_1.out x9_1 p424 q424
      cases e424
      replace hx424_0 := (HB.out.cell (World.block_lt_of_cell? w _ hx424_0)).trans hx424_0
      replace p424 := eq_true p424
      replace q424 := eq_true q424
      go_wp2
      go_loopg [3, 5] k1 (fun kq v3 v5 w' => ∃ (x3_2 : List Int) (x5_2 : Int), v5 = .int .u64 x5_2 ∧ Aside0 (dom_Dom_List.l1 kq x3_2 x9_1 x5_2 l0_1 (l0_1.length : Int) x9_1 a0_0 l0_1 a0_2 a0_3 a0_4 = some r) ∧ Aside0 (kq ≤ k1) ∧ Aside0 (Kd.R (Kd.int .i64) 3 w' w.heap.size (fun _ => True) v3 x3_2) ∧ Aside0 (w'.heap[gb423]? = some (.cells #[.int .i64 a0_0, (.slice (some ad424) l0_1.length c0_1), .int .i64 a0_2, .int .i64 a0_3, .int .i64 a0_4] 58 (0, 0))) ∧ Aside0 (Below w.heap.size w w'))
      case atStart => exact ⟨(x3_1), (rd l0_1 x9_1), eq_, H', ⟨Nat.le_refl _⟩, ⟨by refine vR_ ?_; exact HO_3.out⟩, ⟨by refine bk_ ?_; exact BK423.out⟩, ⟨bel_⟩⟩
      case round =>
       clear H'
       try clear c2
       try clear p2
       try clear c4
       try clear c4b0
       try clear p4
       try clear q4
       try clear hx4
       try clear c5
       try clear c5b0
       try clear c6
       try clear c6b0
       try clear hx424_0
       try clear p2
       try clear p424
       try clear q424
       obtain ⟨x3_2, x5_2, rfl, HA, HK2, HO_3, BK423, HB⟩ := hrel
       cases gk with
       | zero => exact absurd HA.out (by simp [dom_Dom_List.l1])
       | succ k2 =>
        have H := HA.out
        clear HA
        simp only [dom_Dom_List.l1] at H
        by_cases c7 : x5_2 = 0
        ·
         rw [if_pos c7] at H
         have c7b0 : (x5_2 == 0) = true := beq_iff_eq.mpr c7
         have c7b1 : (x5_2 != 0) = false := bne_eq_false_iff_eq.mpr c7
         clear c7
         have H' := Aside0.mk H
         clear H
         go_wp2
         go_roundg k2
         case measure => have := HK1.out; have := HK2.out; omega
         case rel => exact ⟨(x3_2), (wrap64 (x9_1 + 1)), eq_, H', ⟨by have := HK1.out; have := HK2.out; omega⟩, ⟨by refine vR_ ?_; exact HO_3.out⟩, ⟨by refine bk_ ?_; exact BK423.out⟩, ⟨bel_⟩⟩
        ·
         rw [if_neg c7] at H
         have c7b0 : (x5_2 == 0) = false := beq_eq_false_iff_ne.mpr c7
         have c7b1 : (x5_2 != 0) = true := bne_iff_ne.mpr c7
         replace H := Option.bind_eq_some_iff.mp H
         obtain ⟨t425, A80, H⟩ := H
         try dsimp only at H
         have A8 := Aside0.mk A80
         clear A80
         by_cases c9 : x3_2.length < 17592186044416
         ·
          rw [if_pos c9] at H
          have LMc9 := Aside0.mk c9
          clear c9
          obtain ⟨y426, hy426⟩ : ∃ y_ : List Int, y_ = (x3_2 ++ [wrap64 ((wrap64 (a0_0 + (wrap64 (64 * x9_1)))) + t425)]) := ⟨_, rfl⟩
          replace H : (dom_Dom_List.l1 k2 y426 x9_1 (Go.bits .and .u64 x5_2 (IntKind.u64.wrap (x5_2 - 1))) l0_1 (l0_1.length : Int) x9_1 a0_0 l0_1 a0_2 a0_3 a0_4) = some r := by first | (rw [hy426]; with_reducible exact H) | (have H2_ := (Option.bind_some _ _).symm.trans H; rw [hy426]; with_reducible exact H2_) | (have H2_ := (Option.bind_some _ _).symm.trans H; with_reducible exact H2_) | with_reducible exact H | (rw [hy426]; exact H) | exact H
          have Ny426 := Aside0.mk hy426
          clear hy426
          have H' := Aside0.mk H
          clear H
          try go_wp2
          replace HO_3 := Aside0.mk (Kd.R_drew HO_3.out)
          replace BK423 := Aside0.mk (blk_drew BK423.out)
          replace HB := Aside0.mk (below_drew1 HB.out)
          refine start_ (n := 12) (S := fun w' => w'.cell? ⟨gb423, 0, none⟩ = some (.int .i64 a0_0) ∧ w'.cell? ⟨gb423, 1, none⟩ = some (.slice (some ad424) l0_1.length c0_1) ∧ w'.cell? ⟨gb423, 2, none⟩ = some (.int .i64 a0_2) ∧ w'.cell? ⟨gb423, 3, none⟩ = some (.int .i64 a0_3) ∧ w'.cell? ⟨gb423, 4, none⟩ = some (.int .i64 a0_4)) (ds := []) #[false, false, false, false, false, false, false, false, false, false, false, false] (by kernel_rfl) rfl rfl (ca5_ BK423.out) (fun hHeld => ?_); refine with_tabW dom_Dom_List.tab7 dom_Dom_List.bits7 (fun HT_ HW_ => ?_)
          generalize wr.drew = w10 at HO_3 BK423 HB hHeld ⊢
          refine pu_ (i := 0) (N := some 20) (any_of HT_.out (by kernel_rfl)) ?_
          refine pu_ (i := 1) (N := some 21) (any_of HT_.out (by kernel_rfl)) ?_
          refine pu_ (i := 3) (N := some 23) (any_of HT_.out (by kernel_rfl)) ?_
          refine pu_ (i := 4) (N := some 24) (any_of HT_.out (by kernel_rfl)) ?_
          refine pu_ (i := 6) (N := some 26) (any_of HT_.out (by kernel_rfl)) ?_
          refine tak_ (i := 2) (N := some 22) (take_ofW HT_.out HW_.out (by kernel_rfl)) hHeld ?_
          refine pu_ (i := 5) (N := some 25) (any_of HT_.out (by kernel_rfl)) ?_
          refine one_ (i := 7) (N := some 27) #[true, true, true, true, true, true, true, true, false, false, false, false] rfl rfl (one_of HT_.out (by kernel_rfl)) (by decide) (fun K hK => ?_)
          refine goes_ Tryz.func48 (by kernel_rfl) rfl #[.int .u64 x5_2] (by rfl) rfl rfl ar_ ?_
          with_reducible refine (bits_TrailingZeros64.calls x5_2 t425 _ ?_ A8.out).mono ?_
          exact ca_ ((Kd.C_below HRtab.out HB.out))
          rintro e w' ⟨rfl, ⟨nd, rfl⟩⟩
          refine ⟨_, rfl, ?_⟩
          refine hK.out _ _ (ca5_ BK423.out) (fun hHeld => ?_)
          clear hK K
          refine nor_ (N := some 27) ?_
          refine pu_ (i := 8) (N := some 28) (any_of HT_.out (by kernel_rfl)) ?_
          refine one_ (i := 9) (N := some 29) #[true, true, true, true, true, true, true, true, true, true, false, false] rfl rfl (one_of HT_.out (by kernel_rfl)) (by decide) (fun K hK => ?_)
          refine value_ (w1 := ?_) (v := ?_) (by rfl) rfl ?_ ?_
          rotate_left 2
          ·
           go_simp
           constructor
           ·
            rfl
           ·
            rfl
          refine hK.out _ _ ⟨(blk_cell (blk_alloc BK423.out _) 0).trans rfl, (blk_cell (blk_alloc BK423.out _) 1).trans rfl, (blk_cell (blk_alloc BK423.out _) 2).trans rfl, (blk_cell (blk_alloc BK423.out _) 3).trans rfl, (blk_cell (blk_alloc BK423.out _) 4).trans rfl⟩ (fun hHeld => ?_)
          clear hK K
          refine nor_ (N := some 29) ?_
          refine one_ (i := 10) (N := some 30) #[true, true, true, true, true, true, true, true, true, true, true, false] rfl rfl (one_of HT_.out (by kernel_rfl)) (by decide) (fun K hK => ?_)
          refine Kd.R_append_step (Kd.int .i64) (w0 := w) w.heap.size (by rfl) (.tmp 20) (.tmp 29) 30 3 (.int .i64 0) 8 rfl Tryz.underlying30 info3 rfl (by decide) (by omega) u3 x3_2 (wrap64 ((wrap64 (a0_0 + (wrap64 (64 * x9_1)))) + t425)) [.int .i64 (wrap64 ((wrap64 (a0_0 + (wrap64 (64 * x9_1)))) + t425))] (fun _ => True) (fun _ => False) rfl rfl ?aP (fun _ hk => hk.elim) ?aF ?aO ?aB ?aS ?aL ?_
          (case aP => exact rfl)
          (case aB => exact bel_)
          (case aF => exact (fun _ _ => trivial))
          (case aO => exact (vR_ HO_3.out))
          (case aS => exact (below_size bel_))
          (case aL => have := LMc9.out; omega)
          intro v427 w11 ho hb hg hat
          rw [← Ny426.out] at ho
          replace BK423 := Aside0.mk (blk_grown (bk_ BK423.out) hg (Kd.R_ne HO_3.out BK423.out (by decide)))
          replace HB := Aside0.mk (hb)
          have HO428 := Aside0.mk (ho)
          clear HO_3
          clear ho hb hg hat
          refine hK.out _ _ (ca5_ BK423.out) (fun hHeld => ?_)
          clear hK K
          refine nor_ (N := some 30) ?_
          refine pu_ (i := 11) (N := some 3) (any_of HT_.out (by kernel_rfl)) ?_
          refine done_ (done_of HT_.out (by kernel_rfl)) ?_
          try go_wp2
          go_roundg k2
          case measure => have := HK1.out; have := HK2.out; omega
          case rel => exact ⟨(y426), (Go.bits .and .u64 x5_2 (IntKind.u64.wrap (x5_2 - 1))), eq_, H', ⟨by have := HK1.out; have := HK2.out; omega⟩, ⟨by refine vR_ ?_; exact HO428.out⟩, ⟨by refine bk_ ?_; exact BK423.out⟩, ⟨bel_⟩⟩
         ·
          rw [if_neg c9] at H
          exact absurd H (by simp)
     ·
      rw [if_neg c6] at H
      exact absurd H (by simp)
    ·
     rw [if_neg c5] at H
     exact absurd H (by simp)
   ·
    rw [if_neg c4] at H
    have c4b0 : decide (x9_1 < (l0_1.length : Int)) = false := decide_eq_false c4
    clear c4
    obtain rfl := Option.some.inj H
    go_wp2
    go_ret
    exact ⟨_, by first | rfl | (simp [errW_none, errW_some] <;> rfl) | (simp [*, errW_none, errW_some] <;> rfl), by refine vR_ ?_; exact HO_3.out, bel_⟩


/-! ### dom_Range: function 32 -/
mutual
def dom_Range.j0 : Nat → Int → Int → Bool → Option (Int × List Int × Int × Int × Int × Int)
 | 0, _, _, _ => none
 | k + 1, x0, x1, x8 => if x8 = true then (none) else (if x0 > x1 then (none) else (if (wrap64 (x1 - x0)) ≥ 65536 then (none) else ((dom_room.f x0 x1).bind fun bt432 => (dom_Range.l0 k x1 x0 bt432.1 bt432.2.1 bt432.2.2.1 bt432.2.2.2.1 bt432.2.2.2.2))))
def dom_Range.l0 : Nat → Int → Int → Int → List Int → Int → Int → Int → Option (Int × List Int × Int × Int × Int × Int)
 | 0, _, _, _, _, _, _, _ => none
 | k + 1, x1, x7, x440000, x440001, x440002, x440003, x440004 => if x7 ≤ x1 then (if 0 ≤ (wrap64 (Int.tdiv (wrap64 (x7 - x440000)) 64)) then (if (wrap64 (Int.tdiv (wrap64 (x7 - x440000)) 64)) < (x440001.length : Int) then (if 0 ≤ (Int.tmod (wrap64 (x7 - x440000)) 64) then (dom_Range.l0 k x1 (wrap64 (x7 + 1)) x440000 (x440001.set ((wrap64 (Int.tdiv (wrap64 (x7 - x440000)) 64)) : Int).toNat (Go.bits .or .u64 (rd x440001 (wrap64 (Int.tdiv (wrap64 (x7 - x440000)) 64))) (shl .u64 1 (Int.tmod (wrap64 (x7 - x440000)) 64)))) x440002 x440003 x440004) else (none)) else (none)) else (none)) else ((dom_made.f k x440000 x440001).bind fun bt442 => (some (bt442.1, bt442.2.1, bt442.2.2.1, bt442.2.2.2.1, bt442.2.2.2.2, 0)))
end
def dom_Range.f (k : Nat) (a0 : Int) (a1 : Int) : Option (Int × List Int × Int × Int × Int × Int) := (dom_in.f a0).bind fun t430 => (if t430 = true then ((dom_in.f a1).bind fun t431 => (dom_Range.j0 k a0 a1 (!t431))) else (dom_Range.j0 k a0 a1 true))
theorem dom_Range.mono_l : ∀ k, (∀ y0 y1 y2, LeO (dom_Range.j0 k y0 y1 y2) (dom_Range.j0 (k + 1) y0 y1 y2)) ∧ (∀ y0 y1 y2 y3 y4 y5 y6, LeO (dom_Range.l0 k y0 y1 y2 y3 y4 y5 y6) (dom_Range.l0 (k + 1) y0 y1 y2 y3 y4 y5 y6))
 | 0 => ⟨fun _ _ _ r h => by simp [dom_Range.j0] at h, fun _ _ _ _ _ _ _ r h => by simp [dom_Range.l0] at h⟩
 | k + 1 => by
  obtain ⟨ih0, ih1⟩ := dom_Range.mono_l k
  refine ⟨?_, ?_⟩
  ·
   intro y0 y1 y2
   unfold dom_Range.j0
   have m0 := @dom_made.mono
   exact leo_
  ·
   intro y0 y1 y2 y3 y4 y5 y6
   unfold dom_Range.l0
   have m0 := @dom_made.mono
   exact leo_
theorem dom_Range.mono : ∀ a0 a1 k, LeO (dom_Range.f k a0 a1) (dom_Range.f (k + 1) a0 a1) := by
 intro a0 a1 k
 obtain ⟨ih0, ih1⟩ := dom_Range.mono_l k
 unfold dom_Range.f
 have m0 := @dom_made.mono
 exact leo_
def dom_Range.T11 : Bool × List (List Nat × List Nat) := (true, [([], []), ([0], [0]), ([], []), ([], []), ([3], [3]), ([2, 4], [2, 4]), ([5], [5]), ([1, 6], [1, 6]), ([7], [7]), ([], []), ([], []), ([10], [10]), ([9, 11], [9, 11]), ([12], [12]), ([13], [13]), ([8, 14], [8, 14]), ([1, 6, 0, 1, 2, 3, 4, 5, 6, 7, 8, 9, 10, 11, 12, 13, 14, 15], [1, 6]), ([16, 15, 0, 1, 2, 3, 4, 5, 6, 7, 8, 9, 10, 11, 12, 13, 14, 15], [15, 16])])
def dom_Range.B11 : List Nat := [0, 1, 0, 0, 8, 28, 60, 127, 255, 0, 0, 1024, 3584, 7680, 15872, 32767, 65535, 131071]
theorem dom_Range.tab11 : rtab .any (opsOf Tryz.f32 11) = dom_Range.T11 := by kernel_rfl
theorem dom_Range.bits11 : waitsOk dom_Range.T11.2 dom_Range.B11 = true := by kernel_rfl
set_option maxHeartbeats 8000000 in
set_option maxRecDepth 100000 in
theorem dom_Range.calls (k : Nat) (a0 : Int) (a1 : Int) (r1 : Int) (r2 : List Int) (r3 : Int) (r4 : Int) (r5 : Int) (r6 : Int) (w : World) (hrtab : Kd.C (Kd.int .u8) w (some ⟨0, 0, none⟩) tabL.length tabL) (h : dom_Range.f k a0 a1 = some (r1, r2, r3, r4, r5, r6)) :
  Calls Tryz.prog 32 #[.int .i64 a0, .int .i64 a1] w fun e w' => ∃ v1_ : Value, e = .returned (.tuple #[.agg #[.int .i64 r1, v1_, .int .i64 r3, .int .i64 r4, .int .i64 r5], .int .i64 r6]) ∧ Kd.V (Kd.int .u64) 80 w' w.heap.size (fun k_ => (w.heap.size ≤ k_)) v1_ r2 ∧ Below w.heap.size w w' := by
 have hu58 := Tryz.underlying58
 have HRtab := Aside0.mk hrtab
 clear hrtab
 have HB := Aside0.mk (Below.refl w.heap.size w)
 unfold dom_Range.f at h
 have H := h
 clear h
 have HC3 := Aside0.mk H
 clear H
 go_enter Tryz.func32, Tryz.ntmps32
 go_upto_region 1 with (first | ((with_reducible refine gate_dst (N := 4) rfl ?_); refine bxe_ (N := 4) (cs := #[.int .i64 0, .slice none 0 0, .int .i64 0, .int .i64 0, .int .i64 0]) (t := 58) ?_; intro gb429 hg w4 hbox hb; have BK429 := Aside0.mk (hbox); have GW429 := Aside0.mk (by rw [hg]; exact (below_size bel_) : w.heap.size ≤ gb429); have GE429 := GW429; replace HB := Aside0.mk (below_step bel_ hb); clear hb hbox hg))
 (try simp only [Act.put, List.setIfInBounds_toArray, List.set_cons_zero, List.set_cons_succ])
 go_cut [8] (fun v8 wc => ∃ (kq : Nat) (x8_2 : Bool), v8 = .bool x8_2 ∧ Aside0 (dom_Range.j0 kq a0 a1 x8_2 = some (r1, r2, r3, r4, r5, r6)) ∧ Aside0 (kq ≤ k) ∧ Aside0 (wc.heap[gb429]? = some (.cells #[.int .i64 0, (.slice none 0 0), .int .i64 0, .int .i64 0, .int .i64 0] 58 (0, 0))) ∧ Aside0 (Below w.heap.size w wc))
 case first =>
  have H := HC3.out
  clear HC3
  replace H := Option.bind_eq_some_iff.mp H
  obtain ⟨t430, A50, H⟩ := H
  try dsimp only at H
  have A5 := Aside0.mk A50
  clear A50
  by_cases c6 : t430 = true
  ·
   subst c6
   rw [if_pos rfl] at H
   replace H := Option.bind_eq_some_iff.mp H
   obtain ⟨t431, A70, H⟩ := H
   try dsimp only at H
   have A7 := Aside0.mk A70
   clear A70
   have H' := Aside0.mk H
   clear H
   go_wp2_with (first | ((with_reducible refine gate_callee (f := 50) rfl ?_); refine goesL_ (some 10) rfl rfl Tryz.func50 (by kernel_rfl) rfl #[.int .i64 a0] rfl ar_ ?_; (with_reducible refine (dom_in.calls a0 true _ A5.out).mono ?_); rintro e w' ⟨rfl, ⟨nd, rfl⟩⟩; refine ⟨_, rfl, ?_⟩) | (go_at_call 50; (with_reducible refine (dom_in.calls a1 t431 _ A7.out).mono ?_); rintro e w' ⟨rfl, ⟨nd, rfl⟩⟩))
   go_meet
   case rel => exact ⟨_, (!t431), eq_, H', ⟨by first | omega | exact Nat.le_refl _⟩, ⟨by refine bk_ ?_; exact BK429.out⟩, ⟨bel_⟩⟩
  ·
   replace c6 := Bool.eq_false_iff.mpr c6
   subst c6
   have H1 : (dom_Range.j0 k a0 a1 true) = some (r1, r2, r3, r4, r5, r6) := by rw [if_neg (show ¬ (false = true) by decide)] at H; exact H
   clear H
   have H := H1
   clear H1
   have H' := Aside0.mk H
   clear H
   go_wp2_with (first | ((with_reducible refine gate_callee (f := 50) rfl ?_); refine goesL_ (some 10) rfl rfl Tryz.func50 (by kernel_rfl) rfl #[.int .i64 a0] rfl ar_ ?_; (with_reducible refine (dom_in.calls a0 false _ A5.out).mono ?_); rintro e w' ⟨rfl, ⟨nd, rfl⟩⟩; refine ⟨_, rfl, ?_⟩))
   go_meet
   case rel => exact ⟨_, (true), eq_, H', ⟨by first | omega | exact Nat.le_refl _⟩, ⟨by refine bk_ ?_; exact BK429.out⟩, ⟨bel_⟩⟩
 case rest =>
  clear HC3
  try clear p2
  try clear c3
  try clear c5
  try clear c6
  obtain ⟨kq, x8_2, rfl, HA, HJ2, BK429, HB⟩ := hcut
  cases kq with
  | zero => exact absurd HA.out (by simp [dom_Range.j0])
  | succ kj2 =>
   have H := HA.out
   clear HA
   simp only [dom_Range.j0] at H
   by_cases c8 : x8_2 = true
   ·
    subst c8
    rw [if_pos rfl] at H
    exact absurd H (by simp)
   ·
    replace c8 := Bool.eq_false_iff.mpr c8
    subst c8
    have H1 : (if a0 > a1 then (none) else (if (wrap64 (a1 - a0)) ≥ 65536 then (none) else ((dom_room.f a0 a1).bind fun bt432 => (dom_Range.l0 kj2 a1 a0 bt432.1 bt432.2.1 bt432.2.2.1 bt432.2.2.2.1 bt432.2.2.2.2)))) = some (r1, r2, r3, r4, r5, r6) := by rw [if_neg (show ¬ (false = true) by decide)] at H; exact H
    clear H
    have H := H1
    clear H1
    by_cases c9 : a0 > a1
    ·
     rw [if_pos c9] at H
     exact absurd H (by simp)
    ·
     rw [if_neg c9] at H
     have c9b0 : decide (a1 < a0) = false := decide_eq_false c9
     clear c9
     by_cases c10 : (wrap64 (a1 - a0)) ≥ 65536
     ·
      rw [if_pos c10] at H
      exact absurd H (by simp)
     ·
      rw [if_neg c10] at H
      have c10b0 : decide (65536 ≤ (wrap64 (a1 - a0))) = false := decide_eq_false c10
      clear c10
      replace H := Option.bind_eq_some_iff.mp H
      obtain ⟨⟨t432, t433, t436, t437, t438⟩, A110, H⟩ := H
      try dsimp only at H
      have A11 := Aside0.mk A110
      clear A110
      have H' := Aside0.mk H
      clear H
      go_wp2_with (first | ((with_reducible refine gate_callee (f := 64) rfl ?_); refine goesL_ (some 31) rfl rfl Tryz.func64 (by kernel_rfl) rfl #[.int .i64 a0, .int .i64 a1] rfl ar_ ?_; (with_reducible refine (dom_room.calls a0 a1 t432 t433 t436 t437 t438 _ A11.out).mono ?_); rintro e w12 ⟨v434, rfl, ho0, hb⟩; refine ⟨_, rfl, ?_⟩; have HO435 := Aside0.mk (Kd.R_lower (Kd.R_newM (M := fun k_ => (w.heap.size ≤ k_)) ho0 (below_size bel_) (fun k_ h_ => h_)) (below_size bel_)); replace BK429 := Aside0.mk (blk_below (bk_ BK429.out) hb); replace HB := Aside0.mk (below_step bel_ hb); clear hb ho0) | ((with_reducible refine gate_dst (N := 6) rfl ?_); refine bxe_ (N := 6) (cs := #[.int .i64 0, .slice none 0 0, .int .i64 0, .int .i64 0, .int .i64 0]) (t := 58) ?_; intro gb439 hg w13 hbox hb; replace HO435 := Aside0.mk (Kd.R_below (vR_ HO435.out) hb); have BK439 := Aside0.mk (hbox); have GW439 := Aside0.mk (by rw [hg]; exact (below_size bel_) : w.heap.size ≤ gb439); have GE439 := GW439; replace HB := Aside0.mk (below_step bel_ hb); have NB429_439 := Aside0.mk ((by rw [hg]; exact Nat.ne_of_lt (blk_lt (bk_ BK429.out)) : gb429 ≠ gb439)); have NB439_429 := Aside0.mk ((by rw [hg]; exact Nat.ne_of_gt (blk_lt (bk_ BK429.out)) : gb439 ≠ gb429)); replace BK429 := Aside0.mk (blk_below (bk_ BK429.out) hb); clear hb hbox hg; have hnb14 := NB439_429.out; have hnc14 := NB429_439.out; obtain ⟨_, _, _, _, _, _, _, _, _, _⟩ := cel5_ BK439.out; obtain ⟨Ao16, co16, eo16⟩ := Kd.R_slice HO435.out; subst eo16))
      go_loopg [7] kj2 (fun kq v7 w' => ∃ (x7_2 : Int) (x440001_2 : List Int) (u440001 : Value), v7 = .int .i64 x7_2 ∧ Aside0 (dom_Range.l0 kq a1 x7_2 t432 x440001_2 t436 t437 t438 = some (r1, r2, r3, r4, r5, r6)) ∧ Aside0 (kq ≤ kj2) ∧ Aside0 (Kd.R (Kd.int .u64) 80 w' w.heap.size (fun k_ => (w.heap.size ≤ k_)) u440001 x440001_2) ∧ Aside0 (w'.heap[gb429]? = some (.cells #[.int .i64 0, (.slice none 0 0), .int .i64 0, .int .i64 0, .int .i64 0] 58 (0, 0))) ∧ Aside0 (w'.heap[gb439]? = some (.cells #[.int .i64 t432, u440001, .int .i64 t436, .int .i64 t437, .int .i64 t438] 58 (0, 0))) ∧ Aside0 (Below w.heap.size w w'))
      case atStart => exact ⟨(a0), (t433), (.slice Ao16 t433.length co16), eq_, H', ⟨Nat.le_refl _⟩, ⟨by refine vR_ ?_; exact Kd.R_mono (fR_ (fR_ (fR_ (fR_ (fR_ (Kd.R_types HO435.out BK439.out (by decide))))))) (fun _ hk => hk.1.1)⟩, ⟨by refine bk_ ?_; refine blk_far ?_ NB429_439.out _; refine bk_ ?_; refine blk_far ?_ NB429_439.out _; refine bk_ ?_; refine blk_far ?_ NB429_439.out _; refine bk_ ?_; refine blk_far ?_ NB429_439.out _; refine bk_ ?_; refine blk_far ?_ NB429_439.out _; refine bk_ ?_; exact BK429.out⟩, ⟨by refine bk_ ?_; refine blk_put (cs := #[.int .i64 t432, .slice Ao16 t433.length co16, .int .i64 t436, .int .i64 t437, .int .i64 0]) ?_ 4 _ rfl; refine bk_ ?_; refine blk_put (cs := #[.int .i64 t432, .slice Ao16 t433.length co16, .int .i64 t436, .int .i64 0, .int .i64 0]) ?_ 3 _ rfl; refine bk_ ?_; refine blk_put (cs := #[.int .i64 t432, .slice Ao16 t433.length co16, .int .i64 0, .int .i64 0, .int .i64 0]) ?_ 2 _ rfl; refine bk_ ?_; refine blk_put (cs := #[.int .i64 t432, .slice none 0 0, .int .i64 0, .int .i64 0, .int .i64 0]) ?_ 1 _ rfl; refine bk_ ?_; refine blk_put (cs := #[.int .i64 0, .slice none 0 0, .int .i64 0, .int .i64 0, .int .i64 0]) ?_ 0 _ rfl; refine bk_ ?_; exact BK439.out⟩, ⟨bel_⟩⟩
      case round =>
       clear H'
       try clear c1
       try clear p2
       try clear c3
       try clear c5
       try clear c6
       try clear p6
       try clear c8
       try clear c9
       try clear c9b0
       try clear c10
       try clear c10b0
       try clear c14
       try clear p2
       obtain ⟨x7_2, x440001_2, u440001, rfl, HA, HK2, HO_440001, BK429, BK439, HB⟩ := hrel
       cases gk with
       | zero => exact absurd HA.out (by simp [dom_Range.l0])
       | succ k2 =>
        have H := HA.out
        clear HA
        simp only [dom_Range.l0] at H
        by_cases c17 : x7_2 ≤ a1
        ·
         rw [if_pos c17] at H
         have c17b0 : decide (x7_2 ≤ a1) = true := decide_eq_true c17
         clear c17
         obtain ⟨ji18, hji18⟩ : ∃ j_ : Int, (wrap64 (Int.tdiv (wrap64 (x7_2 - t432)) 64)) = j_ := ⟨_, rfl⟩
         replace H : (if 0 ≤ (ji18) then (if (ji18) < (x440001_2.length : Int) then (if 0 ≤ (Int.tmod (wrap64 (x7_2 - t432)) 64) then (dom_Range.l0 k2 a1 (wrap64 (x7_2 + 1)) t432 (x440001_2.set ((ji18) : Int).toNat (Go.bits .or .u64 (rd x440001_2 (ji18)) (shl .u64 1 (Int.tmod (wrap64 (x7_2 - t432)) 64)))) t436 t437 t438) else (none)) else (none)) else (none)) = some (r1, r2, r3, r4, r5, r6) := by first | (rw [hji18] at H; exact H) | (simp only [hji18] at H ⊢; exact H)
         have hji18w : (IntKind.i64.wrap (Int.tdiv (wrap64 (x7_2 - t432)) 64)) = ji18 := (i64_w _).trans hji18
         by_cases c19 : 0 ≤ (ji18)
         ·
          rw [if_pos c19] at H
          have c19b0 : decide (0 ≤ (ji18)) = true := decide_eq_true c19
          clear c19
          by_cases c20 : (ji18) < (x440001_2.length : Int)
          ·
           rw [if_pos c20] at H
           have c20b0 : decide ((ji18) < (x440001_2.length : Int)) = true := decide_eq_true c20
           clear c20
           obtain ⟨ji21, hji21⟩ : ∃ j_ : Int, (Int.tmod (wrap64 (x7_2 - t432)) 64) = j_ := ⟨_, rfl⟩
           replace H : (if 0 ≤ (ji21) then (dom_Range.l0 k2 a1 (wrap64 (x7_2 + 1)) t432 (x440001_2.set ((ji18) : Int).toNat (Go.bits .or .u64 (rd x440001_2 (ji18)) (shl .u64 1 (ji21)))) t436 t437 t438) else (none)) = some (r1, r2, r3, r4, r5, r6) := by first | (rw [hji21] at H; exact H) | (simp only [hji21] at H ⊢; exact H)
           by_cases c22 : 0 ≤ (ji21)
           ·
            rw [if_pos c22] at H
            have c22b0 := eq_true c22
            have c22b1 : decide (0 ≤ (ji21)) = true := decide_eq_true c22
            clear c22
            obtain ⟨ji23, hji23⟩ : ∃ j_ : Int, (shl .u64 1 (ji21)) = j_ := ⟨_, rfl⟩
            replace H : (dom_Range.l0 k2 a1 (wrap64 (x7_2 + 1)) t432 (x440001_2.set ((ji18) : Int).toNat (Go.bits .or .u64 (rd x440001_2 (ji18)) (ji23))) t436 t437 t438) = some (r1, r2, r3, r4, r5, r6) := by first | (rw [hji23] at H; exact H) | (simp only [hji23] at H ⊢; exact H)
            have hji23_ : (IntKind.u64.wrap (1 * 2 ^ min (ji21).toNat 64)) = ji23 := hji23
            have hji23z : (ji21) ≤ 64 → (IntKind.u64.wrap (1 * 2 ^ (ji21).toNat)) = ji23 := shl_small hji23
            have hji23u : (IntKind.u64.wrap (2 ^ min (ji21).toNat 64)) = ji23 := by have h_ := hji23_; rw [Int.one_mul] at h_; exact h_
            have hji23v : (ji21) ≤ 64 → (IntKind.u64.wrap (2 ^ (ji21).toNat)) = ji23 := fun hle_ => by have h_ := hji23z hle_; rw [Int.one_mul] at h_; exact h_
            obtain ⟨y441, hy441⟩ : ∃ y_ : List Int, y_ = (x440001_2.set ((ji18) : Int).toNat (Go.bits .or .u64 (rd x440001_2 (ji18)) (ji23))) := ⟨_, rfl⟩
            replace H : (dom_Range.l0 k2 a1 (wrap64 (x7_2 + 1)) t432 y441 t436 t437 t438) = some (r1, r2, r3, r4, r5, r6) := by first | (rw [hy441]; with_reducible exact H) | (have H2_ := (Option.bind_some _ _).symm.trans H; rw [hy441]; with_reducible exact H2_) | (have H2_ := (Option.bind_some _ _).symm.trans H; with_reducible exact H2_) | with_reducible exact H | (rw [hy441]; exact H) | exact H
            have Ny441 := Aside0.mk hy441
            clear hy441
            have H' := Aside0.mk H
            clear H
            try go_wp2
            replace HO_440001 := Aside0.mk (Kd.R_drew HO_440001.out)
            replace BK429 := Aside0.mk (blk_drew BK429.out)
            replace BK439 := Aside0.mk (blk_drew BK439.out)
            replace HB := Aside0.mk (below_drew1 HB.out)
            obtain ⟨Ao26, co26, eo26⟩ := Kd.R_slice HO_440001.out
            (first | subst eo26 | (injection eo26 with f1_ f2_ f3_; have f4_ := f1_.symm; have f5_ := f3_.symm; clear f1_ f2_ f3_; subst f4_; subst f5_))
            have p440 : 0 ≤ ((ji18) : Int) := dq_
            have q440 : (ji18) < (x440001_2.length : Int) := dq_
            obtain ⟨ad440, e440, hx440_0⟩ := Kd.at_int (Kd.R_reads' HO_440001.out).2.2 (ji18) p440 q440
            cases e440
            replace p440 := eq_true p440
            replace q440 := eq_true q440
            have p24 : 0 ≤ ((ji18) : Int) := dq_
            have q24 : ((ji18) : Int) < ((x440001_2.length : Int) : Int) := dq_
            obtain ⟨go24, co24, eo24, gb24, gl24, cl24, HG24⟩ := Kd.R_form HO_440001.out (by omega)
            (first | cases eo24 | (injection eo24 with ea_ en_ ec_; (first | subst ea_ | (injection ea_ with ea_; subst ea_)); subst ec_; clear en_))
            have GB24 := Aside0.mk gb24
            have GG24 := Aside0.mk HG24
            clear gb24 gl24 HG24
            (first | simp only [add_plain] at hx440_0 | skip)
            obtain ⟨hx24_0, hf24_0⟩ := Kd.R_celln 0 HO_440001.out ((ji18) : Int) p24 q24
            replace p24 := eq_true p24
            replace q24 := eq_true q24
            have HP27 := Kd.R_putn HO_440001.out ((ji18) : Int) (Go.bits .or .u64 (rd x440001_2 (ji18)) (ji23))
            rw [← Ny441.out] at HP27
            have HQ27 := Aside0.mk HP27
            clear HP27
            refine start_ (n := 18) (S := fun w' => w'.cell? ⟨gb439, 0, none⟩ = some (.int .i64 t432) ∧ w'.cell? ⟨gb439, 1, none⟩ = some (.slice (some ⟨go24, 0, none⟩) x440001_2.length co26) ∧ w'.cell? ⟨gb439, 2, none⟩ = some (.int .i64 t436) ∧ w'.cell? ⟨gb439, 3, none⟩ = some (.int .i64 t437) ∧ w'.cell? ⟨gb439, 4, none⟩ = some (.int .i64 t438) ∧ w'.cell? ⟨go24, ((ji18)).toNat, none⟩ = some (.int .u64 (rd x440001_2 (ji18)))) (ds := [17]) #[false, false, false, false, false, false, false, false, false, false, false, false, false, false, false, false, false, false] (by kernel_rfl) rfl rfl (cb5_ BK439.out (hx440_0)) (fun hHeld => ?_); refine with_tabW dom_Range.tab11 dom_Range.bits11 (fun HT_ HW_ => ?_)
            generalize wr.drew = w25 at HO_440001 BK429 BK439 HB GG24 HQ27 hf24_0 hx24_0 hx440_0 hHeld ⊢
            refine pu_ (i := 0) (N := some 38) (any_of HT_.out (by kernel_rfl)) ?_
            refine pu_ (i := 2) (N := some 40) (any_of HT_.out (by kernel_rfl)) ?_
            refine pu_ (i := 3) (N := some 41) (any_of HT_.out (by kernel_rfl)) ?_
            refine pu_ (i := 9) (N := some 47) (any_of HT_.out (by kernel_rfl)) ?_
            refine pu_ (i := 10) (N := some 48) (any_of HT_.out (by kernel_rfl)) ?_
            refine tak_ (i := 1) (N := some 39) (take_ofW HT_.out HW_.out (by kernel_rfl)) hHeld ?_
            refine tak_ (i := 4) (N := some 42) (take_ofW HT_.out HW_.out (by kernel_rfl)) hHeld ?_
            refine pu_ (i := 5) (N := some 43) (any_of HT_.out (by kernel_rfl)) ?_
            refine pu_ (i := 6) (N := some 44) (any_of HT_.out (by kernel_rfl)) ?_
            refine pu_ (i := 7) (N := some 45) (any_of HT_.out (by kernel_rfl)) ?_
            refine tak_ (i := 8) (N := some 46) (take_ofW HT_.out HW_.out (by kernel_rfl)) hHeld ?_
            refine tak_ (i := 11) (N := some 49) (take_ofW HT_.out HW_.out (by kernel_rfl)) hHeld ?_
            refine pu_ (i := 12) (N := some 50) (any_of HT_.out (by kernel_rfl)) ?_
            refine pu_ (i := 13) (N := some 51) (any_of HT_.out (by kernel_rfl)) ?_
            refine pu_ (i := 14) (N := some 52) (any_of HT_.out (by kernel_rfl)) ?_
            refine pu_ (i := 15) (N := some 53) (any_of HT_.out (by kernel_rfl)) ?_
            refine pu_ (i := 16) (N := some 54) (any_of HT_.out (by kernel_rfl)) ?_
            refine last_ (i := 17) (N := none) #[true, true, true, true, true, true, true, true, true, true, true, true, true, true, true, true, true, true] rfl rfl (one_of HT_.out (by kernel_rfl)) (by decide) (fun K hK => ?_)
            refine skip_ (w1 := ?_) (by rfl) rfl ?_ ?_
            rotate_left
            ·
             go_simp
             rfl
            refine hK.out _ _ ?_
            clear hK K
            refine done_ (done_of HT_.out (by kernel_rfl)) ?_
            try go_wp2
            go_roundg k2
            case measure => have := HJ2.out; have := HK2.out; omega
            case rel => exact ⟨(wrap64 (x7_2 + 1)), (y441), (.slice (some ⟨go24, 0, none⟩) x440001_2.length co26), eq_, H', ⟨by have := HJ2.out; have := HK2.out; omega⟩, ⟨by refine vR_ ?_; exact HQ27.out⟩, ⟨by refine bk_ ?_; refine blk_far ?_ (by have h_ := Kd.R_ne HO_440001.out BK429.out (by decide); intro e_; exact h_ (by rw [e_]; rfl)) _; refine bk_ ?_; exact BK429.out⟩, ⟨by refine bk_ ?_; refine blk_far ?_ (by have h_ := Kd.R_ne HO_440001.out BK439.out (by decide); intro e_; exact h_ (by rw [e_]; rfl)) _; refine bk_ ?_; exact BK439.out⟩, ⟨by repeat (first | (with_reducible first | exact HB.out | apply below_alloc | apply pw_below_drewN | apply below_drew1 | refine below_set ?_ GB24.out | refine below_set ?_ GE429.out | refine below_set ?_ GE439.out) | exact HB.out)⟩⟩
           ·
            rw [if_neg c22] at H
            exact absurd H (by simp)
          ·
           rw [if_neg c20] at H
           exact absurd H (by simp)
         ·
          rw [if_neg c19] at H
          exact absurd H (by simp)
        ·
         rw [if_neg c17] at H
         have c17b0 : decide (x7_2 ≤ a1) = false := decide_eq_false c17
         clear c17
         replace H := Option.bind_eq_some_iff.mp H
         obtain ⟨⟨t442, t443, t446, t447, t448⟩, A280, H⟩ := H
         try dsimp only at H
         have A28 := Aside0.mk A280
         clear A280
         simp only [Option.some.injEq, Prod.mk.injEq] at H
         obtain ⟨rfl, rfl, rfl, rfl, rfl, rfl⟩ := H
         have hnb29 := NB439_429.out
         have hnc29 := NB429_439.out
         obtain ⟨_, _, _, _, _, _, _, _, _, _⟩ := cel5_ BK439.out
         obtain ⟨Ao31, co31, eo31⟩ := Kd.R_slice HO_440001.out
         subst eo31
         go_wp2_with (first | ((with_reducible refine gate_callee (f := 65) rfl ?_); refine goesL_ (some 59) rfl rfl Tryz.func65 (by kernel_rfl) rfl #[.int .i64 t432, .slice Ao31 x440001_2.length co31] rfl ar_ ?_; (with_reducible refine (dom_made.calls k2 t432 (fun k_ => some k_ = (.slice Ao31 x440001_2.length co31 : Value).ownBlock) _ _ x440001_2 t442 t443 t446 t447 t448 _ ?_ ?_ A28.out).mono ?_); exact Kd.R_V (Kd.R_tight rfl (Kd.R_types (Kd.R_types (HO_440001.out) BK429.out (by decide)) BK439.out (by decide))); exact ca_ ((Kd.C_below HRtab.out HB.out)); rintro e w32 ⟨v444, rfl, ho0, hb⟩; refine ⟨_, rfl, ?_⟩; have HO445 := Aside0.mk (Kd.V_lower (Kd.V_mono (ok' := fun k_ => (w.heap.size ≤ k_) ∧ k_ ≠ gb429 ∧ k_ ≠ gb439) ho0 (fun k_ hk_ => ⟨Or.elim hk_ (fun hs_ => ((Kd.R_types (Kd.R_types (HO_440001.out) BK429.out (by decide)) BK439.out (by decide)).1 k_ hs_.symm).1.1) (fun hn_ => (Nat.le_trans (below_size bel_) hn_)), Or.elim hk_ (fun hs_ => ((Kd.R_types (Kd.R_types (HO_440001.out) BK429.out (by decide)) BK439.out (by decide)).1 k_ hs_.symm).1.2) (fun hn_ => (Kd.freshB (bk_ BK429.out) k_ hn_)), Or.elim hk_ (fun hs_ => ((Kd.R_types (Kd.R_types (HO_440001.out) BK429.out (by decide)) BK439.out (by decide)).1 k_ hs_.symm).2) (fun hn_ => (Kd.freshB (bk_ BK439.out) k_ hn_))⟩)) (below_size bel_)); replace BK429 := Aside0.mk (blk_below (bk_ BK429.out) hb); replace HB := Aside0.mk (below_step bel_ hb); clear hb ho0; obtain ⟨_, _, _, _, _, _, _, _, _, _⟩ := cel5_ BK429.out; obtain ⟨Ao34, co34, eo34⟩ := Kd.V_slice HO445.out; subst eo34))
         refine bodyPost_ret (results_ct rfl _ _ gb429 58 #[.int .i64 t442, .slice Ao34 t443.length co34, .int .i64 t446, .int .i64 t447, .int .i64 t448] (0, 0) _ rfl (by refine bk_ ?_; refine blk_put (cs := #[.int .i64 t442, .slice Ao34 t443.length co34, .int .i64 t446, .int .i64 t447, .int .i64 0]) ?_ 4 _ rfl; refine bk_ ?_; refine blk_put (cs := #[.int .i64 t442, .slice Ao34 t443.length co34, .int .i64 t446, .int .i64 0, .int .i64 0]) ?_ 3 _ rfl; refine bk_ ?_; refine blk_put (cs := #[.int .i64 t442, .slice Ao34 t443.length co34, .int .i64 0, .int .i64 0, .int .i64 0]) ?_ 2 _ rfl; refine bk_ ?_; refine blk_put (cs := #[.int .i64 t442, .slice none 0 0, .int .i64 0, .int .i64 0, .int .i64 0]) ?_ 1 _ rfl; refine bk_ ?_; refine blk_put (cs := #[.int .i64 0, .slice none 0 0, .int .i64 0, .int .i64 0, .int .i64 0]) ?_ 0 _ rfl; refine bk_ ?_; exact BK429.out) Tryz.underlying58 rfl (by kernel_rfl)) rfl ?_
         exact ⟨_, by first | rfl | (simp [errW_none, errW_some] <;> rfl) | (simp [*, errW_none, errW_some] <;> rfl), by refine vV_ ?_; exact Kd.V_mono (fV_ (fV_ (fV_ (fV_ (fV_ (Kd.V_mono HO445.out (fun k_ hk => (⟨hk, hk.2.1⟩ : _ ∧ k_ ≠ gb429)))))))) (fun _ hk => hk.1.1), bel_⟩

/-! ### slices_Equal_int_int: function 33 -/
def slices_Equal_int_int.l0 : Nat → List Int → List Int → Int → Int → Option (Bool)
 | 0, _, _, _, _ => none
 | k + 1, x0, x1, x12, x13 => if x13 < x12 then (if 0 ≤ x13 then (if x13 < (x0.length : Int) then (if x13 < (x1.length : Int) then (if (rd x0 x13) = (rd x1 x13) then (slices_Equal_int_int.l0 k x0 x1 x12 (wrap64 (x13 + 1))) else (none)) else (none)) else (none)) else (none)) else (some true)
def slices_Equal_int_int.f (k : Nat) (l0 : List Int) (l1 : List Int) : Option (Bool) := if (l0.length : Int) = (l1.length : Int) then (slices_Equal_int_int.l0 k l0 l1 (l0.length : Int) 0) else (none)
theorem slices_Equal_int_int.mono_l : ∀ k, (∀ y0 y1 y2 y3, LeO (slices_Equal_int_int.l0 k y0 y1 y2 y3) (slices_Equal_int_int.l0 (k + 1) y0 y1 y2 y3))
 | 0 => fun _ _ _ _ r h => by simp [slices_Equal_int_int.l0] at h
 | k + 1 => by
  have ih0 := slices_Equal_int_int.mono_l k
  ·
   intro y0 y1 y2 y3
   unfold slices_Equal_int_int.l0
   exact leo_
theorem slices_Equal_int_int.mono : ∀ a0 a1 k, LeO (slices_Equal_int_int.f k a0 a1) (slices_Equal_int_int.f (k + 1) a0 a1) := by
 intro a0 a1 k
 have ih0 := slices_Equal_int_int.mono_l k
 unfold slices_Equal_int_int.f
 exact leo_
set_option maxHeartbeats 8000000 in
set_option maxRecDepth 100000 in
theorem slices_Equal_int_int.calls (k : Nat) (A0 : Option Addr) (c0 : Nat) (l0 : List Int) (A1 : Option Addr) (c1 : Nat) (l1 : List Int) (r : Bool) (w : World) (hr0 : Kd.C (Kd.int .i64) w A0 l0.length l0) (hc0 : l0.length ≤ c0) (hr1 : Kd.C (Kd.int .i64) w A1 l1.length l1) (hc1 : l1.length ≤ c1) (h : slices_Equal_int_int.f k l0 l1 = some r) :
  Calls Tryz.prog 33 #[.slice A0 l0.length c0, .slice A1 l1.length c1] w fun e w' => e = .returned (.bool r) ∧ Drawn0 w w' := by
 have HR0 := Aside0.mk hr0
 have HC0 := Aside0.mk hc0
 clear hr0 hc0
 have HR1 := Aside0.mk hr1
 have HC1 := Aside0.mk hc1
 clear hr1 hc1
 unfold slices_Equal_int_int.f at h
 have H := h
 clear h
 by_cases c3 : (l0.length : Int) = (l1.length : Int)
 ·
  rw [if_pos c3] at H
  have c3b0 : ((l0.length : Int) == (l1.length : Int)) = true := beq_iff_eq.mpr c3
  have c3b1 : ((l0.length : Int) != (l1.length : Int)) = false := bne_eq_false_iff_eq.mpr c3
  have c3b2 : (l0.length == l1.length) = true := by first | simpa using c3 | (simp at c3 ⊢; omega)
  clear c3
  have H' := Aside0.mk H
  clear H
  go_enter Tryz.func33, Tryz.ntmps33
  go_wp2
  repeat (go_quiet (fail); try go_wp2)
  go_loopg [13] k (fun kq v13 w' => ∃ (x13_1 : Int), v13 = .int .i64 x13_1 ∧ Aside0 (slices_Equal_int_int.l0 kq l0 l1 (l0.length : Int) x13_1 = some r) ∧ Aside0 (kq ≤ k) ∧ Drawn0 w w')
  case atStart => exact ⟨(0), eq_, H', ⟨Nat.le_refl _⟩, by repeat (first | exact Drawn0.refl _ | apply Drawn0.step)⟩
  case round =>
   clear H'
   try clear c1
   try clear p2
   try clear c3
   try clear c3b0
   try clear c3b1
   try clear c3b2
   obtain ⟨x13_1, rfl, HA, HK1, ⟨m1, rfl⟩⟩ := hrel
   cases gk with
   | zero => exact absurd HA.out (by simp [slices_Equal_int_int.l0])
   | succ k1 =>
    have H := HA.out
    clear HA
    simp only [slices_Equal_int_int.l0] at H
    by_cases c4 : x13_1 < (l0.length : Int)
    ·
     rw [if_pos c4] at H
     have c4b0 : decide (x13_1 < (l0.length : Int)) = true := decide_eq_true c4
     clear c4
     by_cases c5 : 0 ≤ x13_1
     ·
      rw [if_pos c5] at H
      have c5b0 : decide (0 ≤ x13_1) = true := decide_eq_true c5
      clear c5
      by_cases c6 : x13_1 < (l0.length : Int)
      ·
       rw [if_pos c6] at H
       have c6b0 : decide (x13_1 < (l0.length : Int)) = true := decide_eq_true c6
       clear c6
       by_cases c7 : x13_1 < (l1.length : Int)
       ·
        rw [if_pos c7] at H
        have c7b0 : decide (x13_1 < (l1.length : Int)) = true := decide_eq_true c7
        clear c7
        by_cases c8 : (rd l0 x13_1) = (rd l1 x13_1)
        ·
         rw [if_pos c8] at H
         have c8b0 : ((rd l0 x13_1) == (rd l1 x13_1)) = true := beq_iff_eq.mpr c8
         have c8b1 : ((rd l0 x13_1) != (rd l1 x13_1)) = false := bne_eq_false_iff_eq.mpr c8
         clear c8
         have H' := Aside0.mk H
         clear H
         have p449 : 0 ≤ (x13_1 : Int) := dq_
         have q449 : x13_1 < (l0.length : Int) := dq_
         obtain ⟨ad449, e449, hx449_0⟩ := Kd.at_int HR0.out x13_1 p449 q449
         cases e449
         replace p449 := eq_true p449
         replace q449 := eq_true q449
         have p450 : 0 ≤ (x13_1 : Int) := dq_
         have q450 : x13_1 < (l1.length : Int) := dq_
         obtain ⟨ad450, e450, hx450_0⟩ := Kd.at_int HR1.out x13_1 p450 q450
         cases e450
         replace p450 := eq_true p450
         replace q450 := eq_true q450
         go_wp2
         repeat (go_quiet (fail); try go_wp2)
         go_roundg k1
         case measure => have := HK1.out; omega
         case rel => exact ⟨(wrap64 (x13_1 + 1)), eq_, H', ⟨by have := HK1.out; omega⟩, by repeat (first | exact Drawn0.refl _ | apply Drawn0.step)⟩
        ·
         rw [if_neg c8] at H
         exact absurd H (by simp)
       ·
        rw [if_neg c7] at H
        exact absurd H (by simp)
      ·
       rw [if_neg c6] at H
       exact absurd H (by simp)
     ·
      rw [if_neg c5] at H
      exact absurd H (by simp)
    ·
     rw [if_neg c4] at H
     have c4b0 : decide (x13_1 < (l0.length : Int)) = false := decide_eq_false c4
     clear c4
     obtain rfl := Option.some.inj H
     go_wp2
     repeat (go_quiet (fail); try go_wp2)
     go_ret
     exact ⟨by first | rfl | (simp; done) | (simp [*]; done), by repeat (first | exact Drawn0.refl _ | apply Drawn0.step)⟩
 ·
  rw [if_neg c3] at H
  exact absurd H (by simp)


/-! ### jigsawlaw14_wakes: function 12 -/
def jigsawlaw14_wakes.f (k : Nat)  : Option (Bool) := (dom_Range.f k 0 2).bind fun bt451 => ((dom_Of.f k (([2] : List Int))).bind fun bt463 => ((dom_Of.f k (([1] : List Int))).bind fun bt475 => ((clause_Filter.f k 12 (([0, 1] : List Int)) (([2] : List Int)) ([] : List Int) ([] : List Int) ([] : List Int) 0 ([] : List (List Int)) (([(⟨bt451.1, bt451.2.1, bt451.2.2.1, bt451.2.2.2.1, bt451.2.2.2.2.1⟩ : S58), (⟨bt463.1, bt463.2.1, bt463.2.2.1, bt463.2.2.2.1, bt463.2.2.2.2.1⟩ : S58), (⟨bt475.1, bt475.2.1, bt475.2.2.1, bt475.2.2.2.1, bt475.2.2.2.2.1⟩ : S58)] : List (S58)))).bind fun bt493 => ((clause_Filter.f k 12 (([1] : List Int)) (([2] : List Int)) ([] : List Int) ([] : List Int) ([] : List Int) 0 ([] : List (List Int)) (([(⟨bt463.1, bt463.2.1, bt463.2.2.1, bt463.2.2.2.1, bt463.2.2.2.2.1⟩ : S58), (⟨bt475.1, bt475.2.1, bt475.2.2.1, bt475.2.2.2.1, bt475.2.2.2.2.1⟩ : S58)] : List (S58)))).bind fun bt506 => (if bt493.2 = true then (if (bt493.1.length : Int) = 3 then (if 0 < (bt493.1.length : Int) then ((dom_Dom_List.f k ((rd_T58 bt493.1 0).f0) ((rd_T58 bt493.1 0).f1) ((rd_T58 bt493.1 0).f2) ((rd_T58 bt493.1 0).f3) ((rd_T58 bt493.1 0).f4)).bind fun t511 => ((slices_Equal_int_int.f k t511 (([1] : List Int))).bind fun t517 => (if t517 = true then (some (!bt506.2)) else (none)))) else (none)) else (none)) else (none))))))
theorem jigsawlaw14_wakes.mono : ∀ k, LeO (jigsawlaw14_wakes.f k ) (jigsawlaw14_wakes.f (k + 1) ) := by
 intro k
 unfold jigsawlaw14_wakes.f
 have m0 := @clause_Filter.mono
 have m1 := @dom_Dom_List.mono
 have m2 := @dom_Of.mono
 have m3 := @dom_Range.mono
 have m4 := @slices_Equal_int_int.mono
 exact leo_
set_option maxHeartbeats 8000000 in
set_option maxRecDepth 100000 in
theorem jigsawlaw14_wakes.calls (k : Nat)  (r : Bool) (w : World) (hrtab : Kd.C (Kd.int .u8) w (some ⟨0, 0, none⟩) tabL.length tabL) (h : jigsawlaw14_wakes.f k  = some r) :
  Calls Tryz.prog 12 #[] w fun e w' => e = .returned (.bool r) ∧ Below w.heap.size w w' := by
 have hu58 := Tryz.underlying58
 have hu32 := Tryz.underlying32
 have HRtab := Aside0.mk hrtab
 clear hrtab
 have HB := Aside0.mk (Below.refl w.heap.size w)
 unfold jigsawlaw14_wakes.f at h
 have H := h
 clear h
 replace H := Option.bind_eq_some_iff.mp H
 obtain ⟨⟨t451, t452, t455, t456, t457, t458⟩, A10, H⟩ := H
 try dsimp only at H
 have A1 := Aside0.mk A10
 clear A10
 obtain ⟨y460, hy460⟩ : ∃ y_ : List Int, y_ = (([2] : List Int)) := ⟨_, rfl⟩
 replace H : ((dom_Of.f k y460).bind fun bt463 => ((dom_Of.f k (([1] : List Int))).bind fun bt475 => ((clause_Filter.f k 12 (([0, 1] : List Int)) (([2] : List Int)) ([] : List Int) ([] : List Int) ([] : List Int) 0 ([] : List (List Int)) (([(⟨t451, t452, t455, t456, t457⟩ : S58), (⟨bt463.1, bt463.2.1, bt463.2.2.1, bt463.2.2.2.1, bt463.2.2.2.2.1⟩ : S58), (⟨bt475.1, bt475.2.1, bt475.2.2.1, bt475.2.2.2.1, bt475.2.2.2.2.1⟩ : S58)] : List (S58)))).bind fun bt493 => ((clause_Filter.f k 12 (([1] : List Int)) (([2] : List Int)) ([] : List Int) ([] : List Int) ([] : List Int) 0 ([] : List (List Int)) (([(⟨bt463.1, bt463.2.1, bt463.2.2.1, bt463.2.2.2.1, bt463.2.2.2.2.1⟩ : S58), (⟨bt475.1, bt475.2.1, bt475.2.2.1, bt475.2.2.2.1, bt475.2.2.2.2.1⟩ : S58)] : List (S58)))).bind fun bt506 => (if bt493.2 = true then (if (bt493.1.length : Int) = 3 then (if 0 < (bt493.1.length : Int) then ((dom_Dom_List.f k ((rd_T58 bt493.1 0).f0) ((rd_T58 bt493.1 0).f1) ((rd_T58 bt493.1 0).f2) ((rd_T58 bt493.1 0).f3) ((rd_T58 bt493.1 0).f4)).bind fun t511 => ((slices_Equal_int_int.f k t511 (([1] : List Int))).bind fun t517 => (if t517 = true then (some (!bt506.2)) else (none)))) else (none)) else (none)) else (none)))))) = some r := by first | (rw [hy460]; with_reducible exact H) | (have H2_ := (Option.bind_some _ _).symm.trans H; rw [hy460]; with_reducible exact H2_) | (have H2_ := (Option.bind_some _ _).symm.trans H; with_reducible exact H2_) | with_reducible exact H | (rw [hy460]; exact H) | exact H
 have Ny460 := Aside0.mk hy460
 clear hy460
 replace H := Option.bind_eq_some_iff.mp H
 obtain ⟨⟨t463, t464, t467, t468, t469, t470⟩, A20, H⟩ := H
 try dsimp only at H
 have A2 := Aside0.mk A20
 clear A20
 obtain ⟨y472, hy472⟩ : ∃ y_ : List Int, y_ = (([1] : List Int)) := ⟨_, rfl⟩
 replace H : ((dom_Of.f k y472).bind fun bt475 => ((clause_Filter.f k 12 (([0, 1] : List Int)) (([2] : List Int)) ([] : List Int) ([] : List Int) ([] : List Int) 0 ([] : List (List Int)) (([(⟨t451, t452, t455, t456, t457⟩ : S58), (⟨t463, t464, t467, t468, t469⟩ : S58), (⟨bt475.1, bt475.2.1, bt475.2.2.1, bt475.2.2.2.1, bt475.2.2.2.2.1⟩ : S58)] : List (S58)))).bind fun bt493 => ((clause_Filter.f k 12 (([1] : List Int)) (([2] : List Int)) ([] : List Int) ([] : List Int) ([] : List Int) 0 ([] : List (List Int)) (([(⟨t463, t464, t467, t468, t469⟩ : S58), (⟨bt475.1, bt475.2.1, bt475.2.2.1, bt475.2.2.2.1, bt475.2.2.2.2.1⟩ : S58)] : List (S58)))).bind fun bt506 => (if bt493.2 = true then (if (bt493.1.length : Int) = 3 then (if 0 < (bt493.1.length : Int) then ((dom_Dom_List.f k ((rd_T58 bt493.1 0).f0) ((rd_T58 bt493.1 0).f1) ((rd_T58 bt493.1 0).f2) ((rd_T58 bt493.1 0).f3) ((rd_T58 bt493.1 0).f4)).bind fun t511 => ((slices_Equal_int_int.f k t511 (([1] : List Int))).bind fun t517 => (if t517 = true then (some (!bt506.2)) else (none)))) else (none)) else (none)) else (none))))) = some r := by first | (rw [hy472]; with_reducible exact H) | (have H2_ := (Option.bind_some _ _).symm.trans H; rw [hy472]; with_reducible exact H2_) | (have H2_ := (Option.bind_some _ _).symm.trans H; with_reducible exact H2_) | with_reducible exact H | (rw [hy472]; exact H) | exact H
 have Ny472 := Aside0.mk hy472
 clear hy472
 replace H := Option.bind_eq_some_iff.mp H
 obtain ⟨⟨t475, t476, t479, t480, t481, t482⟩, A30, H⟩ := H
 try dsimp only at H
 have A3 := Aside0.mk A30
 clear A30
 obtain ⟨y484, hy484⟩ : ∃ y_ : List Int, y_ = (([0, 1] : List Int)) := ⟨_, rfl⟩
 replace H : ((clause_Filter.f k 12 y484 (([2] : List Int)) ([] : List Int) ([] : List Int) ([] : List Int) 0 ([] : List (List Int)) (([(⟨t451, t452, t455, t456, t457⟩ : S58), (⟨t463, t464, t467, t468, t469⟩ : S58), (⟨t475, t476, t479, t480, t481⟩ : S58)] : List (S58)))).bind fun bt493 => ((clause_Filter.f k 12 (([1] : List Int)) (([2] : List Int)) ([] : List Int) ([] : List Int) ([] : List Int) 0 ([] : List (List Int)) (([(⟨t463, t464, t467, t468, t469⟩ : S58), (⟨t475, t476, t479, t480, t481⟩ : S58)] : List (S58)))).bind fun bt506 => (if bt493.2 = true then (if (bt493.1.length : Int) = 3 then (if 0 < (bt493.1.length : Int) then ((dom_Dom_List.f k ((rd_T58 bt493.1 0).f0) ((rd_T58 bt493.1 0).f1) ((rd_T58 bt493.1 0).f2) ((rd_T58 bt493.1 0).f3) ((rd_T58 bt493.1 0).f4)).bind fun t511 => ((slices_Equal_int_int.f k t511 (([1] : List Int))).bind fun t517 => (if t517 = true then (some (!bt506.2)) else (none)))) else (none)) else (none)) else (none)))) = some r := by first | (rw [hy484]; with_reducible exact H) | (have H2_ := (Option.bind_some _ _).symm.trans H; rw [hy484]; with_reducible exact H2_) | (have H2_ := (Option.bind_some _ _).symm.trans H; with_reducible exact H2_) | with_reducible exact H | (rw [hy484]; exact H) | exact H
 have Ny484 := Aside0.mk hy484
 clear hy484
 obtain ⟨y487, hy487⟩ : ∃ y_ : List Int, y_ = (([2] : List Int)) := ⟨_, rfl⟩
 replace H : ((clause_Filter.f k 12 y484 y487 ([] : List Int) ([] : List Int) ([] : List Int) 0 ([] : List (List Int)) (([(⟨t451, t452, t455, t456, t457⟩ : S58), (⟨t463, t464, t467, t468, t469⟩ : S58), (⟨t475, t476, t479, t480, t481⟩ : S58)] : List (S58)))).bind fun bt493 => ((clause_Filter.f k 12 (([1] : List Int)) (([2] : List Int)) ([] : List Int) ([] : List Int) ([] : List Int) 0 ([] : List (List Int)) (([(⟨t463, t464, t467, t468, t469⟩ : S58), (⟨t475, t476, t479, t480, t481⟩ : S58)] : List (S58)))).bind fun bt506 => (if bt493.2 = true then (if (bt493.1.length : Int) = 3 then (if 0 < (bt493.1.length : Int) then ((dom_Dom_List.f k ((rd_T58 bt493.1 0).f0) ((rd_T58 bt493.1 0).f1) ((rd_T58 bt493.1 0).f2) ((rd_T58 bt493.1 0).f3) ((rd_T58 bt493.1 0).f4)).bind fun t511 => ((slices_Equal_int_int.f k t511 (([1] : List Int))).bind fun t517 => (if t517 = true then (some (!bt506.2)) else (none)))) else (none)) else (none)) else (none)))) = some r := by first | (rw [hy487]; with_reducible exact H) | (have H2_ := (Option.bind_some _ _).symm.trans H; rw [hy487]; with_reducible exact H2_) | (have H2_ := (Option.bind_some _ _).symm.trans H; with_reducible exact H2_) | with_reducible exact H | (rw [hy487]; exact H) | exact H
 have Ny487 := Aside0.mk hy487
 clear hy487
 obtain ⟨y490, hy490⟩ : ∃ y_ : List (S58), y_ = (([(⟨t451, t452, t455, t456, t457⟩ : S58), (⟨t463, t464, t467, t468, t469⟩ : S58), (⟨t475, t476, t479, t480, t481⟩ : S58)] : List (S58))) := ⟨_, rfl⟩
 replace H : ((clause_Filter.f k 12 y484 y487 ([] : List Int) ([] : List Int) ([] : List Int) 0 ([] : List (List Int)) y490).bind fun bt493 => ((clause_Filter.f k 12 (([1] : List Int)) (([2] : List Int)) ([] : List Int) ([] : List Int) ([] : List Int) 0 ([] : List (List Int)) (([(⟨t463, t464, t467, t468, t469⟩ : S58), (⟨t475, t476, t479, t480, t481⟩ : S58)] : List (S58)))).bind fun bt506 => (if bt493.2 = true then (if (bt493.1.length : Int) = 3 then (if 0 < (bt493.1.length : Int) then ((dom_Dom_List.f k ((rd_T58 bt493.1 0).f0) ((rd_T58 bt493.1 0).f1) ((rd_T58 bt493.1 0).f2) ((rd_T58 bt493.1 0).f3) ((rd_T58 bt493.1 0).f4)).bind fun t511 => ((slices_Equal_int_int.f k t511 (([1] : List Int))).bind fun t517 => (if t517 = true then (some (!bt506.2)) else (none)))) else (none)) else (none)) else (none)))) = some r := by first | (rw [hy490]; with_reducible exact H) | (have H2_ := (Option.bind_some _ _).symm.trans H; rw [hy490]; with_reducible exact H2_) | (have H2_ := (Option.bind_some _ _).symm.trans H; with_reducible exact H2_) | with_reducible exact H | (rw [hy490]; exact H) | exact H
 have Ny490 := Aside0.mk hy490
 clear hy490
 replace H := Option.bind_eq_some_iff.mp H
 obtain ⟨⟨t493, t496⟩, A40, H⟩ := H
 try dsimp only at H
 have A4 := Aside0.mk A40
 clear A40
 obtain ⟨y497, hy497⟩ : ∃ y_ : List Int, y_ = (([1] : List Int)) := ⟨_, rfl⟩
 replace H : ((clause_Filter.f k 12 y497 (([2] : List Int)) ([] : List Int) ([] : List Int) ([] : List Int) 0 ([] : List (List Int)) (([(⟨t463, t464, t467, t468, t469⟩ : S58), (⟨t475, t476, t479, t480, t481⟩ : S58)] : List (S58)))).bind fun bt506 => (if t496 = true then (if (t493.length : Int) = 3 then (if 0 < (t493.length : Int) then ((dom_Dom_List.f k ((rd_T58 t493 0).f0) ((rd_T58 t493 0).f1) ((rd_T58 t493 0).f2) ((rd_T58 t493 0).f3) ((rd_T58 t493 0).f4)).bind fun t511 => ((slices_Equal_int_int.f k t511 (([1] : List Int))).bind fun t517 => (if t517 = true then (some (!bt506.2)) else (none)))) else (none)) else (none)) else (none))) = some r := by first | (rw [hy497]; with_reducible exact H) | (have H2_ := (Option.bind_some _ _).symm.trans H; rw [hy497]; with_reducible exact H2_) | (have H2_ := (Option.bind_some _ _).symm.trans H; with_reducible exact H2_) | with_reducible exact H | (rw [hy497]; exact H) | exact H
 have Ny497 := Aside0.mk hy497
 clear hy497
 obtain ⟨y500, hy500⟩ : ∃ y_ : List Int, y_ = (([2] : List Int)) := ⟨_, rfl⟩
 replace H : ((clause_Filter.f k 12 y497 y500 ([] : List Int) ([] : List Int) ([] : List Int) 0 ([] : List (List Int)) (([(⟨t463, t464, t467, t468, t469⟩ : S58), (⟨t475, t476, t479, t480, t481⟩ : S58)] : List (S58)))).bind fun bt506 => (if t496 = true then (if (t493.length : Int) = 3 then (if 0 < (t493.length : Int) then ((dom_Dom_List.f k ((rd_T58 t493 0).f0) ((rd_T58 t493 0).f1) ((rd_T58 t493 0).f2) ((rd_T58 t493 0).f3) ((rd_T58 t493 0).f4)).bind fun t511 => ((slices_Equal_int_int.f k t511 (([1] : List Int))).bind fun t517 => (if t517 = true then (some (!bt506.2)) else (none)))) else (none)) else (none)) else (none))) = some r := by first | (rw [hy500]; with_reducible exact H) | (have H2_ := (Option.bind_some _ _).symm.trans H; rw [hy500]; with_reducible exact H2_) | (have H2_ := (Option.bind_some _ _).symm.trans H; with_reducible exact H2_) | with_reducible exact H | (rw [hy500]; exact H) | exact H
 have Ny500 := Aside0.mk hy500
 clear hy500
 obtain ⟨y503, hy503⟩ : ∃ y_ : List (S58), y_ = (([(⟨t463, t464, t467, t468, t469⟩ : S58), (⟨t475, t476, t479, t480, t481⟩ : S58)] : List (S58))) := ⟨_, rfl⟩
 replace H : ((clause_Filter.f k 12 y497 y500 ([] : List Int) ([] : List Int) ([] : List Int) 0 ([] : List (List Int)) y503).bind fun bt506 => (if t496 = true then (if (t493.length : Int) = 3 then (if 0 < (t493.length : Int) then ((dom_Dom_List.f k ((rd_T58 t493 0).f0) ((rd_T58 t493 0).f1) ((rd_T58 t493 0).f2) ((rd_T58 t493 0).f3) ((rd_T58 t493 0).f4)).bind fun t511 => ((slices_Equal_int_int.f k t511 (([1] : List Int))).bind fun t517 => (if t517 = true then (some (!bt506.2)) else (none)))) else (none)) else (none)) else (none))) = some r := by first | (rw [hy503]; with_reducible exact H) | (have H2_ := (Option.bind_some _ _).symm.trans H; rw [hy503]; with_reducible exact H2_) | (have H2_ := (Option.bind_some _ _).symm.trans H; with_reducible exact H2_) | with_reducible exact H | (rw [hy503]; exact H) | exact H
 have Ny503 := Aside0.mk hy503
 clear hy503
 replace H := Option.bind_eq_some_iff.mp H
 obtain ⟨⟨t506, t509⟩, A50, H⟩ := H
 try dsimp only at H
 have A5 := Aside0.mk A50
 clear A50
 by_cases c6 : t496 = true
 ·
  subst c6
  rw [if_pos rfl] at H
  by_cases c7 : (t493.length : Int) = 3
  ·
   rw [if_pos c7] at H
   have c7b0 : ((t493.length : Int) == 3) = true := beq_iff_eq.mpr c7
   have c7b1 : ((t493.length : Int) != 3) = false := bne_eq_false_iff_eq.mpr c7
   clear c7
   by_cases c8 : 0 < (t493.length : Int)
   ·
    rw [if_pos c8] at H
    have c8b0 : decide (0 < (t493.length : Int)) = true := decide_eq_true c8
    have c8b1 : decide (0 < t493.length) = true := decide_eq_true (by omega)
    clear c8
    replace H := Option.bind_eq_some_iff.mp H
    obtain ⟨t511, A90, H⟩ := H
    try dsimp only at H
    have A9 := Aside0.mk A90
    clear A90
    obtain ⟨y514, hy514⟩ : ∃ y_ : List Int, y_ = (([1] : List Int)) := ⟨_, rfl⟩
    replace H : ((slices_Equal_int_int.f k t511 y514).bind fun t517 => (if t517 = true then (some (!t509)) else (none))) = some r := by first | (rw [hy514]; with_reducible exact H) | (have H2_ := (Option.bind_some _ _).symm.trans H; rw [hy514]; with_reducible exact H2_) | (have H2_ := (Option.bind_some _ _).symm.trans H; with_reducible exact H2_) | with_reducible exact H | (rw [hy514]; exact H) | exact H
    have Ny514 := Aside0.mk hy514
    clear hy514
    replace H := Option.bind_eq_some_iff.mp H
    obtain ⟨t517, A100, H⟩ := H
    try dsimp only at H
    have A10 := Aside0.mk A100
    clear A100
    by_cases c11 : t517 = true
    ·
     subst c11
     rw [if_pos rfl] at H
     obtain rfl := Option.some.inj H
     go_enter Tryz.func12, Tryz.ntmps12
     go_wp2_with (first | ((with_reducible refine gate_callee (f := 32) rfl ?_); refine goesL_ (some 12) rfl rfl Tryz.func32 (by kernel_rfl) rfl #[.int .i64 0, .int .i64 2] rfl ar_ ?_; (with_reducible refine (dom_Range.calls k 0 2 t451 t452 t455 t456 t457 t458 _ ?_ A1.out).mono ?_); exact ca_ (HRtab.out); rintro e w12 ⟨v453, rfl, ho0, hb⟩; refine ⟨_, rfl, ?_⟩; have HO454 := Aside0.mk (Kd.V_lower (Kd.V_mono (ok' := fun k_ => True) ho0 (fun k_ hk_ => trivial)) (below_size bel_)); replace HB := Aside0.mk (below_step bel_ hb); clear hb ho0) | ((with_reducible refine gate_dst (N := 1) rfl ?_); (try (refine gate_guard (by rfl) ?_; dsimp only)); refine bxe_ (N := 1) (cs := #[.int .i64 0, .slice none 0 0, .int .i64 0, .int .i64 0, .int .i64 0]) (t := 58) ?_; intro gb459 hg w13 hbox hb; replace HO454 := Aside0.mk (Kd.V_below (Kd.V_elderB (vV_ HO454.out) gb459 (Nat.le_of_eq hg.symm)) hb); have BK459 := Aside0.mk (hbox); have GW459 := Aside0.mk (by rw [hg]; exact (below_size bel_) : w.heap.size ≤ gb459); have GE459 := GW459; replace HB := Aside0.mk (below_step bel_ hb); clear hb hbox hg; obtain ⟨_, _, _, _, _, _, _, _, _, _⟩ := cel5_ BK459.out; obtain ⟨Ao15, co15, eo15⟩ := Kd.V_slice HO454.out; subst eo15) | ((with_reducible refine gate_dst (N := 16) rfl ?_); (try (refine gate_guard (by rfl) ?_; dsimp only)); refine Kd.R_lit (Kd.int .i64) _ 3 ?hg (N := 16) ?hd (xs := ([2] : List Int)) (inner := [.int .i64 2]) (ok := fun _ => True) (okp := fun _ => True) ?hr ?hp (fun _ hk => hk) trivial (Below.refl _ _) (Nat.le_refl _) (by simp) ?_; (case hd => rfl); (case hg => rfl); (case hr => first | (go_simp; done) | (go_simp; rfl)); (case hp => exact (Reps.one (show Kd.M (Kd.int .i64) _ _ _ 2 [.int .i64 2] from rfl) (Reps.none _ _))); intro v461 w16 ho17 hb hg_ hnew_; clear hg_ hnew_; (first | rw [← Ny460.out] at ho17 | (simp only [Int.reduceToNat] at ho17; rw [← Ny460.out] at ho17)); replace HO454 := Aside0.mk (Kd.V_elder' (by refine vV_ ?_; exact (Kd.V_mono (fV_ (fV_ (fV_ (fV_ (fV_ (Kd.V_mono HO454.out (fun k_ hk => (⟨hk, hk.2⟩ : _ ∧ k_ ≠ gb459)))))))) (fun _ h_ => h_.1))) (Kd.R_base ho17) hb); have HO462 := Aside0.mk (Kd.R_lower ho17 (below_size bel_)); replace BK459 := Aside0.mk (blk_below (g := gb459) (o := .cells #[.int .i64 t451, .slice Ao15 t452.length co15, .int .i64 t455, .int .i64 t456, .int .i64 t457] 58 (0, 0)) (by refine bk_ ?_; refine blk_put (cs := #[.int .i64 t451, .slice Ao15 t452.length co15, .int .i64 t455, .int .i64 t456, .int .i64 0]) ?_ 4 _ rfl; refine bk_ ?_; refine blk_put (cs := #[.int .i64 t451, .slice Ao15 t452.length co15, .int .i64 t455, .int .i64 0, .int .i64 0]) ?_ 3 _ rfl; refine bk_ ?_; refine blk_put (cs := #[.int .i64 t451, .slice Ao15 t452.length co15, .int .i64 0, .int .i64 0, .int .i64 0]) ?_ 2 _ rfl; refine bk_ ?_; refine blk_put (cs := #[.int .i64 t451, .slice none 0 0, .int .i64 0, .int .i64 0, .int .i64 0]) ?_ 1 _ rfl; refine bk_ ?_; refine blk_put (cs := #[.int .i64 0, .slice none 0 0, .int .i64 0, .int .i64 0, .int .i64 0]) ?_ 0 _ rfl; refine bk_ ?_; exact BK459.out) hb); replace HB := Aside0.mk (below_step bel_ hb); clear hb ho17; obtain ⟨Ao18, co18, eo18⟩ := Kd.R_slice HO462.out; subst eo18) | ((with_reducible refine gate_callee (f := 30) rfl ?_); refine goesL_ (some 17) rfl rfl Tryz.func30 (by kernel_rfl) rfl #[.slice Ao18 y460.length co18] rfl ar_ ?_; (with_reducible refine (dom_Of.calls k _ _ y460 t463 t464 t467 t468 t469 t470 _ ?_ ?_ ?_ A2.out).mono ?_); exact ca_ ((Kd.R_reads' HO462.out).2.2); exact (Kd.R_reads' HO462.out).2.1; exact ca_ ((Kd.C_below HRtab.out HB.out)); rintro e w19 ⟨v465, rfl, ho0, hb⟩; refine ⟨_, rfl, ?_⟩; replace HO454 := Aside0.mk (Kd.V_below (vV_ HO454.out) hb); have HO466 := Aside0.mk (Kd.V_lower (Kd.V_mono (ok' := fun k_ => some k_ ≠ (.slice Ao18 y460.length co18 : Value).ownBlock ∧ k_ ≠ gb459) ho0 (fun k_ hk_ => ⟨(Kd.fresh' (Kd.R_lt (vR_ HO462.out)) k_ hk_), (Kd.freshB (bk_ BK459.out) k_ hk_)⟩)) (below_size bel_)); replace HO462 := Aside0.mk (Kd.R_below (vR_ HO462.out) hb); replace BK459 := Aside0.mk (blk_below (bk_ BK459.out) hb); replace HB := Aside0.mk (below_step bel_ hb); clear hb ho0) | ((with_reducible refine gate_dst (N := 3) rfl ?_); (try (refine gate_guard (by rfl) ?_; dsimp only)); refine bxe_ (N := 3) (cs := #[.int .i64 0, .slice none 0 0, .int .i64 0, .int .i64 0, .int .i64 0]) (t := 58) ?_; intro gb471 hg w20 hbox hb; replace HO454 := Aside0.mk (Kd.V_below (Kd.V_elderB (vV_ HO454.out) gb471 (Nat.le_of_eq hg.symm)) hb); replace HO462 := Aside0.mk (Kd.R_below (vR_ HO462.out) hb); replace HO466 := Aside0.mk (Kd.V_below (Kd.V_elderB (vV_ HO466.out) gb471 (Nat.le_of_eq hg.symm)) hb); have BK471 := Aside0.mk (hbox); have GW471 := Aside0.mk (by rw [hg]; exact (below_size bel_) : w.heap.size ≤ gb471); have GE471 := GW471; replace HB := Aside0.mk (below_step bel_ hb); have NB459_471 := Aside0.mk ((by rw [hg]; exact Nat.ne_of_lt (blk_lt (bk_ BK459.out)) : gb459 ≠ gb471)); have NB471_459 := Aside0.mk ((by rw [hg]; exact Nat.ne_of_gt (blk_lt (bk_ BK459.out)) : gb471 ≠ gb459)); replace BK459 := Aside0.mk (blk_below (bk_ BK459.out) hb); clear hb hbox hg; have hnb21 := NB471_459.out; have hnc21 := NB459_471.out; obtain ⟨_, _, _, _, _, _, _, _, _, _⟩ := cel5_ BK471.out; obtain ⟨Ao23, co23, eo23⟩ := Kd.V_slice HO466.out; subst eo23) | ((with_reducible refine gate_dst (N := 21) rfl ?_); (try (refine gate_guard (by rfl) ?_; dsimp only)); refine Kd.R_lit (Kd.int .i64) _ 3 ?hg (N := 21) ?hd (xs := ([1] : List Int)) (inner := [.int .i64 1]) (ok := fun _ => True) (okp := fun _ => True) ?hr ?hp (fun _ hk => hk) trivial (Below.refl _ _) (Nat.le_refl _) (by simp) ?_; (case hd => rfl); (case hg => rfl); (case hr => first | (go_simp; done) | (go_simp; rfl)); (case hp => exact (Reps.one (show Kd.M (Kd.int .i64) _ _ _ 1 [.int .i64 1] from rfl) (Reps.none _ _))); intro v473 w24 ho25 hb hg_ hnew_; clear hg_ hnew_; (first | rw [← Ny472.out] at ho25 | (simp only [Int.reduceToNat] at ho25; rw [← Ny472.out] at ho25)); replace HO454 := Aside0.mk (Kd.V_elder' (by refine vV_ ?_; exact (Kd.V_mono (fV_ (fV_ (fV_ (fV_ (fV_ (Kd.V_mono HO454.out (fun k_ hk => (⟨hk, hk.2⟩ : _ ∧ k_ ≠ gb471)))))))) (fun _ h_ => h_.1))) (Kd.R_base ho25) hb); replace HO466 := Aside0.mk (Kd.V_elder' (by refine vV_ ?_; exact (Kd.V_mono (fV_ (fV_ (fV_ (fV_ (fV_ (Kd.V_mono HO466.out (fun k_ hk => (⟨hk, hk.2⟩ : _ ∧ k_ ≠ gb471)))))))) (fun _ h_ => h_.1))) (Kd.R_base ho25) hb); have HO474 := Aside0.mk (Kd.R_lower (Kd.R_new' ho25 (Kd.R_lt (by refine vR_ ?_; exact (Kd.R_mono (fR_ (fR_ (fR_ (fR_ (fR_ (Kd.R_types HO462.out BK471.out (by decide))))))) (fun _ h_ => h_.1))))) (below_size bel_)); replace HO462 := Aside0.mk (Kd.R_elder' (by refine vR_ ?_; exact (Kd.R_mono (fR_ (fR_ (fR_ (fR_ (fR_ (Kd.R_types HO462.out BK471.out (by decide))))))) (fun _ h_ => h_.1))) (Kd.R_base ho25) hb); replace BK459 := Aside0.mk (blk_below (g := gb459) (o := .cells #[.int .i64 t451, .slice Ao15 t452.length co15, .int .i64 t455, .int .i64 t456, .int .i64 t457] 58 (0, 0)) (by refine bk_ ?_; refine blk_far ?_ NB459_471.out _; refine bk_ ?_; refine blk_far ?_ NB459_471.out _; refine bk_ ?_; refine blk_far ?_ NB459_471.out _; refine bk_ ?_; refine blk_far ?_ NB459_471.out _; refine bk_ ?_; refine blk_far ?_ NB459_471.out _; refine bk_ ?_; exact BK459.out) hb); replace BK471 := Aside0.mk (blk_below (g := gb471) (o := .cells #[.int .i64 t463, .slice Ao23 t464.length co23, .int .i64 t467, .int .i64 t468, .int .i64 t469] 58 (0, 0)) (by refine bk_ ?_; refine blk_put (cs := #[.int .i64 t463, .slice Ao23 t464.length co23, .int .i64 t467, .int .i64 t468, .int .i64 0]) ?_ 4 _ rfl; refine bk_ ?_; refine blk_put (cs := #[.int .i64 t463, .slice Ao23 t464.length co23, .int .i64 t467, .int .i64 0, .int .i64 0]) ?_ 3 _ rfl; refine bk_ ?_; refine blk_put (cs := #[.int .i64 t463, .slice Ao23 t464.length co23, .int .i64 0, .int .i64 0, .int .i64 0]) ?_ 2 _ rfl; refine bk_ ?_; refine blk_put (cs := #[.int .i64 t463, .slice none 0 0, .int .i64 0, .int .i64 0, .int .i64 0]) ?_ 1 _ rfl; refine bk_ ?_; refine blk_put (cs := #[.int .i64 0, .slice none 0 0, .int .i64 0, .int .i64 0, .int .i64 0]) ?_ 0 _ rfl; refine bk_ ?_; exact BK471.out) hb); replace HB := Aside0.mk (below_step bel_ hb); clear hb ho25; obtain ⟨Ao26, co26, eo26⟩ := Kd.R_slice HO474.out; subst eo26) | ((with_reducible refine gate_callee (f := 30) rfl ?_); refine goesL_ (some 22) rfl rfl Tryz.func30 (by kernel_rfl) rfl #[.slice Ao26 y472.length co26] rfl ar_ ?_; (with_reducible refine (dom_Of.calls k _ _ y472 t475 t476 t479 t480 t481 t482 _ ?_ ?_ ?_ A3.out).mono ?_); exact ca_ ((Kd.R_reads' HO474.out).2.2); exact (Kd.R_reads' HO474.out).2.1; exact ca_ ((Kd.C_below HRtab.out HB.out)); rintro e w27 ⟨v477, rfl, ho0, hb⟩; refine ⟨_, rfl, ?_⟩; replace HO454 := Aside0.mk (Kd.V_below (vV_ HO454.out) hb); replace HO466 := Aside0.mk (Kd.V_below (vV_ HO466.out) hb); have HO478 := Aside0.mk (Kd.V_lower (Kd.V_mono (ok' := fun k_ => some k_ ≠ (.slice Ao18 y460.length co18 : Value).ownBlock ∧ some k_ ≠ (.slice Ao26 y472.length co26 : Value).ownBlock ∧ k_ ≠ gb459 ∧ k_ ≠ gb471) ho0 (fun k_ hk_ => ⟨(Kd.fresh' (Kd.R_lt (vR_ HO462.out)) k_ hk_), (Kd.fresh' (Kd.R_lt (vR_ HO474.out)) k_ hk_), (Kd.freshB (bk_ BK459.out) k_ hk_), (Kd.freshB (bk_ BK471.out) k_ hk_)⟩)) (below_size bel_)); replace HO462 := Aside0.mk (Kd.R_below (vR_ HO462.out) hb); replace HO474 := Aside0.mk (Kd.R_below (vR_ HO474.out) hb); replace BK459 := Aside0.mk (blk_below (bk_ BK459.out) hb); replace BK471 := Aside0.mk (blk_below (bk_ BK471.out) hb); replace HB := Aside0.mk (below_step bel_ hb); clear hb ho0) | ((with_reducible refine gate_dst (N := 5) rfl ?_); (try (refine gate_guard (by rfl) ?_; dsimp only)); refine bxe_ (N := 5) (cs := #[.int .i64 0, .slice none 0 0, .int .i64 0, .int .i64 0, .int .i64 0]) (t := 58) ?_; intro gb483 hg w28 hbox hb; replace HO454 := Aside0.mk (Kd.V_below (Kd.V_elderB (vV_ HO454.out) gb483 (Nat.le_of_eq hg.symm)) hb); replace HO462 := Aside0.mk (Kd.R_below (vR_ HO462.out) hb); replace HO466 := Aside0.mk (Kd.V_below (Kd.V_elderB (vV_ HO466.out) gb483 (Nat.le_of_eq hg.symm)) hb); replace HO474 := Aside0.mk (Kd.R_below (vR_ HO474.out) hb); replace HO478 := Aside0.mk (Kd.V_below (Kd.V_elderB (vV_ HO478.out) gb483 (Nat.le_of_eq hg.symm)) hb); have BK483 := Aside0.mk (hbox); have GW483 := Aside0.mk (by rw [hg]; exact (below_size bel_) : w.heap.size ≤ gb483); have GE483 := GW483; replace HB := Aside0.mk (below_step bel_ hb); have NB459_483 := Aside0.mk ((by rw [hg]; exact Nat.ne_of_lt (blk_lt (bk_ BK459.out)) : gb459 ≠ gb483)); have NB483_459 := Aside0.mk ((by rw [hg]; exact Nat.ne_of_gt (blk_lt (bk_ BK459.out)) : gb483 ≠ gb459)); replace BK459 := Aside0.mk (blk_below (bk_ BK459.out) hb); have NB471_483 := Aside0.mk ((by rw [hg]; exact Nat.ne_of_lt (blk_lt (bk_ BK471.out)) : gb471 ≠ gb483)); have NB483_471 := Aside0.mk ((by rw [hg]; exact Nat.ne_of_gt (blk_lt (bk_ BK471.out)) : gb483 ≠ gb471)); replace BK471 := Aside0.mk (blk_below (bk_ BK471.out) hb); clear hb hbox hg; have hnb29 := NB483_459.out; have hnc29 := NB459_483.out; have hnb30 := NB483_471.out; have hnc30 := NB471_483.out; obtain ⟨_, _, _, _, _, _, _, _, _, _⟩ := cel5_ BK483.out; obtain ⟨Ao32, co32, eo32⟩ := Kd.V_slice HO478.out; subst eo32) | ((with_reducible refine gate_dst (N := 26) rfl ?_); (try (refine gate_guard (by rfl) ?_; dsimp only)); refine Kd.R_lit (Kd.int .i64) _ 3 ?hg (N := 26) ?hd (xs := ([0, 1] : List Int)) (inner := [.int .i64 0, .int .i64 1]) (ok := fun _ => True) (okp := fun _ => True) ?hr ?hp (fun _ hk => hk) trivial (Below.refl _ _) (Nat.le_refl _) (by simp) ?_; (case hd => rfl); (case hg => rfl); (case hr => first | (go_simp; done) | (go_simp; rfl)); (case hp => exact (Reps.one (show Kd.M (Kd.int .i64) _ _ _ 0 [.int .i64 0] from rfl) (Reps.one (show Kd.M (Kd.int .i64) _ _ _ 1 [.int .i64 1] from rfl) (Reps.none _ _)))); intro v485 w33 ho34 hb hg_ hnew_; clear hg_ hnew_; (first | rw [← Ny484.out] at ho34 | (simp only [Int.reduceToNat] at ho34; rw [← Ny484.out] at ho34)); replace HO454 := Aside0.mk (Kd.V_elder' (by refine vV_ ?_; exact (Kd.V_mono (fV_ (fV_ (fV_ (fV_ (fV_ (Kd.V_mono HO454.out (fun k_ hk => (⟨hk, hk.2⟩ : _ ∧ k_ ≠ gb483)))))))) (fun _ h_ => h_.1))) (Kd.R_base ho34) hb); replace HO466 := Aside0.mk (Kd.V_elder' (by refine vV_ ?_; exact (Kd.V_mono (fV_ (fV_ (fV_ (fV_ (fV_ (Kd.V_mono HO466.out (fun k_ hk => (⟨hk, hk.2⟩ : _ ∧ k_ ≠ gb483)))))))) (fun _ h_ => h_.1))) (Kd.R_base ho34) hb); replace HO478 := Aside0.mk (Kd.V_elder' (by refine vV_ ?_; exact (Kd.V_mono (fV_ (fV_ (fV_ (fV_ (fV_ (Kd.V_mono HO478.out (fun k_ hk => (⟨hk, hk.2⟩ : _ ∧ k_ ≠ gb483)))))))) (fun _ h_ => h_.1))) (Kd.R_base ho34) hb); have HO486 := Aside0.mk (Kd.R_lower (Kd.R_new' (Kd.R_new' ho34 (Kd.R_lt (by refine vR_ ?_; exact (Kd.R_mono (fR_ (fR_ (fR_ (fR_ (fR_ (Kd.R_types HO462.out BK483.out (by decide))))))) (fun _ h_ => h_.1))))) (Kd.R_lt (by refine vR_ ?_; exact (Kd.R_mono (fR_ (fR_ (fR_ (fR_ (fR_ (Kd.R_types HO474.out BK483.out (by decide))))))) (fun _ h_ => h_.1))))) (below_size bel_)); replace HO462 := Aside0.mk (Kd.R_elder' (by refine vR_ ?_; exact (Kd.R_mono (fR_ (fR_ (fR_ (fR_ (fR_ (Kd.R_types HO462.out BK483.out (by decide))))))) (fun _ h_ => h_.1))) (Kd.R_base ho34) hb); replace HO474 := Aside0.mk (Kd.R_elder' (by refine vR_ ?_; exact (Kd.R_mono (fR_ (fR_ (fR_ (fR_ (fR_ (Kd.R_types HO474.out BK483.out (by decide))))))) (fun _ h_ => h_.1))) (Kd.R_base ho34) hb); replace BK459 := Aside0.mk (blk_below (g := gb459) (o := .cells #[.int .i64 t451, .slice Ao15 t452.length co15, .int .i64 t455, .int .i64 t456, .int .i64 t457] 58 (0, 0)) (by refine bk_ ?_; refine blk_far ?_ NB459_483.out _; refine bk_ ?_; refine blk_far ?_ NB459_483.out _; refine bk_ ?_; refine blk_far ?_ NB459_483.out _; refine bk_ ?_; refine blk_far ?_ NB459_483.out _; refine bk_ ?_; refine blk_far ?_ NB459_483.out _; refine bk_ ?_; exact BK459.out) hb); replace BK471 := Aside0.mk (blk_below (g := gb471) (o := .cells #[.int .i64 t463, .slice Ao23 t464.length co23, .int .i64 t467, .int .i64 t468, .int .i64 t469] 58 (0, 0)) (by refine bk_ ?_; refine blk_far ?_ NB471_483.out _; refine bk_ ?_; refine blk_far ?_ NB471_483.out _; refine bk_ ?_; refine blk_far ?_ NB471_483.out _; refine bk_ ?_; refine blk_far ?_ NB471_483.out _; refine bk_ ?_; refine blk_far ?_ NB471_483.out _; refine bk_ ?_; exact BK471.out) hb); replace BK483 := Aside0.mk (blk_below (g := gb483) (o := .cells #[.int .i64 t475, .slice Ao32 t476.length co32, .int .i64 t479, .int .i64 t480, .int .i64 t481] 58 (0, 0)) (by refine bk_ ?_; refine blk_put (cs := #[.int .i64 t475, .slice Ao32 t476.length co32, .int .i64 t479, .int .i64 t480, .int .i64 0]) ?_ 4 _ rfl; refine bk_ ?_; refine blk_put (cs := #[.int .i64 t475, .slice Ao32 t476.length co32, .int .i64 t479, .int .i64 0, .int .i64 0]) ?_ 3 _ rfl; refine bk_ ?_; refine blk_put (cs := #[.int .i64 t475, .slice Ao32 t476.length co32, .int .i64 0, .int .i64 0, .int .i64 0]) ?_ 2 _ rfl; refine bk_ ?_; refine blk_put (cs := #[.int .i64 t475, .slice none 0 0, .int .i64 0, .int .i64 0, .int .i64 0]) ?_ 1 _ rfl; refine bk_ ?_; refine blk_put (cs := #[.int .i64 0, .slice none 0 0, .int .i64 0, .int .i64 0, .int .i64 0]) ?_ 0 _ rfl; refine bk_ ?_; exact BK483.out) hb); replace HB := Aside0.mk (below_step bel_ hb); clear hb ho34) | ((with_reducible refine gate_dst (N := 27) rfl ?_); (try (refine gate_guard (by rfl) ?_; dsimp only)); refine Kd.R_lit (Kd.int .i64) _ 3 ?hg (N := 27) ?hd (xs := ([2] : List Int)) (inner := [.int .i64 2]) (ok := fun _ => True) (okp := fun _ => True) ?hr ?hp (fun _ hk => hk) trivial (Below.refl _ _) (Nat.le_refl _) (by simp) ?_; (case hd => rfl); (case hg => rfl); (case hr => first | (go_simp; done) | (go_simp; rfl)); (case hp => exact (Reps.one (show Kd.M (Kd.int .i64) _ _ _ 2 [.int .i64 2] from rfl) (Reps.none _ _))); intro v488 w35 ho36 hb hg_ hnew_; clear hg_ hnew_; (first | rw [← Ny487.out] at ho36 | (simp only [Int.reduceToNat] at ho36; rw [← Ny487.out] at ho36)); replace HO454 := Aside0.mk (Kd.V_elder' (vV_ HO454.out) (Kd.R_base ho36) hb); replace HO466 := Aside0.mk (Kd.V_elder' (vV_ HO466.out) (Kd.R_base ho36) hb); replace HO478 := Aside0.mk (Kd.V_elder' (vV_ HO478.out) (Kd.R_base ho36) hb); have HO489 := Aside0.mk (Kd.R_lower (Kd.R_new' (Kd.R_new' (Kd.R_new' ho36 (Kd.R_lt (vR_ HO462.out))) (Kd.R_lt (vR_ HO474.out))) (Kd.R_lt (vR_ HO486.out))) (below_size bel_)); replace HO462 := Aside0.mk (Kd.R_elder' (vR_ HO462.out) (Kd.R_base ho36) hb); replace HO474 := Aside0.mk (Kd.R_elder' (vR_ HO474.out) (Kd.R_base ho36) hb); replace HO486 := Aside0.mk (Kd.R_elder' (vR_ HO486.out) (Kd.R_base ho36) hb); replace BK459 := Aside0.mk (blk_below (bk_ BK459.out) hb); replace BK471 := Aside0.mk (blk_below (bk_ BK471.out) hb); replace BK483 := Aside0.mk (blk_below (bk_ BK483.out) hb); replace HB := Aside0.mk (below_step bel_ hb); clear hb ho36; obtain ⟨Ao37, co37, eo37⟩ := Kd.R_slice HO489.out; subst eo37; obtain ⟨Ao38, co38, eo38⟩ := Kd.R_slice HO486.out; subst eo38; obtain ⟨_, _, _, _, _, _, _, _, _, _⟩ := cel5_ BK459.out; obtain ⟨_, _, _, _, _, _, _, _, _, _⟩ := cel5_ BK471.out; obtain ⟨_, _, _, _, _, _, _, _, _, _⟩ := cel5_ BK483.out) | ((with_reducible refine gate_dst (N := 32) rfl ?_); (try (refine gate_guard (by rfl) ?_; dsimp only)); refine Kd.N_lit k58 _ 58 ?hg (N' := 32) ?hd (xs := ([(⟨t451, t452, t455, t456, t457⟩ : S58), (⟨t463, t464, t467, t468, t469⟩ : S58), (⟨t475, t476, t479, t480, t481⟩ : S58)] : List (S58))) (inner := [.int .i64 t451, .slice Ao15 t452.length co15, .int .i64 t455, .int .i64 t456, .int .i64 t457, .int .i64 t463, .slice Ao23 t464.length co23, .int .i64 t467, .int .i64 t468, .int .i64 t469, .int .i64 t475, .slice Ao32 t476.length co32, .int .i64 t479, .int .i64 t480, .int .i64 t481]) (ok := (fun k_ => some k_ ≠ (.slice Ao18 y460.length co18 : Value).ownBlock ∧ some k_ ≠ (.slice Ao26 y472.length co26 : Value).ownBlock ∧ some k_ ≠ (.slice Ao38 y484.length co38 : Value).ownBlock ∧ some k_ ≠ (.slice Ao37 y487.length co37 : Value).ownBlock ∧ k_ ≠ gb459 ∧ k_ ≠ gb471 ∧ k_ ≠ gb483)) (okp := (fun k_ => some k_ ≠ (.slice Ao18 y460.length co18 : Value).ownBlock ∧ some k_ ≠ (.slice Ao26 y472.length co26 : Value).ownBlock ∧ some k_ ≠ (.slice Ao38 y484.length co38 : Value).ownBlock ∧ some k_ ≠ (.slice Ao37 y487.length co37 : Value).ownBlock ∧ k_ ≠ gb459 ∧ k_ ≠ gb471 ∧ k_ ≠ gb483)) ?hr ?hp (fun _ hk => hk) ((show ∀ k_, w35.heap.size ≤ k_ → (fun k_ => some k_ ≠ (.slice Ao18 y460.length co18 : Value).ownBlock ∧ some k_ ≠ (.slice Ao26 y472.length co26 : Value).ownBlock ∧ some k_ ≠ (.slice Ao38 y484.length co38 : Value).ownBlock ∧ some k_ ≠ (.slice Ao37 y487.length co37 : Value).ownBlock ∧ k_ ≠ gb459 ∧ k_ ≠ gb471 ∧ k_ ≠ gb483) k_ from fun k_ hk => ⟨Kd.fresh' (Kd.R_lt (vR_ HO462.out)) k_ hk, Kd.fresh' (Kd.R_lt (vR_ HO474.out)) k_ hk, Kd.fresh' (Kd.R_lt (vR_ HO486.out)) k_ hk, Kd.fresh' (Kd.R_lt (vR_ HO489.out)) k_ hk, Kd.freshB (bk_ BK459.out) k_ hk, Kd.freshB (bk_ BK471.out) k_ hk, Kd.freshB (bk_ BK483.out) k_ hk⟩) _ (Nat.le_refl _)) (Below.refl _ _) (Nat.le_refl _) (by simp) ?_; (case hd => rfl); (case hg => rfl); (case hr => first | (go_simp; done) | (go_simp; rfl)); (case hp => exact (Reps.c5 (show Kd.FK k58 _ _ (⟨t451, t452, t455, t456, t457⟩ : S58) [.int .i64 t451, .slice Ao15 t452.length co15, .int .i64 t455, .int .i64 t456, .int .i64 t457] from (k58_mkF _ _ (⟨t451, t452, t455, t456, t457⟩ : S58) (Kd.V_reads' (Kd.V_mono (ok' := (fun k_ => some k_ ≠ (.slice Ao18 y460.length co18 : Value).ownBlock ∧ some k_ ≠ (.slice Ao26 y472.length co26 : Value).ownBlock ∧ some k_ ≠ (.slice Ao38 y484.length co38 : Value).ownBlock ∧ some k_ ≠ (.slice Ao37 y487.length co37 : Value).ownBlock ∧ k_ ≠ gb459 ∧ k_ ≠ gb471 ∧ k_ ≠ gb483)) (HO454.out) (fun k_ hk => ⟨hk.1.1.1.1.1.2, ⟨hk.1.1.1.2, ⟨hk.1.2, ⟨hk.2, ⟨hk.1.1.1.1.1.1.2, ⟨hk.1.1.1.1.2, hk.1.1.2⟩⟩⟩⟩⟩⟩))).2.1 (Kd.V_F (Kd.V_mono (ok' := (fun k_ => some k_ ≠ (.slice Ao18 y460.length co18 : Value).ownBlock ∧ some k_ ≠ (.slice Ao26 y472.length co26 : Value).ownBlock ∧ some k_ ≠ (.slice Ao38 y484.length co38 : Value).ownBlock ∧ some k_ ≠ (.slice Ao37 y487.length co37 : Value).ownBlock ∧ k_ ≠ gb459 ∧ k_ ≠ gb471 ∧ k_ ≠ gb483)) (HO454.out) (fun k_ hk => ⟨hk.1.1.1.1.1.2, ⟨hk.1.1.1.2, ⟨hk.1.2, ⟨hk.2, ⟨hk.1.1.1.1.1.1.2, ⟨hk.1.1.1.1.2, hk.1.1.2⟩⟩⟩⟩⟩⟩))))) (Reps.c5 (show Kd.FK k58 _ _ (⟨t463, t464, t467, t468, t469⟩ : S58) [.int .i64 t463, .slice Ao23 t464.length co23, .int .i64 t467, .int .i64 t468, .int .i64 t469] from (k58_mkF _ _ (⟨t463, t464, t467, t468, t469⟩ : S58) (Kd.V_reads' (Kd.V_mono (ok' := (fun k_ => some k_ ≠ (.slice Ao18 y460.length co18 : Value).ownBlock ∧ some k_ ≠ (.slice Ao26 y472.length co26 : Value).ownBlock ∧ some k_ ≠ (.slice Ao38 y484.length co38 : Value).ownBlock ∧ some k_ ≠ (.slice Ao37 y487.length co37 : Value).ownBlock ∧ k_ ≠ gb459 ∧ k_ ≠ gb471 ∧ k_ ≠ gb483)) (HO466.out) (fun k_ hk => ⟨hk.1.1.1.1.1.1, ⟨hk.1.1.1.2, ⟨hk.1.2, ⟨hk.2, ⟨hk.1.1.1.1.1.2, ⟨hk.1.1.1.1.2, hk.1.1.2⟩⟩⟩⟩⟩⟩))).2.1 (Kd.V_F (Kd.V_mono (ok' := (fun k_ => some k_ ≠ (.slice Ao18 y460.length co18 : Value).ownBlock ∧ some k_ ≠ (.slice Ao26 y472.length co26 : Value).ownBlock ∧ some k_ ≠ (.slice Ao38 y484.length co38 : Value).ownBlock ∧ some k_ ≠ (.slice Ao37 y487.length co37 : Value).ownBlock ∧ k_ ≠ gb459 ∧ k_ ≠ gb471 ∧ k_ ≠ gb483)) (HO466.out) (fun k_ hk => ⟨hk.1.1.1.1.1.1, ⟨hk.1.1.1.2, ⟨hk.1.2, ⟨hk.2, ⟨hk.1.1.1.1.1.2, ⟨hk.1.1.1.1.2, hk.1.1.2⟩⟩⟩⟩⟩⟩))))) (Reps.c5 (show Kd.FK k58 _ _ (⟨t475, t476, t479, t480, t481⟩ : S58) [.int .i64 t475, .slice Ao32 t476.length co32, .int .i64 t479, .int .i64 t480, .int .i64 t481] from (k58_mkF _ _ (⟨t475, t476, t479, t480, t481⟩ : S58) (Kd.V_reads' (Kd.V_mono (ok' := (fun k_ => some k_ ≠ (.slice Ao18 y460.length co18 : Value).ownBlock ∧ some k_ ≠ (.slice Ao26 y472.length co26 : Value).ownBlock ∧ some k_ ≠ (.slice Ao38 y484.length co38 : Value).ownBlock ∧ some k_ ≠ (.slice Ao37 y487.length co37 : Value).ownBlock ∧ k_ ≠ gb459 ∧ k_ ≠ gb471 ∧ k_ ≠ gb483)) (HO478.out) (fun k_ hk => ⟨hk.1.1.1.1, ⟨hk.1.1.1.2.1, ⟨hk.1.2, ⟨hk.2, ⟨hk.1.1.1.2.2.1, ⟨hk.1.1.1.2.2.2, hk.1.1.2⟩⟩⟩⟩⟩⟩))).2.1 (Kd.V_F (Kd.V_mono (ok' := (fun k_ => some k_ ≠ (.slice Ao18 y460.length co18 : Value).ownBlock ∧ some k_ ≠ (.slice Ao26 y472.length co26 : Value).ownBlock ∧ some k_ ≠ (.slice Ao38 y484.length co38 : Value).ownBlock ∧ some k_ ≠ (.slice Ao37 y487.length co37 : Value).ownBlock ∧ k_ ≠ gb459 ∧ k_ ≠ gb471 ∧ k_ ≠ gb483)) (HO478.out) (fun k_ hk => ⟨hk.1.1.1.1, ⟨hk.1.1.1.2.1, ⟨hk.1.2, ⟨hk.2, ⟨hk.1.1.1.2.2.1, ⟨hk.1.1.1.2.2.2, hk.1.1.2⟩⟩⟩⟩⟩⟩))))) (Reps.none _ _))))); intro v491 w42 ho43 hb hg_ hnew_; clear hg_ hnew_; (first | rw [← Ny490.out] at ho43 | (simp only [Int.reduceToNat] at ho43; rw [← Ny490.out] at ho43)); replace HO462 := Aside0.mk (Kd.R_below (vR_ HO462.out) hb); replace HO466 := Aside0.mk (Kd.V_elder' (vV_ HO466.out) (Kd.N_base ho43) hb); replace HO474 := Aside0.mk (Kd.R_below (vR_ HO474.out) hb); replace HO478 := Aside0.mk (Kd.V_elder' (vV_ HO478.out) (Kd.N_base ho43) hb); replace HO486 := Aside0.mk (Kd.R_below (vR_ HO486.out) hb); replace HO489 := Aside0.mk (Kd.R_below (vR_ HO489.out) hb); have HO492 := Aside0.mk (Kd.N_lower ho43 (below_size bel_)); replace BK459 := Aside0.mk (blk_below (bk_ BK459.out) hb); replace BK471 := Aside0.mk (blk_below (bk_ BK471.out) hb); replace BK483 := Aside0.mk (blk_below (bk_ BK483.out) hb); replace HB := Aside0.mk (below_step bel_ hb); clear hb ho43; obtain ⟨Ao44, co44, eo44⟩ := Kd.N_slice HO492.out; subst eo44) | ((with_reducible refine gate_callee (f := 9) rfl ?_); refine goesL_ (some 33) rfl rfl Tryz.func9 (by kernel_rfl) rfl #[.agg #[.int .i64 12, .slice Ao38 y484.length co38, .slice Ao37 y487.length co37, .slice none 0 0, .slice none 0 0, .slice none 0 0, .int .i64 0, .slice none 0 0], .slice Ao44 y490.length co44] rfl ar_ ?_; (refine (clause_Filter.calls k 12 _ _ y484 _ _ y487 _ _ ([] : List Int) _ _ ([] : List Int) _ _ ([] : List Int) 0 _ _ ([] : List (List Int)) (fun k_ => (some k_ ≠ (.slice Ao18 y460.length co18 : Value).ownBlock ∧ (some k_ ≠ (.slice Ao26 y472.length co26 : Value).ownBlock ∧ (some k_ ≠ (.slice Ao38 y484.length co38 : Value).ownBlock ∧ (some k_ ≠ (.slice Ao37 y487.length co37 : Value).ownBlock ∧ (k_ ≠ gb459 ∧ (k_ ≠ gb471 ∧ k_ ≠ gb483))))))) _ _ y490 t493 true _ ?side1 ?side2 ?side3 ?side4 ?side5 ?side6 ?side7 ?side8 ?side9 ?side10 ?side11 ?side12 ?side13 ?side14 A4.out).mono ?_); (case side1 => exact ca_ ((Kd.R_reads' HO486.out).2.2)); (case side2 => exact (Kd.R_reads' HO486.out).2.1); (case side3 => exact ca_ ((Kd.R_reads' HO489.out).2.2)); (case side4 => exact (Kd.R_reads' HO489.out).2.1); (case side5 => exact Kd.C_nil _ _); (case side6 => exact Nat.le_refl _); (case side7 => exact Kd.C_nil _ _); (case side8 => exact Nat.le_refl _); (case side9 => exact Kd.C_nil _ _); (case side10 => exact Nat.le_refl _); (case side11 => exact Kd.C_nil _ _); (case side12 => exact Nat.le_refl _); (case side13 => exact Kd.N_V (HO492.out)); (case side14 => exact ca_ ((Kd.C_below HRtab.out HB.out))); rintro e w45 ⟨v494, rfl, ho0, hb⟩; refine ⟨_, rfl, ?_⟩; replace HO466 := Aside0.mk (Kd.V_elder' (vV_ HO466.out) (Kd.N_base ho0) hb); replace HO478 := Aside0.mk (Kd.V_elder' (vV_ HO478.out) (Kd.N_base ho0) hb); replace HO492 := Aside0.mk (Kd.N_elder' (vN_ HO492.out) (Kd.N_base ho0) hb); have HO495 := Aside0.mk (Kd.N_lower (Kd.N_mono (ok' := fun k_ => some k_ ≠ (.slice Ao18 y460.length co18 : Value).ownBlock ∧ some k_ ≠ (.slice Ao26 y472.length co26 : Value).ownBlock ∧ some k_ ≠ (.slice Ao38 y484.length co38 : Value).ownBlock ∧ some k_ ≠ (.slice Ao37 y487.length co37 : Value).ownBlock ∧ k_ ≠ gb459 ∧ k_ ≠ gb471 ∧ k_ ≠ gb483) ho0 (fun k_ hk_ => ⟨Or.elim hk_ (fun hs_ => hs_.1) (fun hn_ => (Kd.fresh' (Kd.R_lt (vR_ HO462.out)) k_ hn_)), Or.elim hk_ (fun hs_ => hs_.2.1) (fun hn_ => (Kd.fresh' (Kd.R_lt (vR_ HO474.out)) k_ hn_)), Or.elim hk_ (fun hs_ => hs_.2.2.1) (fun hn_ => (Kd.fresh' (Kd.R_lt (vR_ HO486.out)) k_ hn_)), Or.elim hk_ (fun hs_ => hs_.2.2.2.1) (fun hn_ => (Kd.fresh' (Kd.R_lt (vR_ HO489.out)) k_ hn_)), Or.elim hk_ (fun hs_ => hs_.2.2.2.2.1) (fun hn_ => (Kd.freshB (bk_ BK459.out) k_ hn_)), Or.elim hk_ (fun hs_ => hs_.2.2.2.2.2.1) (fun hn_ => (Kd.freshB (bk_ BK471.out) k_ hn_)), Or.elim hk_ (fun hs_ => hs_.2.2.2.2.2.2) (fun hn_ => (Kd.freshB (bk_ BK483.out) k_ hn_))⟩)) (below_size bel_)); replace HO462 := Aside0.mk (Kd.R_below (vR_ HO462.out) hb); replace HO474 := Aside0.mk (Kd.R_below (vR_ HO474.out) hb); replace HO486 := Aside0.mk (Kd.R_below (vR_ HO486.out) hb); replace HO489 := Aside0.mk (Kd.R_below (vR_ HO489.out) hb); replace BK459 := Aside0.mk (blk_below (bk_ BK459.out) hb); replace BK471 := Aside0.mk (blk_below (bk_ BK471.out) hb); replace BK483 := Aside0.mk (blk_below (bk_ BK483.out) hb); replace HB := Aside0.mk (below_step bel_ hb); clear hb ho0) | ((with_reducible refine gate_dst (N := 37) rfl ?_); (try (refine gate_guard (by rfl) ?_; dsimp only)); refine Kd.R_lit (Kd.int .i64) _ 3 ?hg (N := 37) ?hd (xs := ([1] : List Int)) (inner := [.int .i64 1]) (ok := fun _ => True) (okp := fun _ => True) ?hr ?hp (fun _ hk => hk) trivial (Below.refl _ _) (Nat.le_refl _) (by simp) ?_; (case hd => rfl); (case hg => rfl); (case hr => first | (go_simp; done) | (go_simp; rfl)); (case hp => exact (Reps.one (show Kd.M (Kd.int .i64) _ _ _ 1 [.int .i64 1] from rfl) (Reps.none _ _))); intro v498 w46 ho47 hb hg_ hnew_; clear hg_ hnew_; (first | rw [← Ny497.out] at ho47 | (simp only [Int.reduceToNat] at ho47; rw [← Ny497.out] at ho47)); replace HO466 := Aside0.mk (Kd.V_elder' (vV_ HO466.out) (Kd.R_base ho47) hb); replace HO478 := Aside0.mk (Kd.V_elder' (vV_ HO478.out) (Kd.R_base ho47) hb); replace HO492 := Aside0.mk (Kd.N_elder' (vN_ HO492.out) (Kd.R_base ho47) hb); replace HO495 := Aside0.mk (Kd.N_elder' (vN_ HO495.out) (Kd.R_base ho47) hb); have HO499 := Aside0.mk (Kd.R_lower (Kd.R_new' (Kd.R_new' (Kd.R_new' (Kd.R_new' ho47 (Kd.R_lt (vR_ HO462.out))) (Kd.R_lt (vR_ HO474.out))) (Kd.R_lt (vR_ HO486.out))) (Kd.R_lt (vR_ HO489.out))) (below_size bel_)); replace HO462 := Aside0.mk (Kd.R_elder' (vR_ HO462.out) (Kd.R_base ho47) hb); replace HO474 := Aside0.mk (Kd.R_elder' (vR_ HO474.out) (Kd.R_base ho47) hb); replace HO486 := Aside0.mk (Kd.R_elder' (vR_ HO486.out) (Kd.R_base ho47) hb); replace HO489 := Aside0.mk (Kd.R_elder' (vR_ HO489.out) (Kd.R_base ho47) hb); replace BK459 := Aside0.mk (blk_below (bk_ BK459.out) hb); replace BK471 := Aside0.mk (blk_below (bk_ BK471.out) hb); replace BK483 := Aside0.mk (blk_below (bk_ BK483.out) hb); replace HB := Aside0.mk (below_step bel_ hb); clear hb ho47) | ((with_reducible refine gate_dst (N := 38) rfl ?_); (try (refine gate_guard (by rfl) ?_; dsimp only)); refine Kd.R_lit (Kd.int .i64) _ 3 ?hg (N := 38) ?hd (xs := ([2] : List Int)) (inner := [.int .i64 2]) (ok := fun _ => True) (okp := fun _ => True) ?hr ?hp (fun _ hk => hk) trivial (Below.refl _ _) (Nat.le_refl _) (by simp) ?_; (case hd => rfl); (case hg => rfl); (case hr => first | (go_simp; done) | (go_simp; rfl)); (case hp => exact (Reps.one (show Kd.M (Kd.int .i64) _ _ _ 2 [.int .i64 2] from rfl) (Reps.none _ _))); intro v501 w48 ho49 hb hg_ hnew_; clear hg_ hnew_; (first | rw [← Ny500.out] at ho49 | (simp only [Int.reduceToNat] at ho49; rw [← Ny500.out] at ho49)); replace HO466 := Aside0.mk (Kd.V_elder' (vV_ HO466.out) (Kd.R_base ho49) hb); replace HO478 := Aside0.mk (Kd.V_elder' (vV_ HO478.out) (Kd.R_base ho49) hb); replace HO492 := Aside0.mk (Kd.N_elder' (vN_ HO492.out) (Kd.R_base ho49) hb); replace HO495 := Aside0.mk (Kd.N_elder' (vN_ HO495.out) (Kd.R_base ho49) hb); have HO502 := Aside0.mk (Kd.R_lower (Kd.R_new' (Kd.R_new' (Kd.R_new' (Kd.R_new' (Kd.R_new' ho49 (Kd.R_lt (vR_ HO462.out))) (Kd.R_lt (vR_ HO474.out))) (Kd.R_lt (vR_ HO486.out))) (Kd.R_lt (vR_ HO489.out))) (Kd.R_lt (vR_ HO499.out))) (below_size bel_)); replace HO462 := Aside0.mk (Kd.R_elder' (vR_ HO462.out) (Kd.R_base ho49) hb); replace HO474 := Aside0.mk (Kd.R_elder' (vR_ HO474.out) (Kd.R_base ho49) hb); replace HO486 := Aside0.mk (Kd.R_elder' (vR_ HO486.out) (Kd.R_base ho49) hb); replace HO489 := Aside0.mk (Kd.R_elder' (vR_ HO489.out) (Kd.R_base ho49) hb); replace HO499 := Aside0.mk (Kd.R_elder' (vR_ HO499.out) (Kd.R_base ho49) hb); replace BK459 := Aside0.mk (blk_below (bk_ BK459.out) hb); replace BK471 := Aside0.mk (blk_below (bk_ BK471.out) hb); replace BK483 := Aside0.mk (blk_below (bk_ BK483.out) hb); replace HB := Aside0.mk (below_step bel_ hb); clear hb ho49; obtain ⟨Ao50, co50, eo50⟩ := Kd.R_slice HO502.out; subst eo50; obtain ⟨Ao51, co51, eo51⟩ := Kd.R_slice HO499.out; subst eo51; obtain ⟨_, _, _, _, _, _, _, _, _, _⟩ := cel5_ BK471.out; obtain ⟨_, _, _, _, _, _, _, _, _, _⟩ := cel5_ BK483.out) | ((with_reducible refine gate_dst (N := 42) rfl ?_); (try (refine gate_guard (by rfl) ?_; dsimp only)); refine Kd.N_lit k58 _ 58 ?hg (N' := 42) ?hd (xs := ([(⟨t463, t464, t467, t468, t469⟩ : S58), (⟨t475, t476, t479, t480, t481⟩ : S58)] : List (S58))) (inner := [.int .i64 t463, .slice Ao23 t464.length co23, .int .i64 t467, .int .i64 t468, .int .i64 t469, .int .i64 t475, .slice Ao32 t476.length co32, .int .i64 t479, .int .i64 t480, .int .i64 t481]) (ok := (fun k_ => some k_ ≠ (.slice Ao18 y460.length co18 : Value).ownBlock ∧ some k_ ≠ (.slice Ao26 y472.length co26 : Value).ownBlock ∧ some k_ ≠ (.slice Ao38 y484.length co38 : Value).ownBlock ∧ some k_ ≠ (.slice Ao37 y487.length co37 : Value).ownBlock ∧ some k_ ≠ (.slice Ao44 y490.length co44 : Value).ownBlock ∧ some k_ ≠ (v494 : Value).ownBlock ∧ some k_ ≠ (.slice Ao51 y497.length co51 : Value).ownBlock ∧ some k_ ≠ (.slice Ao50 y500.length co50 : Value).ownBlock ∧ k_ ≠ gb459 ∧ k_ ≠ gb471 ∧ k_ ≠ gb483)) (okp := (fun k_ => some k_ ≠ (.slice Ao18 y460.length co18 : Value).ownBlock ∧ some k_ ≠ (.slice Ao26 y472.length co26 : Value).ownBlock ∧ some k_ ≠ (.slice Ao38 y484.length co38 : Value).ownBlock ∧ some k_ ≠ (.slice Ao37 y487.length co37 : Value).ownBlock ∧ some k_ ≠ (.slice Ao44 y490.length co44 : Value).ownBlock ∧ some k_ ≠ (v494 : Value).ownBlock ∧ some k_ ≠ (.slice Ao51 y497.length co51 : Value).ownBlock ∧ some k_ ≠ (.slice Ao50 y500.length co50 : Value).ownBlock ∧ k_ ≠ gb459 ∧ k_ ≠ gb471 ∧ k_ ≠ gb483)) ?hr ?hp (fun _ hk => hk) ((show ∀ k_, w48.heap.size ≤ k_ → (fun k_ => some k_ ≠ (.slice Ao18 y460.length co18 : Value).ownBlock ∧ some k_ ≠ (.slice Ao26 y472.length co26 : Value).ownBlock ∧ some k_ ≠ (.slice Ao38 y484.length co38 : Value).ownBlock ∧ some k_ ≠ (.slice Ao37 y487.length co37 : Value).ownBlock ∧ some k_ ≠ (.slice Ao44 y490.length co44 : Value).ownBlock ∧ some k_ ≠ (v494 : Value).ownBlock ∧ some k_ ≠ (.slice Ao51 y497.length co51 : Value).ownBlock ∧ some k_ ≠ (.slice Ao50 y500.length co50 : Value).ownBlock ∧ k_ ≠ gb459 ∧ k_ ≠ gb471 ∧ k_ ≠ gb483) k_ from fun k_ hk => ⟨Kd.fresh' (Kd.R_lt (vR_ HO462.out)) k_ hk, Kd.fresh' (Kd.R_lt (vR_ HO474.out)) k_ hk, Kd.fresh' (Kd.R_lt (vR_ HO486.out)) k_ hk, Kd.fresh' (Kd.R_lt (vR_ HO489.out)) k_ hk, Kd.fresh' (Kd.N_lt (vN_ HO492.out)) k_ hk, Kd.fresh' (Kd.N_lt (vN_ HO495.out)) k_ hk, Kd.fresh' (Kd.R_lt (vR_ HO499.out)) k_ hk, Kd.fresh' (Kd.R_lt (vR_ HO502.out)) k_ hk, Kd.freshB (bk_ BK459.out) k_ hk, Kd.freshB (bk_ BK471.out) k_ hk, Kd.freshB (bk_ BK483.out) k_ hk⟩) _ (Nat.le_refl _)) (Below.refl _ _) (Nat.le_refl _) (by simp) ?_; (case hd => rfl); (case hg => rfl); (case hr => first | (go_simp; done) | (go_simp; rfl)); (case hp => exact (Reps.c5 (show Kd.FK k58 _ _ (⟨t463, t464, t467, t468, t469⟩ : S58) [.int .i64 t463, .slice Ao23 t464.length co23, .int .i64 t467, .int .i64 t468, .int .i64 t469] from (k58_mkF _ _ (⟨t463, t464, t467, t468, t469⟩ : S58) (Kd.V_reads' (Kd.V_mono (ok' := (fun k_ => some k_ ≠ (.slice Ao18 y460.length co18 : Value).ownBlock ∧ some k_ ≠ (.slice Ao26 y472.length co26 : Value).ownBlock ∧ some k_ ≠ (.slice Ao38 y484.length co38 : Value).ownBlock ∧ some k_ ≠ (.slice Ao37 y487.length co37 : Value).ownBlock ∧ some k_ ≠ (.slice Ao44 y490.length co44 : Value).ownBlock ∧ some k_ ≠ (v494 : Value).ownBlock ∧ some k_ ≠ (.slice Ao51 y497.length co51 : Value).ownBlock ∧ some k_ ≠ (.slice Ao50 y500.length co50 : Value).ownBlock ∧ k_ ≠ gb459 ∧ k_ ≠ gb471 ∧ k_ ≠ gb483)) (HO466.out) (fun k_ hk => ⟨hk.1.1.1.1.1.1.1.1.1.1, ⟨hk.1.1.1.1.1.1.1.2, ⟨hk.1.1.1.1.1.2, ⟨hk.1.1.1.1.2, ⟨hk.1.1.1.2, ⟨hk.1.1.2, ⟨hk.1.2, ⟨hk.2, ⟨hk.1.1.1.1.1.1.1.1.1.2, ⟨hk.1.1.1.1.1.1.1.1.2, hk.1.1.1.1.1.1.2⟩⟩⟩⟩⟩⟩⟩⟩⟩⟩))).2.1 (Kd.V_F (Kd.V_mono (ok' := (fun k_ => some k_ ≠ (.slice Ao18 y460.length co18 : Value).ownBlock ∧ some k_ ≠ (.slice Ao26 y472.length co26 : Value).ownBlock ∧ some k_ ≠ (.slice Ao38 y484.length co38 : Value).ownBlock ∧ some k_ ≠ (.slice Ao37 y487.length co37 : Value).ownBlock ∧ some k_ ≠ (.slice Ao44 y490.length co44 : Value).ownBlock ∧ some k_ ≠ (v494 : Value).ownBlock ∧ some k_ ≠ (.slice Ao51 y497.length co51 : Value).ownBlock ∧ some k_ ≠ (.slice Ao50 y500.length co50 : Value).ownBlock ∧ k_ ≠ gb459 ∧ k_ ≠ gb471 ∧ k_ ≠ gb483)) (HO466.out) (fun k_ hk => ⟨hk.1.1.1.1.1.1.1.1.1.1, ⟨hk.1.1.1.1.1.1.1.2, ⟨hk.1.1.1.1.1.2, ⟨hk.1.1.1.1.2, ⟨hk.1.1.1.2, ⟨hk.1.1.2, ⟨hk.1.2, ⟨hk.2, ⟨hk.1.1.1.1.1.1.1.1.1.2, ⟨hk.1.1.1.1.1.1.1.1.2, hk.1.1.1.1.1.1.2⟩⟩⟩⟩⟩⟩⟩⟩⟩⟩))))) (Reps.c5 (show Kd.FK k58 _ _ (⟨t475, t476, t479, t480, t481⟩ : S58) [.int .i64 t475, .slice Ao32 t476.length co32, .int .i64 t479, .int .i64 t480, .int .i64 t481] from (k58_mkF _ _ (⟨t475, t476, t479, t480, t481⟩ : S58) (Kd.V_reads' (Kd.V_mono (ok' := (fun k_ => some k_ ≠ (.slice Ao18 y460.length co18 : Value).ownBlock ∧ some k_ ≠ (.slice Ao26 y472.length co26 : Value).ownBlock ∧ some k_ ≠ (.slice Ao38 y484.length co38 : Value).ownBlock ∧ some k_ ≠ (.slice Ao37 y487.length co37 : Value).ownBlock ∧ some k_ ≠ (.slice Ao44 y490.length co44 : Value).ownBlock ∧ some k_ ≠ (v494 : Value).ownBlock ∧ some k_ ≠ (.slice Ao51 y497.length co51 : Value).ownBlock ∧ some k_ ≠ (.slice Ao50 y500.length co50 : Value).ownBlock ∧ k_ ≠ gb459 ∧ k_ ≠ gb471 ∧ k_ ≠ gb483)) (HO478.out) (fun k_ hk => ⟨hk.1.1.1.1.1.1.1.1, ⟨hk.1.1.1.1.1.1.1.2.1, ⟨hk.1.1.1.1.1.2, ⟨hk.1.1.1.1.2, ⟨hk.1.1.1.2, ⟨hk.1.1.2, ⟨hk.1.2, ⟨hk.2, ⟨hk.1.1.1.1.1.1.1.2.2.1, ⟨hk.1.1.1.1.1.1.1.2.2.2, hk.1.1.1.1.1.1.2⟩⟩⟩⟩⟩⟩⟩⟩⟩⟩))).2.1 (Kd.V_F (Kd.V_mono (ok' := (fun k_ => some k_ ≠ (.slice Ao18 y460.length co18 : Value).ownBlock ∧ some k_ ≠ (.slice Ao26 y472.length co26 : Value).ownBlock ∧ some k_ ≠ (.slice Ao38 y484.length co38 : Value).ownBlock ∧ some k_ ≠ (.slice Ao37 y487.length co37 : Value).ownBlock ∧ some k_ ≠ (.slice Ao44 y490.length co44 : Value).ownBlock ∧ some k_ ≠ (v494 : Value).ownBlock ∧ some k_ ≠ (.slice Ao51 y497.length co51 : Value).ownBlock ∧ some k_ ≠ (.slice Ao50 y500.length co50 : Value).ownBlock ∧ k_ ≠ gb459 ∧ k_ ≠ gb471 ∧ k_ ≠ gb483)) (HO478.out) (fun k_ hk => ⟨hk.1.1.1.1.1.1.1.1, ⟨hk.1.1.1.1.1.1.1.2.1, ⟨hk.1.1.1.1.1.2, ⟨hk.1.1.1.1.2, ⟨hk.1.1.1.2, ⟨hk.1.1.2, ⟨hk.1.2, ⟨hk.2, ⟨hk.1.1.1.1.1.1.1.2.2.1, ⟨hk.1.1.1.1.1.1.1.2.2.2, hk.1.1.1.1.1.1.2⟩⟩⟩⟩⟩⟩⟩⟩⟩⟩))))) (Reps.none _ _)))); intro v504 w54 ho55 hb hg_ hnew_; clear hg_ hnew_; (first | rw [← Ny503.out] at ho55 | (simp only [Int.reduceToNat] at ho55; rw [← Ny503.out] at ho55)); replace HO462 := Aside0.mk (Kd.R_below (vR_ HO462.out) hb); replace HO474 := Aside0.mk (Kd.R_below (vR_ HO474.out) hb); replace HO486 := Aside0.mk (Kd.R_below (vR_ HO486.out) hb); replace HO489 := Aside0.mk (Kd.R_below (vR_ HO489.out) hb); replace HO495 := Aside0.mk (Kd.N_elder' (vN_ HO495.out) (Kd.N_base ho55) hb); replace HO499 := Aside0.mk (Kd.R_below (vR_ HO499.out) hb); replace HO502 := Aside0.mk (Kd.R_below (vR_ HO502.out) hb); have HO505 := Aside0.mk (Kd.N_lower ho55 (below_size bel_)); replace HB := Aside0.mk (below_step bel_ hb); clear hb ho55; obtain ⟨Ao56, co56, eo56⟩ := Kd.N_slice HO505.out; subst eo56) | ((with_reducible refine gate_callee (f := 9) rfl ?_); refine goesL_ (some 43) rfl rfl Tryz.func9 (by kernel_rfl) rfl #[.agg #[.int .i64 12, .slice Ao51 y497.length co51, .slice Ao50 y500.length co50, .slice none 0 0, .slice none 0 0, .slice none 0 0, .int .i64 0, .slice none 0 0], .slice Ao56 y503.length co56] rfl ar_ ?_; (refine (clause_Filter.calls k 12 _ _ y497 _ _ y500 _ _ ([] : List Int) _ _ ([] : List Int) _ _ ([] : List Int) 0 _ _ ([] : List (List Int)) (fun k_ => (some k_ ≠ (.slice Ao18 y460.length co18 : Value).ownBlock ∧ (some k_ ≠ (.slice Ao26 y472.length co26 : Value).ownBlock ∧ (some k_ ≠ (.slice Ao38 y484.length co38 : Value).ownBlock ∧ (some k_ ≠ (.slice Ao37 y487.length co37 : Value).ownBlock ∧ (some k_ ≠ (.slice Ao44 y490.length co44 : Value).ownBlock ∧ (some k_ ≠ (v494 : Value).ownBlock ∧ (some k_ ≠ (.slice Ao51 y497.length co51 : Value).ownBlock ∧ (some k_ ≠ (.slice Ao50 y500.length co50 : Value).ownBlock ∧ (k_ ≠ gb459 ∧ (k_ ≠ gb471 ∧ k_ ≠ gb483))))))))))) _ _ y503 t506 t509 _ ?side1 ?side2 ?side3 ?side4 ?side5 ?side6 ?side7 ?side8 ?side9 ?side10 ?side11 ?side12 ?side13 ?side14 A5.out).mono ?_); (case side1 => exact ca_ ((Kd.R_reads' HO499.out).2.2)); (case side2 => exact (Kd.R_reads' HO499.out).2.1); (case side3 => exact ca_ ((Kd.R_reads' HO502.out).2.2)); (case side4 => exact (Kd.R_reads' HO502.out).2.1); (case side5 => exact Kd.C_nil _ _); (case side6 => exact Nat.le_refl _); (case side7 => exact Kd.C_nil _ _); (case side8 => exact Nat.le_refl _); (case side9 => exact Kd.C_nil _ _); (case side10 => exact Nat.le_refl _); (case side11 => exact Kd.C_nil _ _); (case side12 => exact Nat.le_refl _); (case side13 => exact Kd.N_V (HO505.out)); (case side14 => exact ca_ ((Kd.C_below HRtab.out HB.out))); rintro e w57 ⟨v507, rfl, ho0, hb⟩; refine ⟨_, rfl, ?_⟩; replace HO462 := Aside0.mk (Kd.R_below (vR_ HO462.out) hb); replace HO474 := Aside0.mk (Kd.R_below (vR_ HO474.out) hb); replace HO486 := Aside0.mk (Kd.R_below (vR_ HO486.out) hb); replace HO489 := Aside0.mk (Kd.R_below (vR_ HO489.out) hb); replace HO495 := Aside0.mk (Kd.N_elder' (vN_ HO495.out) (Kd.N_base ho0) hb); replace HO499 := Aside0.mk (Kd.R_below (vR_ HO499.out) hb); replace HO502 := Aside0.mk (Kd.R_below (vR_ HO502.out) hb); replace HB := Aside0.mk (below_step bel_ hb); clear hb ho0; obtain ⟨Ao58, co58, eo58⟩ := Kd.N_slice HO495.out; subst eo58; have p510 : 0 ≤ (0 : Int) := (by omega); have q510 : 0 < (t493.length : Int) := dq_; obtain ⟨ad510, A510_1, c510_1, e510, hx510_0, hx510_1, hx510_2, hx510_3, hx510_4, hl510_1, hi510_1⟩ := at_T58 (Kd.N_reads' HO495.out).2.2 0 p510 q510; cases e510; obtain ⟨ce510, hce510, hMe510, hcc510⟩ := Kd.N_get HO495.out z58 0 p510 (by first | exact q510 | exact dq_ | (have e_ := (Kd.N_reads' HO495.out).1; omega)); obtain ⟨ua510_1, uc510_1, rfl, ul510_1, ge510_1⟩ := k58_openF hMe510; have hv510_1 := hcc510 1 _ rfl; rw [add_field _ _ 1 (by omega)] at hv510_1; replace hv510_1 := Option.some.inj (hv510_1.symm.trans hx510_1); injection hv510_1 with hva_ hvn_ hvc_; rw [hva_] at ge510_1; rw [hvc_] at ul510_1; clear hva_ hvn_ hvc_ ge510_1 ul510_1; clear hcc510 hce510; have qi510 : (0 < t493.length) = True := eq_true (by omega); (try rw [show ((0 : Int)).toNat = 0 from rfl] at hx510_0); (try rw [show 0 * 5 = 0 from rfl] at hx510_0); (try rw [Addr.add_zero'] at hx510_0); (try rw [show ((0 : Int)).toNat = 0 from rfl] at hx510_1); (try rw [show 0 * 5 = 0 from rfl] at hx510_1); (try rw [Addr.add_zero'] at hx510_1); (try rw [show ((0 : Int)).toNat = 0 from rfl] at hx510_2); (try rw [show 0 * 5 = 0 from rfl] at hx510_2); (try rw [Addr.add_zero'] at hx510_2); (try rw [show ((0 : Int)).toNat = 0 from rfl] at hx510_3); (try rw [show 0 * 5 = 0 from rfl] at hx510_3); (try rw [Addr.add_zero'] at hx510_3); (try rw [show ((0 : Int)).toNat = 0 from rfl] at hx510_4); (try rw [show 0 * 5 = 0 from rfl] at hx510_4); (try rw [Addr.add_zero'] at hx510_4); have HR510_1 := Aside0.mk hi510_1; have HC510_1 := Aside0.mk hl510_1; clear hi510_1 hl510_1; replace p510 := eq_true p510; replace q510 := eq_true q510) | (go_at_call 22; (with_reducible refine (dom_Dom_List.calls k ((rd_T58 t493 0).f0) _ _ ((rd_T58 t493 0).f1) ((rd_T58 t493 0).f2) ((rd_T58 t493 0).f3) ((rd_T58 t493 0).f4) t511 _ ?side1 ?side2 ?side3 A9.out).mono ?_); (case side1 => repeat (first | exact (by repeat (first | (with_reducible exact HR510_1.out) | (with_reducible refine Kd.C_alloc ?_ _) | (with_reducible refine Kd.C_drewN ?_ _) | (with_reducible refine Kd.C_drew ?_) | exact HR510_1.out)) | (with_reducible refine Kd.C_alloc ?_ _) | (with_reducible refine Kd.C_drewN ?_ _) | (with_reducible refine Kd.C_drew ?_))); (case side2 => exact HC510_1.out); (case side3 => exact ca_ ((Kd.C_below HRtab.out HB.out))); rintro e w59 ⟨v512, rfl, ho0, hb⟩; have HO513 := Aside0.mk (Kd.R_lower (Kd.R_new' (Kd.R_new' (Kd.R_new' (Kd.R_new' (Kd.R_new' (Kd.R_new' ho0 (Kd.R_lt (vR_ HO462.out))) (Kd.R_lt (vR_ HO474.out))) (Kd.R_lt (vR_ HO486.out))) (Kd.R_lt (vR_ HO489.out))) (Kd.R_lt (vR_ HO499.out))) (Kd.R_lt (vR_ HO502.out))) (below_size bel_)); replace HO462 := Aside0.mk (Kd.R_elder' (vR_ HO462.out) (Kd.R_base ho0) hb); replace HO474 := Aside0.mk (Kd.R_elder' (vR_ HO474.out) (Kd.R_base ho0) hb); replace HO486 := Aside0.mk (Kd.R_elder' (vR_ HO486.out) (Kd.R_base ho0) hb); replace HO489 := Aside0.mk (Kd.R_elder' (vR_ HO489.out) (Kd.R_base ho0) hb); replace HO499 := Aside0.mk (Kd.R_elder' (vR_ HO499.out) (Kd.R_base ho0) hb); replace HO502 := Aside0.mk (Kd.R_elder' (vR_ HO502.out) (Kd.R_base ho0) hb); replace HB := Aside0.mk (below_step bel_ hb); clear hb ho0) | ((with_reducible refine gate_dst (N := 57) rfl ?_); (try (refine gate_guard (by rfl) ?_; dsimp only)); refine Kd.R_lit (Kd.int .i64) _ 3 ?hg (N := 57) ?hd (xs := ([1] : List Int)) (inner := [.int .i64 1]) (ok := fun _ => True) (okp := fun _ => True) ?hr ?hp (fun _ hk => hk) trivial (Below.refl _ _) (Nat.le_refl _) (by simp) ?_; (case hd => rfl); (case hg => rfl); (case hr => first | (go_simp; done) | (go_simp; rfl)); (case hp => exact (Reps.one (show Kd.M (Kd.int .i64) _ _ _ 1 [.int .i64 1] from rfl) (Reps.none _ _))); intro v515 w60 ho61 hb hg_ hnew_; clear hg_ hnew_; (first | rw [← Ny514.out] at ho61 | (simp only [Int.reduceToNat] at ho61; rw [← Ny514.out] at ho61)); have HO516 := Aside0.mk (Kd.R_lower (Kd.R_new' (Kd.R_new' (Kd.R_new' (Kd.R_new' (Kd.R_new' (Kd.R_new' (Kd.R_new' ho61 (Kd.R_lt (vR_ HO462.out))) (Kd.R_lt (vR_ HO474.out))) (Kd.R_lt (vR_ HO486.out))) (Kd.R_lt (vR_ HO489.out))) (Kd.R_lt (vR_ HO499.out))) (Kd.R_lt (vR_ HO502.out))) (Kd.R_lt (vR_ HO513.out))) (below_size bel_)); replace HO513 := Aside0.mk (Kd.R_elder' (vR_ HO513.out) (Kd.R_base ho61) hb); replace HB := Aside0.mk (below_step bel_ hb); clear hb ho61; obtain ⟨Ao62, co62, eo62⟩ := Kd.R_slice HO513.out; subst eo62; obtain ⟨Ao63, co63, eo63⟩ := Kd.R_slice HO516.out; subst eo63) | (go_at_call 33; (with_reducible refine (slices_Equal_int_int.calls k _ _ t511 _ _ y514 true _ ?_ ?_ ?_ ?_ A10.out).mono ?_); exact ca_ ((Kd.R_reads' HO513.out).2.2); exact (Kd.R_reads' HO513.out).2.1; exact ca_ ((Kd.R_reads' HO516.out).2.2); exact (Kd.R_reads' HO516.out).2.1; rintro e w' ⟨rfl, ⟨nd, rfl⟩⟩))
     go_ret
     exact ⟨by first | rfl | (simp [errW_none, errW_some] <;> rfl) | (simp [*, errW_none, errW_some] <;> rfl), bel_⟩
    ·
     replace c11 := Bool.eq_false_iff.mpr c11
     subst c11
     have H1 : (none) = some r := by rw [if_neg (show ¬ (false = true) by decide)] at H; exact H
     clear H
     have H := H1
     clear H1
     exact absurd H (by simp)
   ·
    rw [if_neg c8] at H
    exact absurd H (by simp)
  ·
   rw [if_neg c7] at H
   exact absurd H (by simp)
 ·
  replace c6 := Bool.eq_false_iff.mpr c6
  subst c6
  have H1 : (none) = some r := by rw [if_neg (show ¬ (false = true) by decide)] at H; exact H
  clear H
  have H := H1
  clear H1
  exact absurd H (by simp)


/-! ### jigsawref10_Same: function 13 -/
mutual
def jigsawref10_Same.l0 : Nat → List (List Int) → List (List Int) → Int → Option (Bool)
 | 0, _, _, _ => none
 | k + 1, x0, x1, x5 => if x5 < (x0.length : Int) then (if 0 ≤ x5 then (if x5 < (x1.length : Int) then (if ((rd_L7 x0 x5).length : Int) = ((rd_L7 x1 x5).length : Int) then (jigsawref10_Same.l1 k x0 x1 x5 0) else (none)) else (none)) else (none)) else (some true)
def jigsawref10_Same.l1 : Nat → List (List Int) → List (List Int) → Int → Int → Option (Bool)
 | 0, _, _, _, _ => none
 | k + 1, x0, x1, x5, x6 => if 0 ≤ x5 then (if x5 < (x0.length : Int) then (if x6 < ((rd_L7 x0 x5).length : Int) then (if 0 ≤ x6 then (if x5 < (x1.length : Int) then (if x6 < ((rd_L7 x1 x5).length : Int) then (if (rd (rd_L7 x0 x5) x6) = (rd (rd_L7 x1 x5) x6) then (jigsawref10_Same.l1 k x0 x1 x5 (wrap64 (x6 + 1))) else (none)) else (none)) else (none)) else (none)) else (jigsawref10_Same.l0 k x0 x1 (wrap64 (x5 + 1)))) else (none)) else (none)
end
def jigsawref10_Same.f (k : Nat) (l0 : List (List Int)) (l1 : List (List Int)) : Option (Bool) := if (l0.length : Int) = (l1.length : Int) then (jigsawref10_Same.l0 k l0 l1 0) else (none)
theorem jigsawref10_Same.mono_l : ∀ k, (∀ y0 y1 y2, LeO (jigsawref10_Same.l0 k y0 y1 y2) (jigsawref10_Same.l0 (k + 1) y0 y1 y2)) ∧ (∀ y0 y1 y2 y3, LeO (jigsawref10_Same.l1 k y0 y1 y2 y3) (jigsawref10_Same.l1 (k + 1) y0 y1 y2 y3))
 | 0 => ⟨fun _ _ _ r h => by simp [jigsawref10_Same.l0] at h, fun _ _ _ _ r h => by simp [jigsawref10_Same.l1] at h⟩
 | k + 1 => by
  obtain ⟨ih0, ih1⟩ := jigsawref10_Same.mono_l k
  refine ⟨?_, ?_⟩
  ·
   intro y0 y1 y2
   unfold jigsawref10_Same.l0
   exact leo_
  ·
   intro y0 y1 y2 y3
   unfold jigsawref10_Same.l1
   exact leo_
theorem jigsawref10_Same.mono : ∀ a0 a1 k, LeO (jigsawref10_Same.f k a0 a1) (jigsawref10_Same.f (k + 1) a0 a1) := by
 intro a0 a1 k
 obtain ⟨ih0, ih1⟩ := jigsawref10_Same.mono_l k
 unfold jigsawref10_Same.f
 exact leo_
set_option maxHeartbeats 8000000 in
set_option maxRecDepth 100000 in
theorem jigsawref10_Same.calls (k : Nat) (A0 : Option Addr) (c0 : Nat) (l0 : List (List Int)) (A1 : Option Addr) (c1 : Nat) (l1 : List (List Int)) (r : Bool) (w : World) (hr0 : Kd.C (Kd.slice 3 (Kd.int .i64)) w A0 l0.length l0) (hc0 : l0.length ≤ c0) (hr1 : Kd.C (Kd.slice 3 (Kd.int .i64)) w A1 l1.length l1) (hc1 : l1.length ≤ c1) (h : jigsawref10_Same.f k l0 l1 = some r) :
  Calls Tryz.prog 13 #[.slice A0 l0.length c0, .slice A1 l1.length c1] w fun e w' => e = .returned (.bool r) ∧ Drawn0 w w' := by
 have HR0 := Aside0.mk hr0
 have HC0 := Aside0.mk hc0
 clear hr0 hc0
 have HR1 := Aside0.mk hr1
 have HC1 := Aside0.mk hc1
 clear hr1 hc1
 unfold jigsawref10_Same.f at h
 have H := h
 clear h
 by_cases c3 : (l0.length : Int) = (l1.length : Int)
 ·
  rw [if_pos c3] at H
  have c3b0 : ((l0.length : Int) == (l1.length : Int)) = true := beq_iff_eq.mpr c3
  have c3b1 : ((l0.length : Int) != (l1.length : Int)) = false := bne_eq_false_iff_eq.mpr c3
  have c3b2 : (l0.length == l1.length) = true := by first | simpa using c3 | (simp at c3 ⊢; omega)
  clear c3
  have H' := Aside0.mk H
  clear H
  go_enter Tryz.func13, Tryz.ntmps13
  go_wp2
  repeat (go_quiet (fail); try go_wp2)
  go_loopg [5] k (fun kq v5 w' => ∃ (x5_1 : Int), v5 = .int .i64 x5_1 ∧ Aside0 (jigsawref10_Same.l0 kq l0 l1 x5_1 = some r) ∧ Aside0 (kq ≤ k) ∧ Drawn0 w w')
  case atStart => exact ⟨(0), eq_, H', ⟨Nat.le_refl _⟩, by repeat (first | exact Drawn0.refl _ | apply Drawn0.step)⟩
  case round =>
   clear H'
   try clear c1
   try clear p2
   try clear c3
   try clear c3b0
   try clear c3b1
   try clear c3b2
   obtain ⟨x5_1, rfl, HA, HK1, ⟨m1, rfl⟩⟩ := hrel
   cases gk with
   | zero => exact absurd HA.out (by simp [jigsawref10_Same.l0])
   | succ k1 =>
    have H := HA.out
    clear HA
    simp only [jigsawref10_Same.l0] at H
    by_cases c4 : x5_1 < (l0.length : Int)
    ·
     rw [if_pos c4] at H
     have c4b0 : decide (x5_1 < (l0.length : Int)) = true := decide_eq_true c4
     clear c4
     by_cases c5 : 0 ≤ x5_1
     ·
      rw [if_pos c5] at H
      have c5b0 : decide (0 ≤ x5_1) = true := decide_eq_true c5
      clear c5
      by_cases c6 : x5_1 < (l1.length : Int)
      ·
       rw [if_pos c6] at H
       have c6b0 : decide (x5_1 < (l1.length : Int)) = true := decide_eq_true c6
       clear c6
       by_cases c7 : ((rd_L7 l0 x5_1).length : Int) = ((rd_L7 l1 x5_1).length : Int)
       ·
        rw [if_pos c7] at H
        have c7b0 : (((rd_L7 l0 x5_1).length : Int) == ((rd_L7 l1 x5_1).length : Int)) = true := beq_iff_eq.mpr c7
        have c7b1 : (((rd_L7 l0 x5_1).length : Int) != ((rd_L7 l1 x5_1).length : Int)) = false := bne_eq_false_iff_eq.mpr c7
        have c7b2 : ((rd_L7 l0 x5_1).length == (rd_L7 l1 x5_1).length) = true := by first | simpa using c7 | (simp at c7 ⊢; omega)
        clear c7
        have H' := Aside0.mk H
        clear H
        have p518 : 0 ≤ (x5_1 : Int) := dq_
        have q518 : x5_1 < (l0.length : Int) := dq_
        obtain ⟨ad518, A518_0, c518_0, e518, hx518_0, hl518_0, hi518_0⟩ := at_L7 HR0.out x5_1 p518 q518
        cases e518
        have HC518_0 := Aside0.mk hl518_0
        clear hi518_0 hl518_0
        replace p518 := eq_true p518
        replace q518 := eq_true q518
        have p519 : 0 ≤ (x5_1 : Int) := dq_
        have q519 : x5_1 < (l1.length : Int) := dq_
        obtain ⟨ad519, A519_0, c519_0, e519, hx519_0, hl519_0, hi519_0⟩ := at_L7 HR1.out x5_1 p519 q519
        cases e519
        have HC519_0 := Aside0.mk hl519_0
        clear hi519_0 hl519_0
        replace p519 := eq_true p519
        replace q519 := eq_true q519
        go_wp2
        repeat (go_quiet (fail); try go_wp2)
        go_loopg [6] k1 (fun kq v6 w' => ∃ (x6_2 : Int), v6 = .int .i64 x6_2 ∧ Aside0 (jigsawref10_Same.l1 kq l0 l1 x5_1 x6_2 = some r) ∧ Aside0 (kq ≤ k1) ∧ Drawn0 w w')
        case atStart => exact ⟨(0), eq_, H', ⟨Nat.le_refl _⟩, by repeat (first | exact Drawn0.refl _ | apply Drawn0.step)⟩
        case round =>
         clear H'
         try clear c1
         try clear p2
         try clear c3
         try clear c3b0
         try clear c3b1
         try clear c3b2
         try clear c4
         try clear c4b0
         try clear c5
         try clear c5b0
         try clear p5
         try clear q5
         try clear hx5
         try clear c6
         try clear c6b0
         try clear c7
         try clear c7b0
         try clear c7b1
         try clear c7b2
         try clear hx518_0
         try clear hx519_0
         try clear p2
         try clear p518
         try clear p519
         try clear q518
         try clear q519
         obtain ⟨x6_2, rfl, HA, HK2, ⟨m2, rfl⟩⟩ := hrel
         cases gk with
         | zero => exact absurd HA.out (by simp [jigsawref10_Same.l1])
         | succ k2 =>
          have H := HA.out
          clear HA
          simp only [jigsawref10_Same.l1] at H
          by_cases c8 : 0 ≤ x5_1
          ·
           rw [if_pos c8] at H
           have c8b0 : decide (0 ≤ x5_1) = true := decide_eq_true c8
           clear c8
           by_cases c9 : x5_1 < (l0.length : Int)
           ·
            rw [if_pos c9] at H
            have c9b0 : decide (x5_1 < (l0.length : Int)) = true := decide_eq_true c9
            clear c9
            by_cases c10 : x6_2 < ((rd_L7 l0 x5_1).length : Int)
            ·
             rw [if_pos c10] at H
             have c10b0 : decide (x6_2 < ((rd_L7 l0 x5_1).length : Int)) = true := decide_eq_true c10
             clear c10
             by_cases c11 : 0 ≤ x6_2
             ·
              rw [if_pos c11] at H
              have c11b0 : decide (0 ≤ x6_2) = true := decide_eq_true c11
              clear c11
              by_cases c12 : x5_1 < (l1.length : Int)
              ·
               rw [if_pos c12] at H
               have c12b0 : decide (x5_1 < (l1.length : Int)) = true := decide_eq_true c12
               clear c12
               by_cases c13 : x6_2 < ((rd_L7 l1 x5_1).length : Int)
               ·
                rw [if_pos c13] at H
                have c13b0 : decide (x6_2 < ((rd_L7 l1 x5_1).length : Int)) = true := decide_eq_true c13
                clear c13
                by_cases c14 : (rd (rd_L7 l0 x5_1) x6_2) = (rd (rd_L7 l1 x5_1) x6_2)
                ·
                 rw [if_pos c14] at H
                 have c14b0 : ((rd (rd_L7 l0 x5_1) x6_2) == (rd (rd_L7 l1 x5_1) x6_2)) = true := beq_iff_eq.mpr c14
                 have c14b1 : ((rd (rd_L7 l0 x5_1) x6_2) != (rd (rd_L7 l1 x5_1) x6_2)) = false := bne_eq_false_iff_eq.mpr c14
                 clear c14
                 have H' := Aside0.mk H
                 clear H
                 have p520 : 0 ≤ (x5_1 : Int) := dq_
                 have q520 : x5_1 < (l0.length : Int) := dq_
                 obtain ⟨ad520, A520_0, c520_0, e520, hx520_0, hl520_0, hi520_0⟩ := at_L7 HR0.out x5_1 p520 q520
                 obtain rfl : ad518 = ad520 := (by injection e520)
                 have HC520_0 := Aside0.mk hl520_0
                 clear hi520_0 hl520_0
                 replace p520 := eq_true p520
                 replace q520 := eq_true q520
                 have p521 : 0 ≤ (x5_1 : Int) := dq_
                 have q521 : x5_1 < (l0.length : Int) := dq_
                 obtain ⟨ad521, A521_0, c521_0, e521, hx521_0, hl521_0, hi521_0⟩ := at_L7 HR0.out x5_1 p521 q521
                 obtain rfl : ad518 = ad521 := (by injection e521)
                 have HR521_0 := Aside0.mk hi521_0
                 have HC521_0 := Aside0.mk hl521_0
                 clear hi521_0 hl521_0
                 replace p521 := eq_true p521
                 replace q521 := eq_true q521
                 have ea_ := Option.some.inj (hx520_0.symm.trans hx521_0)
                 injection ea_ with ea_ en_ ec_
                 subst ea_
                 subst ec_
                 clear en_
                 have p522 : 0 ≤ (x6_2 : Int) := dq_
                 have q522 : x6_2 < ((rd_L7 l0 x5_1).length : Int) := dq_
                 obtain ⟨ad522, e522, hx522_0⟩ := Kd.at_int HR521_0.out x6_2 p522 q522
                 cases e522
                 replace p522 := eq_true p522
                 replace q522 := eq_true q522
                 have p523 : 0 ≤ (x5_1 : Int) := dq_
                 have q523 : x5_1 < (l1.length : Int) := dq_
                 obtain ⟨ad523, A523_0, c523_0, e523, hx523_0, hl523_0, hi523_0⟩ := at_L7 HR1.out x5_1 p523 q523
                 obtain rfl : ad519 = ad523 := (by injection e523)
                 have HR523_0 := Aside0.mk hi523_0
                 have HC523_0 := Aside0.mk hl523_0
                 clear hi523_0 hl523_0
                 replace p523 := eq_true p523
                 replace q523 := eq_true q523
                 have p524 : 0 ≤ (x6_2 : Int) := dq_
                 have q524 : x6_2 < ((rd_L7 l1 x5_1).length : Int) := dq_
                 obtain ⟨ad524, e524, hx524_0⟩ := Kd.at_int HR523_0.out x6_2 p524 q524
                 cases e524
                 replace p524 := eq_true p524
                 replace q524 := eq_true q524
                 go_wp2
                 repeat (go_quiet (fail); try go_wp2)
                 go_roundg k2
                 case measure => have := HK1.out; have := HK2.out; omega
                 case rel => exact ⟨(wrap64 (x6_2 + 1)), eq_, H', ⟨by have := HK1.out; have := HK2.out; omega⟩, by repeat (first | exact Drawn0.refl _ | apply Drawn0.step)⟩
                ·
                 rw [if_neg c14] at H
                 exact absurd H (by simp)
               ·
                rw [if_neg c13] at H
                exact absurd H (by simp)
              ·
               rw [if_neg c12] at H
               exact absurd H (by simp)
             ·
              rw [if_neg c11] at H
              exact absurd H (by simp)
            ·
             rw [if_neg c10] at H
             have c10b0 : decide (x6_2 < ((rd_L7 l0 x5_1).length : Int)) = false := decide_eq_false c10
             clear c10
             have H' := Aside0.mk H
             clear H
             have p520 : 0 ≤ (x5_1 : Int) := dq_
             have q520 : x5_1 < (l0.length : Int) := dq_
             obtain ⟨ad520, A520_0, c520_0, e520, hx520_0, hl520_0, hi520_0⟩ := at_L7 HR0.out x5_1 p520 q520
             obtain rfl : ad518 = ad520 := (by injection e520)
             have HC520_0 := Aside0.mk hl520_0
             clear hi520_0 hl520_0
             replace p520 := eq_true p520
             replace q520 := eq_true q520
             go_wp2
             repeat (go_quiet (fail); try go_wp2)
             go_roundg k2
             case measure => have := HK1.out; have := HK2.out; omega
             case rel => exact ⟨(wrap64 (x5_1 + 1)), eq_, H', ⟨by have := HK1.out; have := HK2.out; omega⟩, by repeat (first | exact Drawn0.refl _ | apply Drawn0.step)⟩
           ·
            rw [if_neg c9] at H
            exact absurd H (by simp)
          ·
           rw [if_neg c8] at H
           exact absurd H (by simp)
       ·
        rw [if_neg c7] at H
        exact absurd H (by simp)
      ·
       rw [if_neg c6] at H
       exact absurd H (by simp)
     ·
      rw [if_neg c5] at H
      exact absurd H (by simp)
    ·
     rw [if_neg c4] at H
     have c4b0 : decide (x5_1 < (l0.length : Int)) = false := decide_eq_false c4
     clear c4
     obtain rfl := Option.some.inj H
     go_wp2
     repeat (go_quiet (fail); try go_wp2)
     go_ret
     exact ⟨by first | rfl | (simp; done) | (simp [*]; done), by repeat (first | exact Drawn0.refl _ | apply Drawn0.step)⟩
 ·
  rw [if_neg c3] at H
  exact absurd H (by simp)

/-! ### jigsawlaw14_lists: function 14 -/
def jigsawlaw14_lists.l0 : Nat → List (List Int) → List (S58) → Int → Int → Option ((List (List Int)))
 | 0, _, _, _, _ => none
 | k + 1, x3, x6, x7, x8 => if x8 < x7 then (if 0 ≤ x8 then (if x8 < (x6.length : Int) then ((dom_Dom_List.f k ((rd_T58 x6 x8).f0) ((rd_T58 x6 x8).f1) ((rd_T58 x6 x8).f2) ((rd_T58 x6 x8).f3) ((rd_T58 x6 x8).f4)).bind fun t527 => (if x3.length < 5864062014805 then (jigsawlaw14_lists.l0 k (x3 ++ [t527]) x6 x7 (wrap64 (x8 + 1))) else (none))) else (none)) else (none)) else (some x3)
def jigsawlaw14_lists.f (k : Nat) (l0 : List (S58)) : Option ((List (List Int))) := jigsawlaw14_lists.l0 k ([] : List (List Int)) l0 (l0.length : Int) 0
theorem jigsawlaw14_lists.mono_l : ∀ k, (∀ y0 y1 y2 y3, LeO (jigsawlaw14_lists.l0 k y0 y1 y2 y3) (jigsawlaw14_lists.l0 (k + 1) y0 y1 y2 y3))
 | 0 => fun _ _ _ _ r h => by simp [jigsawlaw14_lists.l0] at h
 | k + 1 => by
  have ih0 := jigsawlaw14_lists.mono_l k
  ·
   intro y0 y1 y2 y3
   unfold jigsawlaw14_lists.l0
   have m0 := @dom_Dom_List.mono
   exact leo_
theorem jigsawlaw14_lists.mono : ∀ a0 k, LeO (jigsawlaw14_lists.f k a0) (jigsawlaw14_lists.f (k + 1) a0) := by
 intro a0 k
 have ih0 := jigsawlaw14_lists.mono_l k
 unfold jigsawlaw14_lists.f
 have m0 := @dom_Dom_List.mono
 exact leo_
set_option maxHeartbeats 8000000 in
set_option maxRecDepth 100000 in
theorem jigsawlaw14_lists.calls (k : Nat) (A0 : Option Addr) (c0 : Nat) (l0 : List (S58)) (r : List (List Int)) (w : World) (hr0 : Kd.C k58 w A0 l0.length l0) (hc0 : l0.length ≤ c0) (hrtab : Kd.C (Kd.int .u8) w (some ⟨0, 0, none⟩) tabL.length tabL) (h : jigsawlaw14_lists.f k l0 = some r) :
  Calls Tryz.prog 14 #[.slice A0 l0.length c0] w fun e w' => ∃ v0_ : Value, e = .returned (v0_) ∧ Kd.S (Kd.slice 3 (Kd.int .i64)) 30 w' w.heap.size (fun _ => True) v0_ r ∧ Below w.heap.size w w' := by
 have hu58 := Tryz.underlying58
 have HR0 := Aside0.mk hr0
 have HC0 := Aside0.mk hc0
 clear hr0 hc0
 have HRtab := Aside0.mk hrtab
 clear hrtab
 have HB := Aside0.mk (Below.refl w.heap.size w)
 unfold jigsawlaw14_lists.f at h
 have H := h
 clear h
 have H' := Aside0.mk H
 clear H
 go_enter Tryz.func14, Tryz.ntmps14
 go_wp2
 go_loopg [3, 8] k (fun kq v3 v8 w' => ∃ (x3_1 : List (List Int)) (x8_1 : Int), v8 = .int .i64 x8_1 ∧ Aside0 (jigsawlaw14_lists.l0 kq x3_1 l0 (l0.length : Int) x8_1 = some r) ∧ Aside0 (kq ≤ k) ∧ Aside0 (Kd.S (Kd.slice 3 (Kd.int .i64)) 30 w' w.heap.size (fun _ => True) v3 x3_1) ∧ Aside0 (Below w.heap.size w w'))
 case atStart => exact ⟨(([] : List (List Int))), (0), eq_, H', ⟨Nat.le_refl _⟩, ⟨nil_⟩, ⟨bel_⟩⟩
 case round =>
  clear H'
  try clear c1
  obtain ⟨x3_1, x8_1, rfl, HA, HK1, HO_3, HB⟩ := hrel
  cases gk with
  | zero => exact absurd HA.out (by simp [jigsawlaw14_lists.l0])
  | succ k1 =>
   have H := HA.out
   clear HA
   simp only [jigsawlaw14_lists.l0] at H
   by_cases c2 : x8_1 < (l0.length : Int)
   ·
    rw [if_pos c2] at H
    have c2b0 : decide (x8_1 < (l0.length : Int)) = true := decide_eq_true c2
    clear c2
    by_cases c3 : 0 ≤ x8_1
    ·
     rw [if_pos c3] at H
     have c3b0 : decide (0 ≤ x8_1) = true := decide_eq_true c3
     clear c3
     by_cases c4 : x8_1 < (l0.length : Int)
     ·
      rw [if_pos c4] at H
      have c4b0 : decide (x8_1 < (l0.length : Int)) = true := decide_eq_true c4
      clear c4
      replace H := Option.bind_eq_some_iff.mp H
      obtain ⟨t527, A50, H⟩ := H
      try dsimp only at H
      have A5 := Aside0.mk A50
      clear A50
      by_cases c6 : x3_1.length < 5864062014805
      ·
       rw [if_pos c6] at H
       have LMc6 := Aside0.mk c6
       clear c6
       obtain ⟨y530, hy530⟩ : ∃ y_ : List (List Int), y_ = (x3_1 ++ [t527]) := ⟨_, rfl⟩
       replace H : (jigsawlaw14_lists.l0 k1 y530 l0 (l0.length : Int) (wrap64 (x8_1 + 1))) = some r := by first | (rw [hy530]; with_reducible exact H) | (have H2_ := (Option.bind_some _ _).symm.trans H; rw [hy530]; with_reducible exact H2_) | (have H2_ := (Option.bind_some _ _).symm.trans H; with_reducible exact H2_) | with_reducible exact H | (rw [hy530]; exact H) | exact H
       have Ny530 := Aside0.mk hy530
       clear hy530
       have H' := Aside0.mk H
       clear H
       have p525 : 0 ≤ (x8_1 : Int) := dq_
       have q525 : x8_1 < (l0.length : Int) := dq_
       obtain ⟨ad525, A525_1, c525_1, e525, hx525_0, hx525_1, hx525_2, hx525_3, hx525_4, hl525_1, hi525_1⟩ := at_T58 HR0.out x8_1 p525 q525
       cases e525
       replace hx525_0 := (HB.out.cell (World.block_lt_of_cell? w _ hx525_0)).trans hx525_0
       replace hx525_1 := (HB.out.cell (World.block_lt_of_cell? w _ hx525_1)).trans hx525_1
       replace hx525_2 := (HB.out.cell (World.block_lt_of_cell? w _ hx525_2)).trans hx525_2
       replace hx525_3 := (HB.out.cell (World.block_lt_of_cell? w _ hx525_3)).trans hx525_3
       replace hx525_4 := (HB.out.cell (World.block_lt_of_cell? w _ hx525_4)).trans hx525_4
       have HR525_1 := Aside0.mk hi525_1
       have HC525_1 := Aside0.mk hl525_1
       clear hi525_1 hl525_1
       replace p525 := eq_true p525
       replace q525 := eq_true q525
       go_wp2_with (first | ((with_reducible refine gate_dst (N := 5) rfl ?_); refine bxe_ (N := 5) (cs := #[.int .i64 0, .slice none 0 0, .int .i64 0, .int .i64 0, .int .i64 0]) (t := 58) ?_; intro gb526 hg w7 hbox hb; replace HO_3 := Aside0.mk (Kd.S_below (vS_ HO_3.out) hb); have BK526 := Aside0.mk (hbox); have GW526 := Aside0.mk (by rw [hg]; exact (below_size bel_) : w.heap.size ≤ gb526); have GE526 := GW526; replace HB := Aside0.mk (below_step bel_ hb); clear hb hbox hg; obtain ⟨_, _, _, _, _, _, _, _, _, _⟩ := cel5_ BK526.out) | ((with_reducible refine gate_callee (f := 22) rfl ?_); refine goesL_ (some 14) rfl rfl Tryz.func22 (by kernel_rfl) rfl #[.agg #[.int .i64 ((rd_T58 l0 x8_1).f0), .slice A525_1 ((rd_T58 l0 x8_1).f1).length c525_1, .int .i64 ((rd_T58 l0 x8_1).f2), .int .i64 ((rd_T58 l0 x8_1).f3), .int .i64 ((rd_T58 l0 x8_1).f4)]] rfl ar_ ?_; (with_reducible refine (dom_Dom_List.calls k1 ((rd_T58 l0 x8_1).f0) _ _ ((rd_T58 l0 x8_1).f1) ((rd_T58 l0 x8_1).f2) ((rd_T58 l0 x8_1).f3) ((rd_T58 l0 x8_1).f4) t527 _ ?_ ?_ ?_ A5.out).mono ?_); exact Kd.C_below HR525_1.out bel_; exact HC525_1.out; exact Kd.C_below HRtab.out bel_; rintro e w9 ⟨v528, rfl, ho0, hb⟩; refine ⟨_, rfl, ?_⟩; replace HO_3 := Aside0.mk (Kd.S_elder' (by refine vS_ ?_; exact (Kd.S_mono (fS_ (fS_ (fS_ (fS_ (fS_ (Kd.S_types HO_3.out BK526.out (by decide))))))) (fun _ h_ => h_.1))) (Kd.R_base ho0) hb); have HO529 := Aside0.mk (Kd.R_lower ho0 (below_size bel_)); replace HB := Aside0.mk (below_step bel_ hb); clear hb ho0; obtain ⟨Ao11, co11, eo11⟩ := Kd.R_slice HO529.out; subst eo11) | ((with_reducible refine gate_builtin (b := .append) (xs := #[.tmp 12, .tmp 15]) rfl ?_); at_builtin; refine Kd.S_append (Kd.slice 3 (Kd.int .i64)) (w0 := w) w.heap.size rfl (.tmp 12) (.tmp 15) 27 30 (.slice none 0 0) 24 rfl Tryz.underlying27 info30 rfl (by decide) (by omega) u3 x3_1 t527 [.slice Ao11 t527.length co11] (fun _ => True) (fun k_ => some k_ = (.slice Ao11 t527.length co11 : Value).ownBlock) rfl rfl ?aP (fun k_ hk_ => ((Kd.R_mono (ok' := fun k_ => ((fun _ => True)) k_ ∧ some k_ ≠ (u3 : Value).ownBlock) (Kd.R_apart' (HO529.out) (Kd.S_typed HO_3.out) (by decide)) (fun k_ hk => ⟨trivial, hk.2⟩))).1 k_ hk_.symm) ?aF ?aO ?aB ?aS ?aL ?_; (case aP => exact Kd.M_row (Kd.R_mono (Kd.R_tight rfl (Kd.R_mono (ok' := fun k_ => ((fun _ => True)) k_ ∧ some k_ ≠ (u3 : Value).ownBlock) (Kd.R_apart' (HO529.out) (Kd.S_typed HO_3.out) (by decide)) (fun k_ hk => ⟨trivial, hk.2⟩))) (fun _ h_ => h_))); (case aB => exact bel_); (case aF => exact (fun _ _ => trivial)); (case aO => exact (by refine vS_ ?_; exact Kd.S_mono HO_3.out (fun k_ hk => ⟨trivial, fun e_ => hk.2 e_⟩))); (case aS => exact (below_size bel_)); (case aL => have := LMc6.out; omega); intro v531 w10 ho hb hg hat; rw [← Ny530.out] at ho; replace HB := Aside0.mk (hb); have HO532 := Aside0.mk (ho); clear HO_3 HO529; clear ho hb hg hat))
       go_roundg k1
       case measure => have := HK1.out; omega
       case rel => exact ⟨(y530), (wrap64 (x8_1 + 1)), eq_, H', ⟨by have := HK1.out; omega⟩, ⟨by refine vS_ ?_; exact HO532.out⟩, ⟨bel_⟩⟩
      ·
       rw [if_neg c6] at H
       exact absurd H (by simp)
     ·
      rw [if_neg c4] at H
      exact absurd H (by simp)
    ·
     rw [if_neg c3] at H
     exact absurd H (by simp)
   ·
    rw [if_neg c2] at H
    have c2b0 : decide (x8_1 < (l0.length : Int)) = false := decide_eq_false c2
    clear c2
    obtain rfl := Option.some.inj H
    go_wp2
    go_ret
    exact ⟨_, by first | rfl | (simp [errW_none, errW_some] <;> rfl) | (simp [*, errW_none, errW_some] <;> rfl), by refine vS_ ?_; exact HO_3.out, bel_⟩

end Go.Proofs.YtmhchlbbfpmdgaaGreatDoor.XClauseFilters
