-- by xprint.py, a program of this session, over the kit's print
import Derived.Test.YtmhchlbbfpmdgaaGreatDoorXCKex0
import Derived.Test.YtmhchlbbfpmdgaaGreatDoorXCKex12
import Derived.Test.YtmhchlbbfpmdgaaGreatDoorXCKex13
import Derived.Test.YtmhchlbbfpmdgaaGreatDoorSq
namespace Go.Proofs.YtmhchlbbfpmdgaaGreatDoor.XClauseKeeps
open Go.RowKit Go.Proofs.YtmhchlbbfpmdgaaGreatDoor.Sq Go.Proofs.YtmhchlbbfpmdgaaGreatDoorW.PrintWords Go.Proofs.YtmhchlbbfpmdgaaGreatDoorW.PrintLast Go.Proofs.YtmhchlbbfpmdgaaGreatDoorW.PrintMore
attribute [local go_sem] max2_int min2_int max_two min_two max_three min_three max_four min_four   -- for this text's walks alone
set_option linter.unusedVariables false
set_option linter.unusedSimpArgs false

/-! ### dom_Dom_less_at_dom_Dom_Only_1: function 58 -/
def dom_Dom_less_at_dom_Dom_Only_1.l0 : Nat → List Int → Int → Int → Int → List Int → Int → Int → Int → Int → Option (Int × List Int × Int × Int × Int × Int)
 | 0, _, _, _, _, _, _, _, _, _ => none
 | k + 1, x6, x14, x15, x307000, x307001, x307002, x307003, x307004, x7003000 => if x15 < x14 then (if 0 ≤ x15 then (if x15 < (x6.length : Int) then ((dom_Dom_Only_1.f (wrap64 (x307000 + (wrap64 (64 * x15)))) (rd x6 x15) x7003000).bind fun t312 => (dom_Dom_less_at_dom_Dom_Only_1.l0 k (x6.set (x15 : Int).toNat (Go.bits .and .u64 (rd x6 x15) t312)) x14 (wrap64 (x15 + 1)) x307000 x307001 x307002 x307003 x307004 x7003000)) else (none)) else (none)) else ((dom_made.f k x307000 x6).bind fun bt314 => (if bt314.2.2.2.2 = x307004 then (some (x307000, x307001, x307002, x307003, x307004, 0)) else (if bt314.2.2.2.2 = 0 then (none) else (if bt314.2.2.2.2 = 1 then (some (bt314.1, bt314.2.1, bt314.2.2.1, bt314.2.2.2.1, bt314.2.2.2.2, 3)) else (none)))))
def dom_Dom_less_at_dom_Dom_Only_1.f (k : Nat) (a0_0 : Int) (l0_1 : List Int) (a0_2 : Int) (a0_3 : Int) (a0_4 : Int)  (a2_0 : Int) : Option (Int × List Int × Int × Int × Int × Int) := (slices_CloneU64.f l0_1).bind fun t308 => (dom_Dom_less_at_dom_Dom_Only_1.l0 k t308 (t308.length : Int) 0 a0_0 l0_1 a0_2 a0_3 a0_4 a2_0)
theorem dom_Dom_less_at_dom_Dom_Only_1.mono_l : ∀ k, (∀ y0 y1 y2 y3 y4 y5 y6 y7 y8, LeO (dom_Dom_less_at_dom_Dom_Only_1.l0 k y0 y1 y2 y3 y4 y5 y6 y7 y8) (dom_Dom_less_at_dom_Dom_Only_1.l0 (k + 1) y0 y1 y2 y3 y4 y5 y6 y7 y8))
 | 0 => fun _ _ _ _ _ _ _ _ _ r h => by simp [dom_Dom_less_at_dom_Dom_Only_1.l0] at h
 | k + 1 => by
  have ih0 := dom_Dom_less_at_dom_Dom_Only_1.mono_l k
  ·
   intro y0 y1 y2 y3 y4 y5 y6 y7 y8
   unfold dom_Dom_less_at_dom_Dom_Only_1.l0
   have m0 := @dom_made.mono
   exact leo_
theorem dom_Dom_less_at_dom_Dom_Only_1.mono : ∀ a0 a1 a2 a3 a4 a5 k, LeO (dom_Dom_less_at_dom_Dom_Only_1.f k a0 a1 a2 a3 a4 a5) (dom_Dom_less_at_dom_Dom_Only_1.f (k + 1) a0 a1 a2 a3 a4 a5) := by
 intro a0 a1 a2 a3 a4 a5 k
 have ih0 := dom_Dom_less_at_dom_Dom_Only_1.mono_l k
 unfold dom_Dom_less_at_dom_Dom_Only_1.f
 have m0 := @dom_made.mono
 exact leo_
set_option maxHeartbeats 8000000 in
set_option maxRecDepth 100000 in
theorem dom_Dom_less_at_dom_Dom_Only_1.calls (k : Nat) (a0_0 : Int) (P0_1_ : Nat → Prop) (A0_1 : Option Addr) (c0_1 : Nat) (l0_1 : List Int) (a0_2 : Int) (a0_3 : Int) (a0_4 : Int)  (B2 : Nat) (a2_0 : Int) (r1 : Int) (r2 : List Int) (r3 : Int) (r4 : Int) (r5 : Int) (r6 : Int) (w : World) (hs0_1 : Kd.V (Kd.int .u64) 80 w w.heap.size (fun k_ => P0_1_ k_) (.slice A0_1 l0_1.length c0_1) l0_1) (hbx2 : w.heap[B2]? = some (.cells #[.int .i64 a2_0] 3 (0, 0))) (hrtab : Kd.C (Kd.int .u8) w (some ⟨0, 0, none⟩) tabL.length tabL) (h : dom_Dom_less_at_dom_Dom_Only_1.f k a0_0 l0_1 a0_2 a0_3 a0_4 a2_0 = some (r1, r2, r3, r4, r5, r6)) :
  Calls Tryz.prog 58 #[.agg #[.int .i64 a0_0, .slice A0_1 l0_1.length c0_1, .int .i64 a0_2, .int .i64 a0_3, .int .i64 a0_4], .func (.func 59) #[] #[.pointer (some ⟨B2, 0, none⟩)]] w fun e w' => ∃ v1_ : Value, e = .returned (.tuple #[.agg #[.int .i64 r1, v1_, .int .i64 r3, .int .i64 r4, .int .i64 r5], .int .i64 r6]) ∧ Kd.V (Kd.int .u64) 80 w' w.heap.size (fun k_ => (P0_1_ k_ ∨ w.heap.size ≤ k_)) v1_ r2 ∧ Below w.heap.size w w' := by
 have hu58 := Tryz.underlying58
 have HO0_1 := Aside0.mk (show Kd.V (Kd.int .u64) 80 w w.heap.size (fun k_ => (P0_1_ k_ ∨ w.heap.size ≤ k_)) (.slice A0_1 l0_1.length c0_1) l0_1 from Kd.V_mono hs0_1 (fun k_ hk => .inl hk))
 have BKc2 := Aside0.mk hbx2
 clear hbx2
 have HRtab := Aside0.mk hrtab
 clear hrtab
 have HB := Aside0.mk (Below.refl w.heap.size w)
 have H : ((slices_CloneU64.f l0_1).bind fun t308 => (dom_Dom_less_at_dom_Dom_Only_1.l0 k t308 (t308.length : Int) 0 a0_0 l0_1 a0_2 a0_3 a0_4 a2_0)) = some (r1, r2, r3, r4, r5, r6) := h
 clear h
 replace H := Option.bind_eq_some_iff.mp H
 obtain ⟨t308, A40, H⟩ := H
 replace H : (dom_Dom_less_at_dom_Dom_Only_1.l0 k t308 (t308.length : Int) 0 a0_0 l0_1 a0_2 a0_3 a0_4 a2_0) = some (r1, r2, r3, r4, r5, r6) := H
 have A4 := Aside0.mk A40
 clear A40
 have H' := Aside0.mk H
 clear H
 go_enter Tryz.func58, Tryz.ntmps58
 go_wp2_with (first | ((with_reducible refine gate_dst (N := 2) rfl ?_); refine bxe_ (N := 2) (cs := #[.int .i64 a0_0, .slice A0_1 l0_1.length c0_1, .int .i64 a0_2, .int .i64 a0_3, .int .i64 a0_4]) (t := 58) ?_; intro gb306 hg w5 hbox hb; replace HO0_1 := Aside0.mk (Kd.V_below (Kd.V_elderB (vV_ HO0_1.out) gb306 (Nat.le_of_eq hg.symm)) hb); have BK306 := Aside0.mk (hbox); have GW306 := Aside0.mk (by rw [hg]; exact (below_size bel_) : w.heap.size ≤ gb306); have GE306 := GW306; replace HB := Aside0.mk (below_step bel_ hb); have NB7002_306 := Aside0.mk ((by rw [hg]; exact Nat.ne_of_lt (blk_lt (bk_ BKc2.out)) : B2 ≠ gb306)); have NB306_7002 := Aside0.mk ((by rw [hg]; exact Nat.ne_of_gt (blk_lt (bk_ BKc2.out)) : gb306 ≠ B2)); replace BKc2 := Aside0.mk (blk_below (bk_ BKc2.out) hb); clear hb hbox hg) | ((with_reducible refine gate_dst (N := 4) rfl ?_); refine bxe_ (N := 4) (cs := #[.int .i64 0, .slice none 0 0, .int .i64 0, .int .i64 0, .int .i64 0]) (t := 58) ?_; intro gb307 hg w6 hbox hb; replace HO0_1 := Aside0.mk (Kd.V_below (Kd.V_elderB (vV_ HO0_1.out) gb307 (Nat.le_of_eq hg.symm)) hb); have BK307 := Aside0.mk (hbox); have GW307 := Aside0.mk (by rw [hg]; exact (below_size bel_) : w.heap.size ≤ gb307); have GE307 := GW307; replace HB := Aside0.mk (below_step bel_ hb); have NB7002_307 := Aside0.mk ((by rw [hg]; exact Nat.ne_of_lt (blk_lt (bk_ BKc2.out)) : B2 ≠ gb307)); have NB307_7002 := Aside0.mk ((by rw [hg]; exact Nat.ne_of_gt (blk_lt (bk_ BKc2.out)) : gb307 ≠ B2)); replace BKc2 := Aside0.mk (blk_below (bk_ BKc2.out) hb); have NB306_307 := Aside0.mk ((by rw [hg]; exact Nat.ne_of_lt (blk_lt (bk_ BK306.out)) : gb306 ≠ gb307)); have NB307_306 := Aside0.mk ((by rw [hg]; exact Nat.ne_of_gt (blk_lt (bk_ BK306.out)) : gb307 ≠ gb306)); replace BK306 := Aside0.mk (blk_below (bk_ BK306.out) hb); clear hb hbox hg; have hnb7 := NB306_7002.out; have hnc7 := NB7002_306.out; have hnb8 := NB306_307.out; have hnc8 := NB307_306.out; obtain ⟨hcz9_0, hcz9_1, hcz9_2, hcz9_3, hcz9_4, hfz9_0, hfz9_1, hfz9_2, hfz9_3, hfz9_4⟩ := cel5_ BK306.out) | ((with_reducible refine gate_callee (f := 82) rfl ?_); refine goesL_ (some 12) rfl rfl Tryz.func82 (by kernel_rfl) rfl #[.slice A0_1 l0_1.length c0_1] rfl ar_ ?_; (with_reducible refine (slices_CloneU64.calls _ _ l0_1 t308 _ ?_ ?_ A4.out).mono ?_); exact ca_ ((Kd.V_reads' HO0_1.out).2.2); exact (Kd.V_reads' HO0_1.out).2.1; rintro e w10 ⟨v309, rfl, ho0, hb⟩; refine ⟨_, rfl, ?_⟩; replace HO0_1 := Aside0.mk (Kd.V_elder' (vV_ HO0_1.out) (Kd.R_base ho0) hb); have HO310 := Aside0.mk (Kd.R_lower (Kd.R_newM (M := fun k_ => (w.heap.size ≤ k_)) ho0 (below_size bel_) (fun k_ h_ => h_)) (below_size bel_)); replace BKc2 := Aside0.mk (blk_below (bk_ BKc2.out) hb); replace BK306 := Aside0.mk (blk_below (bk_ BK306.out) hb); replace BK307 := Aside0.mk (blk_below (bk_ BK307.out) hb); replace HB := Aside0.mk (below_step bel_ hb); clear hb ho0; obtain ⟨Ao11, co11, eo11⟩ := Kd.R_slice HO310.out; subst eo11))
 go_loopg [15] k (fun kq v15 w' => ∃ (x6_1 : List Int) (x15_1 : Int), v15 = .int .i64 x15_1 ∧ Aside0 (dom_Dom_less_at_dom_Dom_Only_1.l0 kq x6_1 (t308.length : Int) x15_1 a0_0 l0_1 a0_2 a0_3 a0_4 a2_0 = some (r1, r2, r3, r4, r5, r6)) ∧ Aside0 (kq ≤ k) ∧ Aside0 (Kd.R (Kd.int .u64) 80 w' w.heap.size (fun k_ => (w.heap.size ≤ k_)) (.slice Ao11 t308.length co11) x6_1) ∧ Aside0 (Kd.V (Kd.int .u64) 80 w' w.heap.size (fun k_ => (P0_1_ k_ ∨ w.heap.size ≤ k_) ∧ some k_ ≠ ((.slice Ao11 t308.length co11) : Value).ownBlock ∧ k_ ≠ gb306 ∧ k_ ≠ gb307) (.slice A0_1 l0_1.length c0_1) l0_1) ∧ Aside0 (w'.heap[B2]? = some (.cells #[.int .i64 a2_0] 3 (0, 0))) ∧ Aside0 (w'.heap[gb306]? = some (.cells #[.int .i64 a0_0, (.slice A0_1 l0_1.length c0_1), .int .i64 a0_2, .int .i64 a0_3, .int .i64 a0_4] 58 (0, 0))) ∧ Aside0 (w'.heap[gb307]? = some (.cells #[.int .i64 0, (.slice none 0 0), .int .i64 0, .int .i64 0, .int .i64 0] 58 (0, 0))) ∧ Aside0 (Below w.heap.size w w'))
 case atStart => exact ⟨(t308), (0), eq_, H', ⟨Nat.le_refl _⟩, ⟨by refine vR_ ?_; exact Kd.R_mono HO310.out (fun _ hk => hk.1)⟩, ⟨by refine vV_ ?_; exact Kd.V_mono HO0_1.out (fun _ hk => ⟨hk.1.1.1, ⟨hk.2, ⟨hk.1.1.2, hk.1.2⟩⟩⟩)⟩, ⟨by refine bk_ ?_; exact BKc2.out⟩, ⟨by refine bk_ ?_; exact BK306.out⟩, ⟨by refine bk_ ?_; exact BK307.out⟩, ⟨bel_⟩⟩
 case round =>
  clear H'
  try clear c2
  try clear p2
  try clear c7
  try clear c8
  try clear c9
  try clear hcz9_0
  try clear hcz9_1
  try clear hcz9_2
  try clear hcz9_3
  try clear hcz9_4
  try clear hfz9_0
  try clear hfz9_1
  try clear hfz9_2
  try clear hfz9_3
  try clear hfz9_4
  obtain ⟨x6_1, x15_1, rfl, HA, HK1, HO_6, HO_307001, BKc2, BK306, BK307, HB⟩ := hrel
  have hl6_1 := (Kd.R_reads' HO_6.out).1
  rw [hl6_1] at HO_6
  (try simp only [hl6_1])
  (try simp only [hl6_1] at BKc2)
  (try simp only [hl6_1] at BK306)
  (try simp only [hl6_1] at BK307)
  (try simp only [hl6_1] at HO_307001)
  cases gk with
  | zero => exact absurd HA.out (by simp [dom_Dom_less_at_dom_Dom_Only_1.l0])
  | succ k1 =>
   have H := HA.out
   clear HA
   simp only [dom_Dom_less_at_dom_Dom_Only_1.l0] at H
   by_cases c12 : x15_1 < (t308.length : Int)
   ·
    rw [if_pos c12] at H
    have c12b0 : decide (x15_1 < (t308.length : Int)) = true := decide_eq_true c12
    clear c12
    by_cases c13 : 0 ≤ x15_1
    ·
     rw [if_pos c13] at H
     have c13b0 : decide (0 ≤ x15_1) = true := decide_eq_true c13
     clear c13
     by_cases c14 : x15_1 < (x6_1.length : Int)
     ·
      rw [if_pos c14] at H
      have c14b0 : decide (x15_1 < (x6_1.length : Int)) = true := decide_eq_true c14
      clear c14
      replace H := Option.bind_eq_some_iff.mp H
      obtain ⟨t312, A150, H⟩ := H
      replace H : (dom_Dom_less_at_dom_Dom_Only_1.l0 k1 (x6_1.set (x15_1 : Int).toNat (Go.bits .and .u64 (rd x6_1 x15_1) t312)) (t308.length : Int) (wrap64 (x15_1 + 1)) a0_0 l0_1 a0_2 a0_3 a0_4 a2_0) = some (r1, r2, r3, r4, r5, r6) := H
      have A15 := Aside0.mk A150
      clear A150
      obtain ⟨y313, hy313⟩ : ∃ y_ : List Int, y_ = (x6_1.set (x15_1 : Int).toNat (Go.bits .and .u64 (rd x6_1 x15_1) t312)) := ⟨_, rfl⟩
      replace H : (dom_Dom_less_at_dom_Dom_Only_1.l0 k1 y313 (t308.length : Int) (wrap64 (x15_1 + 1)) a0_0 l0_1 a0_2 a0_3 a0_4 a2_0) = some (r1, r2, r3, r4, r5, r6) := by first | (rw [hy313]; with_reducible exact H) | (have H2_ := (Option.bind_some _ _).symm.trans H; rw [hy313]; with_reducible exact H2_) | (have H2_ := (Option.bind_some _ _).symm.trans H; with_reducible exact H2_) | with_reducible exact H | (rw [hy313]; exact H) | exact H
      have Ny313 := Aside0.mk hy313
      clear hy313
      have H' := Aside0.mk H
      clear H
      have p311 : 0 ≤ (x15_1 : Int) := dq_
      have q311 : x15_1 < (x6_1.length : Int) := dq_
      obtain ⟨ad311, e311, hx311_0⟩ := Kd.at_int (Kd.R_reads' HO_6.out).2.2 x15_1 p311 q311
      cases e311
      replace p311 := eq_true p311
      replace q311 := eq_true q311
      have hnb17 := NB306_7002.out
      have hnc17 := NB7002_306.out
      have hnb18 := NB306_307.out
      have hnc18 := NB307_306.out
      obtain ⟨_, _, _, _, _, _, _, _, _, _⟩ := cel5_ BK306.out
      go_wp2_with (first | (go_at_call 59; (with_reducible refine (dom_Dom_Only_1.calls (wrap64 (a0_0 + (wrap64 (64 * x15_1)))) (rd x6_1 x15_1) B2 a2_0 t312 _ ?side1 A15.out).mono ?_); (case side1 => exact by refine bk_ ?_; exact BKc2.out); rintro e w' ⟨rfl, ⟨nd, rfl⟩⟩; (try (rw [drewN_self wr]; generalize hq_ : World.drewN wr _ = wr; replace HO_307001 : Aside0 (Kd.V (Kd.int .u64) 80 wr w.heap.size (fun k_ => (P0_1_ k_ ∨ w.heap.size ≤ k_) ∧ some k_ ≠ (.slice (some ad311) x6_1.length co11 : Value).ownBlock ∧ k_ ≠ gb306 ∧ k_ ≠ gb307) (.slice A0_1 l0_1.length c0_1) l0_1) := ⟨by rw [← hq_]; exact (vV_ HO_307001.out)⟩; replace HO_6 : Aside0 (Kd.R (Kd.int .u64) 80 wr w.heap.size (fun k_ => (w.heap.size ≤ k_)) (.slice (some ad311) x6_1.length co11) x6_1) := ⟨by rw [← hq_]; exact (vR_ HO_6.out)⟩; replace BK306 : Aside0 (wr.heap[gb306]? = some (.cells #[.int .i64 a0_0, .slice A0_1 l0_1.length c0_1, .int .i64 a0_2, .int .i64 a0_3, .int .i64 a0_4] 58 (0, 0))) := ⟨by rw [← hq_]; exact (bk_ BK306.out)⟩; replace BK307 : Aside0 (wr.heap[gb307]? = some (.cells #[.int .i64 0, .slice none 0 0, .int .i64 0, .int .i64 0, .int .i64 0] 58 (0, 0))) := ⟨by rw [← hq_]; exact (bk_ BK307.out)⟩; replace BKc2 : Aside0 (wr.heap[B2]? = some (.cells #[.int .i64 a2_0] 3 (0, 0))) := ⟨by rw [← hq_]; exact (bk_ BKc2.out)⟩; replace HB : Aside0 (Below w.heap.size w wr) := ⟨by rw [← hq_]; exact bel_⟩; clear hq_)); (try (obtain ⟨_, _⟩ := cel1_ BKc2.out)); (try (obtain ⟨_, _, _, _, _, _, _, _, _, _⟩ := cel5_ BK306.out)); (try (obtain ⟨_, _, _, _, _, _, _, _, _, _⟩ := cel5_ BK307.out)); have p16 : 0 ≤ (x15_1 : Int) := dq_; have q16 : (x15_1 : Int) < ((x6_1.length : Int) : Int) := dq_; obtain ⟨go16, co16, eo16, gb16, gl16, cl16, HG16⟩ := Kd.R_form HO_6.out (by omega); (first | cases eo16 | (injection eo16 with ea_ en_ ec_; (first | subst ea_ | (injection ea_ with ea_; subst ea_)); subst ec_; clear en_)); have GB16 := Aside0.mk gb16; have GG16 := Aside0.mk HG16; clear gb16 gl16 HG16; (first | simp only [add_plain] at hx311_0 | skip); obtain ⟨hx16_0, hf16_0⟩ := Kd.R_celln 0 HO_6.out (x15_1 : Int) p16 q16; replace p16 := eq_true p16; replace q16 := eq_true q16; obtain ⟨hy23_, hz23_⟩ := Kd.R_celln 0 HO_6.out (x15_1 : Int) (dq_) (dq_); have HP23 := Kd.R_putg HO_6.out (x15_1 : Int) (Go.bits .and .u64 (rd x6_1 x15_1) t312)) | ((with_reducible refine gate_store (t := 80) (p := 32) rfl ?_); refine store_event (t := 80) (p := 32) (v := ?vo_w24) (w1 := (wr.setCell ⟨go16, (x15_1 : Int).toNat, none⟩ (.int .u64 (Go.bits .and .u64 (rd x6_1 x15_1) t312)))) ?hg ?ho ?hn ?hr ?_; (case ho => rfl); (case hg => rfl); (case hn => rfl); (case hr => first | (go_simp; done) | (go_simp; rfl)); intro w24 hw; have hg : wr.grownBy w24 (some go16) := (by rw [hw]; exact HP23.2); have hp_ : Kd.R (Kd.int .u64) 80 w24 w.heap.size (fun k_ => (w.heap.size ≤ k_)) (.slice (some ⟨go16, 0, none⟩) x6_1.length co11) y313 := (by rw [hw, Ny313.out]; exact HP23.1); clear HP23; replace HO_307001 := Aside0.mk (Kd.V_afterv (v := (.slice (some ⟨go16, 0, none⟩) x6_1.length co11)) (v1 := (.slice (some ⟨go16, 0, none⟩) x6_1.length co11)) (ok := (fun k_ => (P0_1_ k_ ∨ w.heap.size ≤ k_) ∧ k_ ≠ gb306 ∧ k_ ≠ gb307)) (by refine vV_ ?_; exact Kd.V_mono HO_307001.out (fun _ hk => ⟨⟨hk.1, ⟨hk.2.2.1, hk.2.2.2⟩⟩, hk.2.1⟩)) hg (.inl rfl)); replace BKc2 := Aside0.mk (blk_grown (bk_ BKc2.out) hg (Kd.R_ne HO_6.out BKc2.out (by decide))); replace BK306 := Aside0.mk (blk_grown (bk_ BK306.out) hg (Kd.R_ne HO_6.out BK306.out (by decide))); replace BK307 := Aside0.mk (blk_grown (bk_ BK307.out) hg (Kd.R_ne HO_6.out BK307.out (by decide))); replace HO_6 := Aside0.mk (hp_); replace HB := Aside0.mk ((by rw [hw]; exact below_set (HB.out) GB16.out : Below w.heap.size w w24)); clear hg hw hp_))
      (try simp only [← hl6_1])
      go_roundg k1
      case measure => have := HK1.out; omega
      case rel => exact ⟨(y313), (wrap64 (x15_1 + 1)), eq_, H', ⟨by have := HK1.out; omega⟩, ⟨by (try simp only [hl6_1]); refine vR_ ?_; exact HO_6.out⟩, ⟨by (try simp only [hl6_1]); refine vV_ ?_; exact Kd.V_mono HO_307001.out (fun _ hk => ⟨hk.1.1, ⟨hk.2, ⟨hk.1.2.1, hk.1.2.2⟩⟩⟩)⟩, ⟨by (try simp only [hl6_1]); refine bk_ ?_; exact BKc2.out⟩, ⟨by (try simp only [hl6_1]); refine bk_ ?_; exact BK306.out⟩, ⟨by (try simp only [hl6_1]); refine bk_ ?_; exact BK307.out⟩, ⟨bel_⟩⟩
     ·
      rw [if_neg c14] at H
      exact absurd H (by simp)
    ·
     rw [if_neg c13] at H
     exact absurd H (by simp)
   ·
    rw [if_neg c12] at H
    have c12b0 : decide (x15_1 < (t308.length : Int)) = false := decide_eq_false c12
    (try (have c12b0q := c12b0; simp only [hl6_1] at c12b0q))
    clear c12
    replace H := Option.bind_eq_some_iff.mp H
    obtain ⟨⟨t314, t315, t318, t319, t320⟩, A250, H⟩ := H
    replace H : (if t320 = a0_4 then (some (a0_0, l0_1, a0_2, a0_3, a0_4, 0)) else (if t320 = 0 then (none) else (if t320 = 1 then (some (t314, t315, t318, t319, t320, 3)) else (none)))) = some (r1, r2, r3, r4, r5, r6) := H
    have A25 := Aside0.mk A250
    clear A250
    by_cases c26 : t320 = a0_4
    ·
     rw [if_pos c26] at H
     have c26b0 : (t320 == a0_4) = true := beq_iff_eq.mpr c26
     have c26b1 : (t320 != a0_4) = false := bne_eq_false_iff_eq.mpr c26
     clear c26
     simp only [Option.some.injEq, Prod.mk.injEq] at H
     obtain ⟨rfl, rfl, rfl, rfl, rfl, rfl⟩ := H
     have hnb27 := NB306_7002.out
     have hnc27 := NB7002_306.out
     have hnb28 := NB306_307.out
     have hnc28 := NB307_306.out
     obtain ⟨_, _, _, _, _, _, _, _, _, _⟩ := cel5_ BK306.out
     go_wp2_with (first | ((with_reducible refine gate_callee (f := 65) rfl ?_); refine goesL_ (some 37) rfl rfl Tryz.func65 (by kernel_rfl) rfl #[.int .i64 a0_0, .slice Ao11 x6_1.length co11] rfl ar_ ?_; (with_reducible refine (dom_made.calls k1 a0_0 (fun k_ => some k_ = (.slice Ao11 x6_1.length co11 : Value).ownBlock) _ _ x6_1 t314 t315 t318 t319 t320 _ ?_ ?_ A25.out).mono ?_); exact Kd.R_V (Kd.R_tight rfl (Kd.R_types (Kd.R_types (Kd.R_types (HO_6.out) BKc2.out (by decide)) BK306.out (by decide)) BK307.out (by decide))); exact ca_ ((Kd.C_below HRtab.out HB.out)); rintro e w30 ⟨v316, rfl, ho0, hb⟩; refine ⟨_, rfl, ?_⟩; replace HO_307001 := Aside0.mk (Kd.V_below (vV_ HO_307001.out) hb); have HO317 := Aside0.mk (Kd.V_lower (Kd.V_mono (ok' := fun k_ => (P0_1_ k_ ∨ w.heap.size ≤ k_) ∧ k_ ≠ gb306 ∧ k_ ≠ gb307) ho0 (fun k_ hk_ => ⟨Or.elim hk_ (fun hs_ => (.inr (((Kd.R_types (Kd.R_types (Kd.R_types (HO_6.out) BKc2.out (by decide)) BK306.out (by decide)) BK307.out (by decide)).1 k_ hs_.symm).1.1.1))) (fun hn_ => (.inr (Nat.le_trans (below_size bel_) hn_))), Or.elim hk_ (fun hs_ => ((Kd.R_types (Kd.R_types (Kd.R_types (HO_6.out) BKc2.out (by decide)) BK306.out (by decide)) BK307.out (by decide)).1 k_ hs_.symm).1.2) (fun hn_ => (Kd.freshB (bk_ BK306.out) k_ hn_)), Or.elim hk_ (fun hs_ => ((Kd.R_types (Kd.R_types (Kd.R_types (HO_6.out) BKc2.out (by decide)) BK306.out (by decide)) BK307.out (by decide)).1 k_ hs_.symm).2) (fun hn_ => (Kd.freshB (bk_ BK307.out) k_ hn_))⟩)) (below_size bel_)); replace HO_6 := Aside0.mk (Kd.R_below (vR_ HO_6.out) hb); replace BKc2 := Aside0.mk (blk_below (bk_ BKc2.out) hb); replace BK306 := Aside0.mk (blk_below (bk_ BK306.out) hb); replace BK307 := Aside0.mk (blk_below (bk_ BK307.out) hb); replace HB := Aside0.mk (below_step bel_ hb); clear hb ho0) | ((with_reducible refine gate_dst (N := 9) rfl ?_); refine bxe_ (N := 9) (cs := #[.int .i64 0, .slice none 0 0, .int .i64 0, .int .i64 0, .int .i64 0]) (t := 58) ?_; intro gb321 hg w31 hbox hb; replace HO_6 := Aside0.mk (Kd.R_below (vR_ HO_6.out) hb); replace HO_307001 := Aside0.mk (Kd.V_below (Kd.V_elderB (vV_ HO_307001.out) gb321 (Nat.le_of_eq hg.symm)) hb); replace HO317 := Aside0.mk (Kd.V_below (Kd.V_elderB (vV_ HO317.out) gb321 (Nat.le_of_eq hg.symm)) hb); have BK321 := Aside0.mk (hbox); have GW321 := Aside0.mk (by rw [hg]; exact (below_size bel_) : w.heap.size ≤ gb321); have GE321 := GW321; replace HB := Aside0.mk (below_step bel_ hb); have NB7002_321 := Aside0.mk ((by rw [hg]; exact Nat.ne_of_lt (blk_lt (bk_ BKc2.out)) : B2 ≠ gb321)); have NB321_7002 := Aside0.mk ((by rw [hg]; exact Nat.ne_of_gt (blk_lt (bk_ BKc2.out)) : gb321 ≠ B2)); replace BKc2 := Aside0.mk (blk_below (bk_ BKc2.out) hb); have NB306_321 := Aside0.mk ((by rw [hg]; exact Nat.ne_of_lt (blk_lt (bk_ BK306.out)) : gb306 ≠ gb321)); have NB321_306 := Aside0.mk ((by rw [hg]; exact Nat.ne_of_gt (blk_lt (bk_ BK306.out)) : gb321 ≠ gb306)); replace BK306 := Aside0.mk (blk_below (bk_ BK306.out) hb); have NB307_321 := Aside0.mk ((by rw [hg]; exact Nat.ne_of_lt (blk_lt (bk_ BK307.out)) : gb307 ≠ gb321)); have NB321_307 := Aside0.mk ((by rw [hg]; exact Nat.ne_of_gt (blk_lt (bk_ BK307.out)) : gb321 ≠ gb307)); replace BK307 := Aside0.mk (blk_below (bk_ BK307.out) hb); clear hb hbox hg; have hnb32 := NB321_7002.out; have hnc32 := NB7002_321.out; have hnb33 := NB321_306.out; have hnc33 := NB306_321.out; have hnb34 := NB321_307.out; have hnc34 := NB307_321.out; obtain ⟨_, _, _, _, _, _, _, _, _, _⟩ := cel5_ BK321.out; obtain ⟨Ao36, co36, eo36⟩ := Kd.V_slice HO317.out; subst eo36; obtain ⟨_, _, _, _, _, _, _, _, _, _⟩ := cel5_ BK306.out; have hnb38 := NB307_7002.out; have hnc38 := NB7002_307.out; obtain ⟨_, _, _, _, _, _, _, _, _, _⟩ := cel5_ BK307.out))
     refine bodyPost_ret (results_ct rfl _ _ gb307 58 #[.int .i64 a0_0, .slice A0_1 l0_1.length c0_1, .int .i64 a0_2, .int .i64 a0_3, .int .i64 a0_4] (0, 0) _ rfl (by refine bk_ ?_; refine blk_put (cs := #[.int .i64 a0_0, .slice A0_1 l0_1.length c0_1, .int .i64 a0_2, .int .i64 a0_3, .int .i64 0]) ?_ 4 _ rfl; refine bk_ ?_; refine blk_put (cs := #[.int .i64 a0_0, .slice A0_1 l0_1.length c0_1, .int .i64 a0_2, .int .i64 0, .int .i64 0]) ?_ 3 _ rfl; refine bk_ ?_; refine blk_put (cs := #[.int .i64 a0_0, .slice A0_1 l0_1.length c0_1, .int .i64 0, .int .i64 0, .int .i64 0]) ?_ 2 _ rfl; refine bk_ ?_; refine blk_put (cs := #[.int .i64 a0_0, .slice none 0 0, .int .i64 0, .int .i64 0, .int .i64 0]) ?_ 1 _ rfl; refine bk_ ?_; refine blk_put (cs := #[.int .i64 0, .slice none 0 0, .int .i64 0, .int .i64 0, .int .i64 0]) ?_ 0 _ rfl; refine bk_ ?_; refine blk_far ?_ NB307_321.out _; refine bk_ ?_; refine blk_far ?_ NB307_321.out _; refine bk_ ?_; refine blk_far ?_ NB307_321.out _; refine bk_ ?_; refine blk_far ?_ NB307_321.out _; refine bk_ ?_; refine blk_far ?_ NB307_321.out _; refine bk_ ?_; exact BK307.out) Tryz.underlying58 rfl (by kernel_rfl)) rfl ?_
     exact ⟨_, by first | rfl | (simp [errW_none, errW_some] <;> rfl) | (simp [*, errW_none, errW_some] <;> rfl), by refine vV_ ?_; exact Kd.V_mono (Kd.V_far (Kd.V_far (Kd.V_far (Kd.V_far (Kd.V_far (Kd.V_far (Kd.V_far (Kd.V_far (Kd.V_far (Kd.V_far (Kd.V_mono (Kd.V_mono HO_307001.out (fun k_ hk => (⟨hk, hk.2⟩ : _ ∧ k_ ≠ gb321))) (fun k_ hk => (⟨hk, hk.1.1.2.2.2⟩ : _ ∧ k_ ≠ gb307))) (fun _ hk => hk.1.2) (.int .i64 t314)) (fun _ hk => hk.1.2) (.slice Ao36 t315.length co36)) (fun _ hk => hk.1.2) (.int .i64 t318)) (fun _ hk => hk.1.2) (.int .i64 t319)) (fun _ hk => hk.1.2) (.int .i64 t320)) (fun _ hk => hk.2) _) (fun _ hk => hk.2) _) (fun _ hk => hk.2) _) (fun _ hk => hk.2) _) (fun _ hk => hk.2) _) (fun _ hk => hk.1.1.1.1), bel_⟩
    ·
     rw [if_neg c26] at H
     have c26b0 : (t320 == a0_4) = false := beq_eq_false_iff_ne.mpr c26
     have c26b1 : (t320 != a0_4) = true := bne_iff_ne.mpr c26
     by_cases c40 : t320 = 0
     ·
      rw [if_pos c40] at H
      exact absurd H (by simp)
     ·
      rw [if_neg c40] at H
      have c40b0 : (t320 == 0) = false := beq_eq_false_iff_ne.mpr c40
      have c40b1 : (t320 != 0) = true := bne_iff_ne.mpr c40
      by_cases c41 : t320 = 1
      ·
       rw [if_pos c41] at H
       have c41b0 : (t320 == 1) = true := beq_iff_eq.mpr c41
       have c41b1 : (t320 != 1) = false := bne_eq_false_iff_eq.mpr c41
       clear c41
       simp only [Option.some.injEq, Prod.mk.injEq] at H
       obtain ⟨rfl, rfl, rfl, rfl, rfl, rfl⟩ := H
       have hnb42 := NB306_7002.out
       have hnc42 := NB7002_306.out
       have hnb43 := NB306_307.out
       have hnc43 := NB307_306.out
       obtain ⟨_, _, _, _, _, _, _, _, _, _⟩ := cel5_ BK306.out
       go_wp2_with (first | ((with_reducible refine gate_callee (f := 65) rfl ?_); refine goesL_ (some 37) rfl rfl Tryz.func65 (by kernel_rfl) rfl #[.int .i64 a0_0, .slice Ao11 x6_1.length co11] rfl ar_ ?_; (with_reducible refine (dom_made.calls k1 a0_0 (fun k_ => some k_ = (.slice Ao11 x6_1.length co11 : Value).ownBlock) _ _ x6_1 t314 t315 t318 t319 t320 _ ?_ ?_ A25.out).mono ?_); exact Kd.R_V (Kd.R_tight rfl (Kd.R_types (Kd.R_types (Kd.R_types (HO_6.out) BKc2.out (by decide)) BK306.out (by decide)) BK307.out (by decide))); exact ca_ ((Kd.C_below HRtab.out HB.out)); rintro e w45 ⟨v316, rfl, ho0, hb⟩; refine ⟨_, rfl, ?_⟩; have HO317 := Aside0.mk (Kd.V_lower (Kd.V_mono (ok' := fun k_ => (P0_1_ k_ ∨ w.heap.size ≤ k_) ∧ k_ ≠ gb306 ∧ k_ ≠ gb307) ho0 (fun k_ hk_ => ⟨Or.elim hk_ (fun hs_ => (.inr (((Kd.R_types (Kd.R_types (Kd.R_types (HO_6.out) BKc2.out (by decide)) BK306.out (by decide)) BK307.out (by decide)).1 k_ hs_.symm).1.1.1))) (fun hn_ => (.inr (Nat.le_trans (below_size bel_) hn_))), Or.elim hk_ (fun hs_ => ((Kd.R_types (Kd.R_types (Kd.R_types (HO_6.out) BKc2.out (by decide)) BK306.out (by decide)) BK307.out (by decide)).1 k_ hs_.symm).1.2) (fun hn_ => (Kd.freshB (bk_ BK306.out) k_ hn_)), Or.elim hk_ (fun hs_ => ((Kd.R_types (Kd.R_types (Kd.R_types (HO_6.out) BKc2.out (by decide)) BK306.out (by decide)) BK307.out (by decide)).1 k_ hs_.symm).2) (fun hn_ => (Kd.freshB (bk_ BK307.out) k_ hn_))⟩)) (below_size bel_)); replace BKc2 := Aside0.mk (blk_below (bk_ BKc2.out) hb); replace BK306 := Aside0.mk (blk_below (bk_ BK306.out) hb); replace BK307 := Aside0.mk (blk_below (bk_ BK307.out) hb); replace HB := Aside0.mk (below_step bel_ hb); clear hb ho0) | ((with_reducible refine gate_dst (N := 9) rfl ?_); refine bxe_ (N := 9) (cs := #[.int .i64 0, .slice none 0 0, .int .i64 0, .int .i64 0, .int .i64 0]) (t := 58) ?_; intro gb321 hg w46 hbox hb; replace HO317 := Aside0.mk (Kd.V_below (Kd.V_elderB (vV_ HO317.out) gb321 (Nat.le_of_eq hg.symm)) hb); have BK321 := Aside0.mk (hbox); have GW321 := Aside0.mk (by rw [hg]; exact (below_size bel_) : w.heap.size ≤ gb321); have GE321 := GW321; replace HB := Aside0.mk (below_step bel_ hb); have NB7002_321 := Aside0.mk ((by rw [hg]; exact Nat.ne_of_lt (blk_lt (bk_ BKc2.out)) : B2 ≠ gb321)); have NB321_7002 := Aside0.mk ((by rw [hg]; exact Nat.ne_of_gt (blk_lt (bk_ BKc2.out)) : gb321 ≠ B2)); have NB306_321 := Aside0.mk ((by rw [hg]; exact Nat.ne_of_lt (blk_lt (bk_ BK306.out)) : gb306 ≠ gb321)); have NB321_306 := Aside0.mk ((by rw [hg]; exact Nat.ne_of_gt (blk_lt (bk_ BK306.out)) : gb321 ≠ gb306)); replace BK306 := Aside0.mk (blk_below (bk_ BK306.out) hb); have NB307_321 := Aside0.mk ((by rw [hg]; exact Nat.ne_of_lt (blk_lt (bk_ BK307.out)) : gb307 ≠ gb321)); have NB321_307 := Aside0.mk ((by rw [hg]; exact Nat.ne_of_gt (blk_lt (bk_ BK307.out)) : gb321 ≠ gb307)); replace BK307 := Aside0.mk (blk_below (bk_ BK307.out) hb); clear hb hbox hg; have hnb47 := NB321_7002.out; have hnc47 := NB7002_321.out; have hnb48 := NB321_306.out; have hnc48 := NB306_321.out; have hnb49 := NB321_307.out; have hnc49 := NB307_321.out; obtain ⟨_, _, _, _, _, _, _, _, _, _⟩ := cel5_ BK321.out; obtain ⟨Ao51, co51, eo51⟩ := Kd.V_slice HO317.out; subst eo51; obtain ⟨_, _, _, _, _, _, _, _, _, _⟩ := cel5_ BK306.out; have hnb53 := NB307_7002.out; have hnc53 := NB7002_307.out; obtain ⟨_, _, _, _, _, _, _, _, _, _⟩ := cel5_ BK307.out))
       refine bodyPost_ret (results_ct rfl _ _ gb307 58 #[.int .i64 t314, .slice Ao51 t315.length co51, .int .i64 t318, .int .i64 t319, .int .i64 t320] (0, 0) _ rfl (by refine bk_ ?_; refine blk_put (cs := #[.int .i64 t314, .slice Ao51 t315.length co51, .int .i64 t318, .int .i64 t319, .int .i64 0]) ?_ 4 _ rfl; refine bk_ ?_; refine blk_put (cs := #[.int .i64 t314, .slice Ao51 t315.length co51, .int .i64 t318, .int .i64 0, .int .i64 0]) ?_ 3 _ rfl; refine bk_ ?_; refine blk_put (cs := #[.int .i64 t314, .slice Ao51 t315.length co51, .int .i64 0, .int .i64 0, .int .i64 0]) ?_ 2 _ rfl; refine bk_ ?_; refine blk_put (cs := #[.int .i64 t314, .slice none 0 0, .int .i64 0, .int .i64 0, .int .i64 0]) ?_ 1 _ rfl; refine bk_ ?_; refine blk_put (cs := #[.int .i64 0, .slice none 0 0, .int .i64 0, .int .i64 0, .int .i64 0]) ?_ 0 _ rfl; refine bk_ ?_; refine blk_far ?_ NB307_321.out _; refine bk_ ?_; refine blk_far ?_ NB307_321.out _; refine bk_ ?_; refine blk_far ?_ NB307_321.out _; refine bk_ ?_; refine blk_far ?_ NB307_321.out _; refine bk_ ?_; refine blk_far ?_ NB307_321.out _; refine bk_ ?_; exact BK307.out) Tryz.underlying58 rfl (by kernel_rfl)) rfl ?_
       exact ⟨_, by first | rfl | (simp [errW_none, errW_some] <;> rfl) | (simp [*, errW_none, errW_some] <;> rfl), by refine vV_ ?_; exact Kd.V_mono (Kd.V_far (Kd.V_far (Kd.V_far (Kd.V_far (Kd.V_far (Kd.V_far (Kd.V_far (Kd.V_far (Kd.V_far (Kd.V_far (Kd.V_mono (Kd.V_mono HO317.out (fun k_ hk => (⟨hk, hk.2⟩ : _ ∧ k_ ≠ gb321))) (fun k_ hk => (⟨hk, hk.1.1.2.2⟩ : _ ∧ k_ ≠ gb307))) (fun _ hk => hk.1.2) (.int .i64 t314)) (fun _ hk => hk.1.2) (.slice Ao51 t315.length co51)) (fun _ hk => hk.1.2) (.int .i64 t318)) (fun _ hk => hk.1.2) (.int .i64 t319)) (fun _ hk => hk.1.2) (.int .i64 t320)) (fun _ hk => hk.2) _) (fun _ hk => hk.2) _) (fun _ hk => hk.2) _) (fun _ hk => hk.2) _) (fun _ hk => hk.2) _) (fun _ hk => hk.1.1.1.1), bel_⟩
      ·
       rw [if_neg c41] at H
       exact absurd H (by simp)

end Go.Proofs.YtmhchlbbfpmdgaaGreatDoor.XClauseKeeps
