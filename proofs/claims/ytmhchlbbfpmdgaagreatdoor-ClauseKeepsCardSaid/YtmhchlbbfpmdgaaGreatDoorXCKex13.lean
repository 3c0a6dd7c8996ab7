-- by xprint.py, a program of this session, over the kit's print
import Derived.Test.YtmhchlbbfpmdgaaGreatDoorXCKex0
import Derived.Test.YtmhchlbbfpmdgaaGreatDoorXCKex7
import Derived.Test.YtmhchlbbfpmdgaaGreatDoorXCKex12
import Derived.Test.YtmhchlbbfpmdgaaGreatDoorSq
namespace Go.Proofs.YtmhchlbbfpmdgaaGreatDoor.XClauseKeeps
open Go.RowKit Go.Proofs.YtmhchlbbfpmdgaaGreatDoor.Sq Go.Proofs.YtmhchlbbfpmdgaaGreatDoorW.PrintWords Go.Proofs.YtmhchlbbfpmdgaaGreatDoorW.PrintLast Go.Proofs.YtmhchlbbfpmdgaaGreatDoorW.PrintMore
attribute [local go_sem] max2_int min2_int max_two min_two max_three min_three max_four min_four   -- for this text's walks alone
set_option linter.unusedVariables false
set_option linter.unusedSimpArgs false

/-! ### dom_made: function 65 -/
def dom_made.l0 : Nat → Int → List Int → Int → Int → Int → List Int → Int → Int → Int → Option (Int × List Int × Int × Int × Int)
 | 0, _, _, _, _, _, _, _, _, _ => none
 | k + 1, x0, x11, x12, x13, x299000, x299001, x299002, x299003, x299004 => if x13 < x12 then (if 0 ≤ x13 then (if x13 < (x11.length : Int) then (if (rd x11 x13) = 0 then (dom_made.l0 k x0 x11 x12 (wrap64 (x13 + 1)) x299000 x299001 x299002 x299003 x299004) else (if x299004 = 0 then ((bits_TrailingZeros64.f (rd x11 x13)).bind fun t300 => ((bits_LeadingZeros64.f (rd x11 x13)).bind fun t301 => ((bits_OnesCount64.f (rd x11 x13)).bind fun t302 => (dom_made.l0 k x0 x11 x12 (wrap64 (x13 + 1)) x299000 x299001 (wrap64 ((wrap64 (x0 + (wrap64 (64 * x13)))) + t300)) (wrap64 ((wrap64 ((wrap64 ((wrap64 (x0 + (wrap64 (64 * x13)))) + 64)) - 1)) - t301)) (wrap64 (x299004 + t302)))))) else ((bits_LeadingZeros64.f (rd x11 x13)).bind fun t303 => ((bits_OnesCount64.f (rd x11 x13)).bind fun t304 => (dom_made.l0 k x0 x11 x12 (wrap64 (x13 + 1)) x299000 x299001 x299002 (wrap64 ((wrap64 ((wrap64 ((wrap64 (x0 + (wrap64 (64 * x13)))) + 64)) - 1)) - t303)) (wrap64 (x299004 + t304))))))) else (none)) else (none)) else (some (x299000, x299001, x299002, x299003, x299004))
def dom_made.f (k : Nat) (a0 : Int) (l1 : List Int) : Option (Int × List Int × Int × Int × Int) := dom_made.l0 k a0 l1 (l1.length : Int) 0 a0 l1 0 0 0
theorem dom_made.mono_l : ∀ k, (∀ y0 y1 y2 y3 y4 y5 y6 y7 y8, LeO (dom_made.l0 k y0 y1 y2 y3 y4 y5 y6 y7 y8) (dom_made.l0 (k + 1) y0 y1 y2 y3 y4 y5 y6 y7 y8))
 | 0 => fun _ _ _ _ _ _ _ _ _ r h => by simp [dom_made.l0] at h
 | k + 1 => by
  have ih0 := dom_made.mono_l k
  ·
   intro y0 y1 y2 y3 y4 y5 y6 y7 y8
   unfold dom_made.l0
   exact leo_
theorem dom_made.mono : ∀ a0 a1 k, LeO (dom_made.f k a0 a1) (dom_made.f (k + 1) a0 a1) := by
 intro a0 a1 k
 have ih0 := dom_made.mono_l k
 unfold dom_made.f
 exact leo_
set_option maxHeartbeats 8000000 in
set_option maxRecDepth 100000 in
theorem dom_made.calls (k : Nat) (a0 : Int) (P1_ : Nat → Prop) (A1 : Option Addr) (c1 : Nat) (l1 : List Int) (r1 : Int) (r2 : List Int) (r3 : Int) (r4 : Int) (r5 : Int) (w : World) (hs1 : Kd.V (Kd.int .u64) 80 w w.heap.size (fun k_ => P1_ k_) (.slice A1 l1.length c1) l1) (hrtab : Kd.C (Kd.int .u8) w (some ⟨0, 0, none⟩) tabL.length tabL) (h : dom_made.f k a0 l1 = some (r1, r2, r3, r4, r5)) :
  Calls Tryz.prog 65 #[.int .i64 a0, .slice A1 l1.length c1] w fun e w' => ∃ v1_ : Value, e = .returned (.agg #[.int .i64 r1, v1_, .int .i64 r3, .int .i64 r4, .int .i64 r5]) ∧ Kd.V (Kd.int .u64) 80 w' w.heap.size (fun k_ => (P1_ k_ ∨ w.heap.size ≤ k_)) v1_ r2 ∧ Below w.heap.size w w' := by
 have hu58 := Tryz.underlying58
 have HO1 := Aside0.mk (show Kd.V (Kd.int .u64) 80 w w.heap.size (fun k_ => (P1_ k_ ∨ w.heap.size ≤ k_)) (.slice A1 l1.length c1) l1 from Kd.V_mono hs1 (fun k_ hk => .inl hk))
 have HRtab := Aside0.mk hrtab
 clear hrtab
 have HB := Aside0.mk (Below.refl w.heap.size w)
 have H : (dom_made.l0 k a0 l1 (l1.length : Int) 0 a0 l1 0 0 0) = some (r1, r2, r3, r4, r5) := h
 clear h
 have H' := Aside0.mk H
 clear H
 go_enter Tryz.func65, Tryz.ntmps65
 go_wp2_with (first | ((with_reducible refine gate_dst (N := 4) rfl ?_); refine bxe_ (N := 4) (cs := #[.int .i64 0, .slice none 0 0, .int .i64 0, .int .i64 0, .int .i64 0]) (t := 58) ?_; intro gb297 hg w3 hbox hb; replace HO1 := Aside0.mk (Kd.V_below (Kd.V_elderB (vV_ HO1.out) gb297 (Nat.le_of_eq hg.symm)) hb); have BK297 := Aside0.mk (hbox); have GW297 := Aside0.mk (by rw [hg]; exact (below_size bel_) : w.heap.size ≤ gb297); have GE297 := GW297; replace HB := Aside0.mk (below_step bel_ hb); clear hb hbox hg) | ((with_reducible refine gate_dst (N := 5) rfl ?_); refine bxe_ (N := 5) (cs := #[.int .i64 0, .slice none 0 0, .int .i64 0, .int .i64 0, .int .i64 0]) (t := 58) ?_; intro gb298 hg w4 hbox hb; replace HO1 := Aside0.mk (Kd.V_below (Kd.V_elderB (vV_ HO1.out) gb298 (Nat.le_of_eq hg.symm)) hb); have BK298 := Aside0.mk (hbox); have GW298 := Aside0.mk (by rw [hg]; exact (below_size bel_) : w.heap.size ≤ gb298); have GE298 := GW298; replace HB := Aside0.mk (below_step bel_ hb); have NB297_298 := Aside0.mk ((by rw [hg]; exact Nat.ne_of_lt (blk_lt (bk_ BK297.out)) : gb297 ≠ gb298)); have NB298_297 := Aside0.mk ((by rw [hg]; exact Nat.ne_of_gt (blk_lt (bk_ BK297.out)) : gb298 ≠ gb297)); replace BK297 := Aside0.mk (blk_below (bk_ BK297.out) hb); clear hb hbox hg; have hnb5 := NB298_297.out; have hnc5 := NB297_298.out; obtain ⟨hcz6_0, hcz6_1, hcz6_2, hcz6_3, hcz6_4, hfz6_0, hfz6_1, hfz6_2, hfz6_3, hfz6_4⟩ := cel5_ BK298.out))
 go_loopg [13] k (fun kq v13 w' => ∃ (x13_1 : Int) (x299002_1 : Int) (x299003_1 : Int) (x299004_1 : Int), v13 = .int .i64 x13_1 ∧ Aside0 (dom_made.l0 kq a0 l1 (l1.length : Int) x13_1 a0 l1 x299002_1 x299003_1 x299004_1 = some (r1, r2, r3, r4, r5)) ∧ Aside0 (kq ≤ k) ∧ Aside0 (Kd.V (Kd.int .u64) 80 w' w.heap.size (fun k_ => (P1_ k_ ∨ w.heap.size ≤ k_) ∧ k_ ≠ gb297 ∧ k_ ≠ gb298) (.slice A1 l1.length c1) l1) ∧ Aside0 (Kd.V (Kd.int .u64) 80 w' w.heap.size (fun k_ => (P1_ k_ ∨ w.heap.size ≤ k_) ∧ k_ ≠ gb297 ∧ k_ ≠ gb298) (.slice A1 l1.length c1) l1) ∧ Aside0 (w'.heap[gb297]? = some (.cells #[.int .i64 0, (.slice none 0 0), .int .i64 0, .int .i64 0, .int .i64 0] 58 (0, 0))) ∧ Aside0 (w'.heap[gb298]? = some (.cells #[.int .i64 a0, (.slice A1 l1.length c1), .int .i64 x299002_1, .int .i64 x299003_1, .int .i64 x299004_1] 58 (0, 0))) ∧ Aside0 (Below w.heap.size w w'))
 case atStart => exact ⟨(0), (0), (0), (0), eq_, H', ⟨Nat.le_refl _⟩, ⟨by refine vV_ ?_; exact Kd.V_mono (Kd.V_far (Kd.V_far (Kd.V_far (Kd.V_far (Kd.V_far (Kd.V_mono HO1.out (fun k_ hk => (⟨hk, hk.2⟩ : _ ∧ k_ ≠ gb298))) (fun _ hk => hk.2) _) (fun _ hk => hk.2) _) (fun _ hk => hk.2) _) (fun _ hk => hk.2) _) (fun _ hk => hk.2) _) (fun _ hk => ⟨hk.1.1.1, ⟨hk.1.1.2, hk.1.2⟩⟩)⟩, ⟨by refine vV_ ?_; exact Kd.V_mono (Kd.V_far (Kd.V_far (Kd.V_far (Kd.V_far (Kd.V_far (Kd.V_mono HO1.out (fun k_ hk => (⟨hk, hk.2⟩ : _ ∧ k_ ≠ gb298))) (fun _ hk => hk.2) _) (fun _ hk => hk.2) _) (fun _ hk => hk.2) _) (fun _ hk => hk.2) _) (fun _ hk => hk.2) _) (fun _ hk => ⟨hk.1.1.1, ⟨hk.1.1.2, hk.1.2⟩⟩)⟩, ⟨by refine bk_ ?_; refine blk_far ?_ NB297_298.out _; refine bk_ ?_; refine blk_far ?_ NB297_298.out _; refine bk_ ?_; refine blk_far ?_ NB297_298.out _; refine bk_ ?_; refine blk_far ?_ NB297_298.out _; refine bk_ ?_; refine blk_far ?_ NB297_298.out _; refine bk_ ?_; exact BK297.out⟩, ⟨by refine bk_ ?_; refine blk_put (cs := #[.int .i64 a0, .slice A1 l1.length c1, .int .i64 0, .int .i64 0, .int .i64 0]) ?_ 4 _ rfl; refine bk_ ?_; refine blk_put (cs := #[.int .i64 a0, .slice A1 l1.length c1, .int .i64 0, .int .i64 0, .int .i64 0]) ?_ 3 _ rfl; refine bk_ ?_; refine blk_put (cs := #[.int .i64 a0, .slice A1 l1.length c1, .int .i64 0, .int .i64 0, .int .i64 0]) ?_ 2 _ rfl; refine bk_ ?_; refine blk_put (cs := #[.int .i64 a0, .slice none 0 0, .int .i64 0, .int .i64 0, .int .i64 0]) ?_ 1 _ rfl; refine bk_ ?_; refine blk_put (cs := #[.int .i64 0, .slice none 0 0, .int .i64 0, .int .i64 0, .int .i64 0]) ?_ 0 _ rfl; refine bk_ ?_; exact BK298.out⟩, ⟨bel_⟩⟩
 case round =>
  clear H'
  try clear c1
  try clear p2
  try clear c5
  try clear c6
  try clear hcz6_0
  try clear hcz6_1
  try clear hcz6_2
  try clear hcz6_3
  try clear hcz6_4
  try clear hfz6_0
  try clear hfz6_1
  try clear hfz6_2
  try clear hfz6_3
  try clear hfz6_4
  obtain ⟨x13_1, x299002_1, x299003_1, x299004_1, rfl, HA, HK1, HO_11, HO_299001, BK297, BK298, HB⟩ := hrel
  cases gk with
  | zero => exact absurd HA.out (by simp [dom_made.l0])
  | succ k1 =>
   have H := HA.out
   clear HA
   simp only [dom_made.l0] at H
   by_cases c7 : x13_1 < (l1.length : Int)
   ·
    rw [if_pos c7] at H
    have c7b0 : decide (x13_1 < (l1.length : Int)) = true := decide_eq_true c7
    clear c7
    by_cases c8 : 0 ≤ x13_1
    ·
     rw [if_pos c8] at H
     have c8b0 : decide (0 ≤ x13_1) = true := decide_eq_true c8
     clear c8
     by_cases c9 : x13_1 < (l1.length : Int)
     ·
      rw [if_pos c9] at H
      have c9b0 : decide (x13_1 < (l1.length : Int)) = true := decide_eq_true c9
      clear c9
      by_cases c10 : (rd l1 x13_1) = 0
      ·
       rw [if_pos c10] at H
       have c10b0 : ((rd l1 x13_1) == 0) = true := beq_iff_eq.mpr c10
       have c10b1 : ((rd l1 x13_1) != 0) = false := bne_eq_false_iff_eq.mpr c10
       clear c10
       have H' := Aside0.mk H
       clear H
       have p299 : 0 ≤ (x13_1 : Int) := dq_
       have q299 : x13_1 < (l1.length : Int) := dq_
       obtain ⟨ad299, e299, hx299_0⟩ := Kd.at_int (Kd.V_reads' HO_11.out).2.2 x13_1 p299 q299
       cases e299
       replace p299 := eq_true p299
       replace q299 := eq_true q299
       go_wp2
       go_roundg k1
       case measure => have := HK1.out; omega
       case rel => exact ⟨(wrap64 (x13_1 + 1)), (x299002_1), (x299003_1), (x299004_1), eq_, H', ⟨by have := HK1.out; omega⟩, ⟨by refine vV_ ?_; exact HO_11.out⟩, ⟨by refine vV_ ?_; exact HO_299001.out⟩, ⟨by refine bk_ ?_; exact BK297.out⟩, ⟨by refine bk_ ?_; exact BK298.out⟩, ⟨bel_⟩⟩
      ·
       rw [if_neg c10] at H
       have c10b0 : ((rd l1 x13_1) == 0) = false := beq_eq_false_iff_ne.mpr c10
       have c10b1 : ((rd l1 x13_1) != 0) = true := bne_iff_ne.mpr c10
       by_cases c11 : x299004_1 = 0
       ·
        rw [if_pos c11] at H
        have c11b0 : (x299004_1 == 0) = true := beq_iff_eq.mpr c11
        have c11b1 : (x299004_1 != 0) = false := bne_eq_false_iff_eq.mpr c11
        clear c11
        replace H := Option.bind_eq_some_iff.mp H
        obtain ⟨t300, A120, H⟩ := H
        replace H : ((bits_LeadingZeros64.f (rd l1 x13_1)).bind fun t301 => ((bits_OnesCount64.f (rd l1 x13_1)).bind fun t302 => (dom_made.l0 k1 a0 l1 (l1.length : Int) (wrap64 (x13_1 + 1)) a0 l1 (wrap64 ((wrap64 (a0 + (wrap64 (64 * x13_1)))) + t300)) (wrap64 ((wrap64 ((wrap64 ((wrap64 (a0 + (wrap64 (64 * x13_1)))) + 64)) - 1)) - t301)) (wrap64 (x299004_1 + t302))))) = some (r1, r2, r3, r4, r5) := H
        have A12 := Aside0.mk A120
        clear A120
        replace H := Option.bind_eq_some_iff.mp H
        obtain ⟨t301, A130, H⟩ := H
        replace H : ((bits_OnesCount64.f (rd l1 x13_1)).bind fun t302 => (dom_made.l0 k1 a0 l1 (l1.length : Int) (wrap64 (x13_1 + 1)) a0 l1 (wrap64 ((wrap64 (a0 + (wrap64 (64 * x13_1)))) + t300)) (wrap64 ((wrap64 ((wrap64 ((wrap64 (a0 + (wrap64 (64 * x13_1)))) + 64)) - 1)) - t301)) (wrap64 (x299004_1 + t302)))) = some (r1, r2, r3, r4, r5) := H
        have A13 := Aside0.mk A130
        clear A130
        replace H := Option.bind_eq_some_iff.mp H
        obtain ⟨t302, A140, H⟩ := H
        replace H : (dom_made.l0 k1 a0 l1 (l1.length : Int) (wrap64 (x13_1 + 1)) a0 l1 (wrap64 ((wrap64 (a0 + (wrap64 (64 * x13_1)))) + t300)) (wrap64 ((wrap64 ((wrap64 ((wrap64 (a0 + (wrap64 (64 * x13_1)))) + 64)) - 1)) - t301)) (wrap64 (x299004_1 + t302))) = some (r1, r2, r3, r4, r5) := H
        have A14 := Aside0.mk A140
        clear A140
        have H' := Aside0.mk H
        clear H
        have p299 : 0 ≤ (x13_1 : Int) := dq_
        have q299 : x13_1 < (l1.length : Int) := dq_
        obtain ⟨ad299, e299, hx299_0⟩ := Kd.at_int (Kd.V_reads' HO_11.out).2.2 x13_1 p299 q299
        cases e299
        replace p299 := eq_true p299
        replace q299 := eq_true q299
        have hnb15 := NB298_297.out
        have hnc15 := NB297_298.out
        obtain ⟨_, _, _, _, _, _, _, _, _, _⟩ := cel5_ BK298.out
        try go_wp2_with (first | ((with_reducible refine gate_callee (f := 48) rfl ?_); refine goesL_ (some 28) rfl rfl Tryz.func48 (by kernel_rfl) rfl #[.int .u64 (rd l1 x13_1)] rfl ar_ ?_; (with_reducible refine (bits_TrailingZeros64.calls (rd l1 x13_1) t300 _ ?_ A12.out).mono ?_); exact ca_ ((Kd.C_below HRtab.out HB.out)); rintro e w' ⟨rfl, ⟨nd, rfl⟩⟩; refine ⟨_, rfl, ?_⟩; (try (rw [drewN_self wr]; generalize hq_ : World.drewN wr _ = wr; replace HO_11 : Aside0 (Kd.V (Kd.int .u64) 80 wr w.heap.size (fun k_ => (P1_ k_ ∨ w.heap.size ≤ k_) ∧ k_ ≠ gb297 ∧ k_ ≠ gb298) (.slice (some ad299) l1.length c1) l1) := ⟨by rw [← hq_]; exact (vV_ HO_11.out)⟩; replace HO_299001 : Aside0 (Kd.V (Kd.int .u64) 80 wr w.heap.size (fun k_ => (P1_ k_ ∨ w.heap.size ≤ k_) ∧ k_ ≠ gb297 ∧ k_ ≠ gb298) (.slice (some ad299) l1.length c1) l1) := ⟨by rw [← hq_]; exact (vV_ HO_299001.out)⟩; replace BK297 : Aside0 (wr.heap[gb297]? = some (.cells #[.int .i64 0, .slice none 0 0, .int .i64 0, .int .i64 0, .int .i64 0] 58 (0, 0))) := ⟨by rw [← hq_]; exact (bk_ BK297.out)⟩; replace BK298 : Aside0 (wr.heap[gb298]? = some (.cells #[.int .i64 a0, .slice (some ad299) l1.length c1, .int .i64 x299002_1, .int .i64 x299003_1, .int .i64 x299004_1] 58 (0, 0))) := ⟨by rw [← hq_]; exact (bk_ BK298.out)⟩; replace HB : Aside0 (Below w.heap.size w wr) := ⟨by rw [← hq_]; exact bel_⟩; clear hq_)); (try (obtain ⟨_, _, _, _, _, _, _, _, _, _⟩ := cel5_ BK297.out)); (try (obtain ⟨_, _, _, _, _, _, _, _, _, _⟩ := cel5_ BK298.out))) | ((with_reducible refine gate_callee (f := 84) rfl ?_); refine goesL_ (some 38) rfl rfl Tryz.func84 (by kernel_rfl) rfl #[.int .u64 (rd l1 x13_1)] rfl ar_ ?_; (with_reducible refine (bits_LeadingZeros64.calls (rd l1 x13_1) t301 _ A13.out).mono ?_); rintro e w19 ⟨rfl, hb⟩; refine ⟨_, rfl, ?_⟩; replace HO_11 := Aside0.mk (Kd.V_below (by refine vV_ ?_; exact (Kd.V_mono (Kd.V_far (Kd.V_mono HO_11.out (fun k_ hk => (⟨hk, hk.2.2⟩ : _ ∧ k_ ≠ gb298))) (fun _ hk => hk.2) _) (fun _ h_ => h_.1))) hb); replace HO_299001 := Aside0.mk (Kd.V_below (by refine vV_ ?_; exact (Kd.V_mono (Kd.V_far (Kd.V_mono HO_299001.out (fun k_ hk => (⟨hk, hk.2.2⟩ : _ ∧ k_ ≠ gb298))) (fun _ hk => hk.2) _) (fun _ h_ => h_.1))) hb); replace BK297 := Aside0.mk (blk_below (g := gb297) (o := .cells #[.int .i64 0, .slice none 0 0, .int .i64 0, .int .i64 0, .int .i64 0] 58 (0, 0)) (by refine bk_ ?_; refine blk_far ?_ NB297_298.out _; refine bk_ ?_; exact BK297.out) hb); replace BK298 := Aside0.mk (blk_below (g := gb298) (o := .cells #[.int .i64 a0, .slice (some ad299) l1.length c1, .int .i64 (wrap64 ((wrap64 (a0 + (wrap64 (64 * x13_1)))) + t300)), .int .i64 x299003_1, .int .i64 x299004_1] 58 (0, 0)) (by refine bk_ ?_; refine blk_put (cs := #[.int .i64 a0, .slice (some ad299) l1.length c1, .int .i64 x299002_1, .int .i64 x299003_1, .int .i64 x299004_1]) ?_ 2 _ rfl; refine bk_ ?_; exact BK298.out) hb); replace HB := Aside0.mk (below_step bel_ hb); clear hb; obtain ⟨_, _, _, _, _, _, _, _, _, _⟩ := cel5_ BK298.out))
        obtain ⟨w21, hq_⟩ : ∃ x, x = (w19.setCell ⟨gb298, 3, none⟩ (.int .i64 (wrap64 ((wrap64 ((wrap64 ((wrap64 (a0 + (wrap64 (64 * x13_1)))) + 64)) - 1)) - t301)))) := ⟨_, rfl⟩
        replace HO_11 : Aside0 (Kd.V (Kd.int .u64) 80 w21 w.heap.size (fun k_ => (P1_ k_ ∨ w.heap.size ≤ k_) ∧ k_ ≠ gb297 ∧ k_ ≠ gb298) (.slice (some ad299) l1.length c1) l1) := ⟨by subst hq_; refine vV_ ?_; exact Kd.V_mono (Kd.V_far (Kd.V_mono HO_11.out (fun k_ hk => (⟨hk, hk.2.2⟩ : _ ∧ k_ ≠ gb298))) (fun _ hk => hk.2) _) (fun _ hk => ⟨hk.1.1, ⟨hk.1.2.1, hk.1.2.2⟩⟩)⟩
        replace HO_299001 : Aside0 (Kd.V (Kd.int .u64) 80 w21 w.heap.size (fun k_ => (P1_ k_ ∨ w.heap.size ≤ k_) ∧ k_ ≠ gb297 ∧ k_ ≠ gb298) (.slice (some ad299) l1.length c1) l1) := ⟨by subst hq_; refine vV_ ?_; exact Kd.V_mono (Kd.V_far (Kd.V_mono HO_299001.out (fun k_ hk => (⟨hk, hk.2.2⟩ : _ ∧ k_ ≠ gb298))) (fun _ hk => hk.2) _) (fun _ hk => ⟨hk.1.1, ⟨hk.1.2.1, hk.1.2.2⟩⟩)⟩
        replace BK297 : Aside0 (w21.heap[gb297]? = some (.cells #[.int .i64 0, .slice none 0 0, .int .i64 0, .int .i64 0, .int .i64 0] 58 (0, 0))) := ⟨by subst hq_; refine bk_ ?_; refine blk_far ?_ NB297_298.out _; refine bk_ ?_; exact BK297.out⟩
        replace BK298 : Aside0 (w21.heap[gb298]? = some (.cells #[.int .i64 a0, .slice (some ad299) l1.length c1, .int .i64 (wrap64 ((wrap64 (a0 + (wrap64 (64 * x13_1)))) + t300)), .int .i64 (wrap64 ((wrap64 ((wrap64 ((wrap64 (a0 + (wrap64 (64 * x13_1)))) + 64)) - 1)) - t301)), .int .i64 x299004_1] 58 (0, 0))) := ⟨by subst hq_; refine bk_ ?_; refine blk_put (cs := #[.int .i64 a0, .slice (some ad299) l1.length c1, .int .i64 (wrap64 ((wrap64 (a0 + (wrap64 (64 * x13_1)))) + t300)), .int .i64 x299003_1, .int .i64 x299004_1]) ?_ 3 _ rfl; refine bk_ ?_; exact BK298.out⟩
        replace HB : Aside0 (Below w.heap.size w w21) := ⟨by subst hq_; exact bel_⟩
        rw [← hq_]
        clear hq_
        replace HO_11 := Aside0.mk (Kd.V_drew HO_11.out)
        replace HO_299001 := Aside0.mk (Kd.V_drew HO_299001.out)
        replace BK297 := Aside0.mk (blk_drew BK297.out)
        replace BK298 := Aside0.mk (blk_drew BK298.out)
        replace HB := Aside0.mk (below_drew1 HB.out)
        refine start_ (n := 7) (S := fun w' => w'.cell? ⟨gb298, 0, none⟩ = some (.int .i64 a0) ∧ w'.cell? ⟨gb298, 1, none⟩ = some (.slice (some ad299) l1.length c1) ∧ w'.cell? ⟨gb298, 2, none⟩ = some (.int .i64 (wrap64 ((wrap64 (a0 + (wrap64 (64 * x13_1)))) + t300))) ∧ w'.cell? ⟨gb298, 3, none⟩ = some (.int .i64 (wrap64 ((wrap64 ((wrap64 ((wrap64 (a0 + (wrap64 (64 * x13_1)))) + 64)) - 1)) - t301))) ∧ w'.cell? ⟨gb298, 4, none⟩ = some (.int .i64 x299004_1)) (ds := [6]) #[false, false, false, false, false, false, false] (by kernel_rfl) rfl rfl ⟨(blk_cell BK298.out 0).trans rfl, (blk_cell BK298.out 1).trans rfl, (blk_cell BK298.out 2).trans rfl, (blk_cell BK298.out 3).trans rfl, (blk_cell BK298.out 4).trans rfl⟩ (fun hHeld => ?_)
        generalize w21.drew = w22 at HO_11 HO_299001 BK297 BK298 HB hHeld ⊢
        refine pur_ (i := 0) (N := some 41) #[true, false, false, false, false, false, false] (by kernel_rfl) ?_
        refine pur_ (i := 2) (N := some 43) #[true, false, true, false, false, false, false] (by kernel_rfl) ?_
        refine take_ (i := 1) (N := some 42) (v := ?_) (a' := ?_) #[true, true, true, false, false, false, false] rfl rfl (by kernel_rfl) (fun _ _ _ h => h) (Or.inl ⟨by rfl, ?_⟩) hHeld ?_ ?_
        rotate_left
        ·
         rintro w' ⟨s0, s1, s2, s3, s4⟩
         go_simp
         with_reducible rfl
        rotate_left
        ·
         simp only [Act.put, List.setIfInBounds_toArray, List.set_cons_zero, List.set_cons_succ, i64_w, i32_w]
         rfl
        refine one_ (i := 3) (N := some 44) #[true, true, true, true, false, false, false] rfl rfl (by kernel_rfl) (by decide) (fun K hK => ?_)
        refine goes_ Tryz.func85 (by kernel_rfl) rfl #[.int .u64 (rd l1 x13_1)] (by rfl) rfl rfl ar_ ?_
        with_reducible refine (bits_OnesCount64.calls (rd l1 x13_1) t302 _ A14.out).mono ?_
        rintro e w' ⟨rfl, ⟨nd, rfl⟩⟩
        refine ⟨_, rfl, ?_⟩
        refine hK.out _ _ ⟨(blk_cell BK298.out 0).trans rfl, (blk_cell BK298.out 1).trans rfl, (blk_cell BK298.out 2).trans rfl, (blk_cell BK298.out 3).trans rfl, (blk_cell BK298.out 4).trans rfl⟩ (fun hHeld => ?_)
        clear hK K
        refine nor_ (N := some 44) ?_
        refine pur_ (i := 4) (N := some 45) #[true, true, true, true, true, false, false] (by kernel_rfl) ?_
        refine pur_ (i := 5) (N := some 46) #[true, true, true, true, true, true, false] (by kernel_rfl) ?_
        refine last_ (i := 6) (N := none) #[true, true, true, true, true, true, true] rfl rfl (by kernel_rfl) (by decide) (fun K hK => ?_)
        have hs23 : w22.cell? ⟨gb298, 4, none⟩ = some (.int .i64 x299004_1) := (blk_cell BK298.out 4).trans rfl
        have hfs23 := blk_frozen BK298.out 4
        have hns23_0 := NB297_298.out
        have hms23_0 := NB298_297.out
        refine skip_ (w1 := ?_) (by rfl) rfl ?_ ?_
        rotate_left
        ·
         go_simp
         rfl
        refine hK.out _ _ ?_
        clear hK K
        refine done_ (by kernel_rfl) ?_
        try go_wp2
        go_roundg k1
        case measure => have := HK1.out; omega
        case rel => exact ⟨(wrap64 (x13_1 + 1)), (wrap64 ((wrap64 (a0 + (wrap64 (64 * x13_1)))) + t300)), (wrap64 ((wrap64 ((wrap64 ((wrap64 (a0 + (wrap64 (64 * x13_1)))) + 64)) - 1)) - t301)), (wrap64 (x299004_1 + t302)), eq_, H', ⟨by have := HK1.out; omega⟩, ⟨by refine vV_ ?_; exact Kd.V_mono (Kd.V_far (Kd.V_mono HO_11.out (fun k_ hk => (⟨hk, hk.2.2⟩ : _ ∧ k_ ≠ gb298))) (fun _ hk => hk.2) _) (fun _ hk => ⟨hk.1.1, ⟨hk.1.2.1, hk.1.2.2⟩⟩)⟩, ⟨by refine vV_ ?_; exact Kd.V_mono (Kd.V_far (Kd.V_mono HO_299001.out (fun k_ hk => (⟨hk, hk.2.2⟩ : _ ∧ k_ ≠ gb298))) (fun _ hk => hk.2) _) (fun _ hk => ⟨hk.1.1, ⟨hk.1.2.1, hk.1.2.2⟩⟩)⟩, ⟨by refine bk_ ?_; refine blk_far ?_ NB297_298.out _; refine bk_ ?_; exact BK297.out⟩, ⟨by refine bk_ ?_; refine blk_put (cs := #[.int .i64 a0, .slice (some ad299) l1.length c1, .int .i64 (wrap64 ((wrap64 (a0 + (wrap64 (64 * x13_1)))) + t300)), .int .i64 (wrap64 ((wrap64 ((wrap64 ((wrap64 (a0 + (wrap64 (64 * x13_1)))) + 64)) - 1)) - t301)), .int .i64 x299004_1]) ?_ 4 _ rfl; refine bk_ ?_; exact BK298.out⟩, ⟨bel_⟩⟩
       ·
        rw [if_neg c11] at H
        have c11b0 : (x299004_1 == 0) = false := beq_eq_false_iff_ne.mpr c11
        have c11b1 : (x299004_1 != 0) = true := bne_iff_ne.mpr c11
        replace H := Option.bind_eq_some_iff.mp H
        obtain ⟨t303, A240, H⟩ := H
        replace H : ((bits_OnesCount64.f (rd l1 x13_1)).bind fun t304 => (dom_made.l0 k1 a0 l1 (l1.length : Int) (wrap64 (x13_1 + 1)) a0 l1 x299002_1 (wrap64 ((wrap64 ((wrap64 ((wrap64 (a0 + (wrap64 (64 * x13_1)))) + 64)) - 1)) - t303)) (wrap64 (x299004_1 + t304)))) = some (r1, r2, r3, r4, r5) := H
        have A24 := Aside0.mk A240
        clear A240
        replace H := Option.bind_eq_some_iff.mp H
        obtain ⟨t304, A250, H⟩ := H
        replace H : (dom_made.l0 k1 a0 l1 (l1.length : Int) (wrap64 (x13_1 + 1)) a0 l1 x299002_1 (wrap64 ((wrap64 ((wrap64 ((wrap64 (a0 + (wrap64 (64 * x13_1)))) + 64)) - 1)) - t303)) (wrap64 (x299004_1 + t304))) = some (r1, r2, r3, r4, r5) := H
        have A25 := Aside0.mk A250
        clear A250
        have H' := Aside0.mk H
        clear H
        have p299 : 0 ≤ (x13_1 : Int) := dq_
        have q299 : x13_1 < (l1.length : Int) := dq_
        obtain ⟨ad299, e299, hx299_0⟩ := Kd.at_int (Kd.V_reads' HO_11.out).2.2 x13_1 p299 q299
        cases e299
        replace p299 := eq_true p299
        replace q299 := eq_true q299
        have hnb26 := NB298_297.out
        have hnc26 := NB297_298.out
        obtain ⟨_, _, _, _, _, _, _, _, _, _⟩ := cel5_ BK298.out
        try go_wp2_with (first | ((with_reducible refine gate_callee (f := 84) rfl ?_); refine goesL_ (some 38) rfl rfl Tryz.func84 (by kernel_rfl) rfl #[.int .u64 (rd l1 x13_1)] rfl ar_ ?_; (with_reducible refine (bits_LeadingZeros64.calls (rd l1 x13_1) t303 _ A24.out).mono ?_); rintro e w28 ⟨rfl, hb⟩; refine ⟨_, rfl, ?_⟩; replace HO_11 := Aside0.mk (Kd.V_below (vV_ HO_11.out) hb); replace HO_299001 := Aside0.mk (Kd.V_below (vV_ HO_299001.out) hb); replace BK297 := Aside0.mk (blk_below (bk_ BK297.out) hb); replace BK298 := Aside0.mk (blk_below (bk_ BK298.out) hb); replace HB := Aside0.mk (below_step bel_ hb); clear hb; obtain ⟨_, _, _, _, _, _, _, _, _, _⟩ := cel5_ BK298.out))
        obtain ⟨w30, hq_⟩ : ∃ x, x = (w28.setCell ⟨gb298, 3, none⟩ (.int .i64 (wrap64 ((wrap64 ((wrap64 ((wrap64 (a0 + (wrap64 (64 * x13_1)))) + 64)) - 1)) - t303)))) := ⟨_, rfl⟩
        replace HO_11 : Aside0 (Kd.V (Kd.int .u64) 80 w30 w.heap.size (fun k_ => (P1_ k_ ∨ w.heap.size ≤ k_) ∧ k_ ≠ gb297 ∧ k_ ≠ gb298) (.slice (some ad299) l1.length c1) l1) := ⟨by subst hq_; refine vV_ ?_; exact Kd.V_mono (Kd.V_far (Kd.V_mono HO_11.out (fun k_ hk => (⟨hk, hk.2.2⟩ : _ ∧ k_ ≠ gb298))) (fun _ hk => hk.2) _) (fun _ hk => ⟨hk.1.1, ⟨hk.1.2.1, hk.1.2.2⟩⟩)⟩
        replace HO_299001 : Aside0 (Kd.V (Kd.int .u64) 80 w30 w.heap.size (fun k_ => (P1_ k_ ∨ w.heap.size ≤ k_) ∧ k_ ≠ gb297 ∧ k_ ≠ gb298) (.slice (some ad299) l1.length c1) l1) := ⟨by subst hq_; refine vV_ ?_; exact Kd.V_mono (Kd.V_far (Kd.V_mono HO_299001.out (fun k_ hk => (⟨hk, hk.2.2⟩ : _ ∧ k_ ≠ gb298))) (fun _ hk => hk.2) _) (fun _ hk => ⟨hk.1.1, ⟨hk.1.2.1, hk.1.2.2⟩⟩)⟩
        replace BK297 : Aside0 (w30.heap[gb297]? = some (.cells #[.int .i64 0, .slice none 0 0, .int .i64 0, .int .i64 0, .int .i64 0] 58 (0, 0))) := ⟨by subst hq_; refine bk_ ?_; refine blk_far ?_ NB297_298.out _; refine bk_ ?_; exact BK297.out⟩
        replace BK298 : Aside0 (w30.heap[gb298]? = some (.cells #[.int .i64 a0, .slice (some ad299) l1.length c1, .int .i64 x299002_1, .int .i64 (wrap64 ((wrap64 ((wrap64 ((wrap64 (a0 + (wrap64 (64 * x13_1)))) + 64)) - 1)) - t303)), .int .i64 x299004_1] 58 (0, 0))) := ⟨by subst hq_; refine bk_ ?_; refine blk_put (cs := #[.int .i64 a0, .slice (some ad299) l1.length c1, .int .i64 x299002_1, .int .i64 x299003_1, .int .i64 x299004_1]) ?_ 3 _ rfl; refine bk_ ?_; exact BK298.out⟩
        replace HB : Aside0 (Below w.heap.size w w30) := ⟨by subst hq_; exact bel_⟩
        rw [← hq_]
        clear hq_
        replace HO_11 := Aside0.mk (Kd.V_drew HO_11.out)
        replace HO_299001 := Aside0.mk (Kd.V_drew HO_299001.out)
        replace BK297 := Aside0.mk (blk_drew BK297.out)
        replace BK298 := Aside0.mk (blk_drew BK298.out)
        replace HB := Aside0.mk (below_drew1 HB.out)
        refine start_ (n := 7) (S := fun w' => w'.cell? ⟨gb298, 0, none⟩ = some (.int .i64 a0) ∧ w'.cell? ⟨gb298, 1, none⟩ = some (.slice (some ad299) l1.length c1) ∧ w'.cell? ⟨gb298, 2, none⟩ = some (.int .i64 x299002_1) ∧ w'.cell? ⟨gb298, 3, none⟩ = some (.int .i64 (wrap64 ((wrap64 ((wrap64 ((wrap64 (a0 + (wrap64 (64 * x13_1)))) + 64)) - 1)) - t303))) ∧ w'.cell? ⟨gb298, 4, none⟩ = some (.int .i64 x299004_1)) (ds := [6]) #[false, false, false, false, false, false, false] (by kernel_rfl) rfl rfl ⟨(blk_cell BK298.out 0).trans rfl, (blk_cell BK298.out 1).trans rfl, (blk_cell BK298.out 2).trans rfl, (blk_cell BK298.out 3).trans rfl, (blk_cell BK298.out 4).trans rfl⟩ (fun hHeld => ?_)
        generalize w30.drew = w31 at HO_11 HO_299001 BK297 BK298 HB hHeld ⊢
        refine pur_ (i := 0) (N := some 41) #[true, false, false, false, false, false, false] (by kernel_rfl) ?_
        refine pur_ (i := 2) (N := some 43) #[true, false, true, false, false, false, false] (by kernel_rfl) ?_
        refine take_ (i := 1) (N := some 42) (v := ?_) (a' := ?_) #[true, true, true, false, false, false, false] rfl rfl (by kernel_rfl) (fun _ _ _ h => h) (Or.inl ⟨by rfl, ?_⟩) hHeld ?_ ?_
        rotate_left
        ·
         rintro w' ⟨s0, s1, s2, s3, s4⟩
         go_simp
         with_reducible rfl
        rotate_left
        ·
         simp only [Act.put, List.setIfInBounds_toArray, List.set_cons_zero, List.set_cons_succ, i64_w, i32_w]
         rfl
        refine one_ (i := 3) (N := some 44) #[true, true, true, true, false, false, false] rfl rfl (by kernel_rfl) (by decide) (fun K hK => ?_)
        refine goes_ Tryz.func85 (by kernel_rfl) rfl #[.int .u64 (rd l1 x13_1)] (by rfl) rfl rfl ar_ ?_
        with_reducible refine (bits_OnesCount64.calls (rd l1 x13_1) t304 _ A25.out).mono ?_
        rintro e w' ⟨rfl, ⟨nd, rfl⟩⟩
        refine ⟨_, rfl, ?_⟩
        refine hK.out _ _ ⟨(blk_cell BK298.out 0).trans rfl, (blk_cell BK298.out 1).trans rfl, (blk_cell BK298.out 2).trans rfl, (blk_cell BK298.out 3).trans rfl, (blk_cell BK298.out 4).trans rfl⟩ (fun hHeld => ?_)
        clear hK K
        refine nor_ (N := some 44) ?_
        refine pur_ (i := 4) (N := some 45) #[true, true, true, true, true, false, false] (by kernel_rfl) ?_
        refine pur_ (i := 5) (N := some 46) #[true, true, true, true, true, true, false] (by kernel_rfl) ?_
        refine last_ (i := 6) (N := none) #[true, true, true, true, true, true, true] rfl rfl (by kernel_rfl) (by decide) (fun K hK => ?_)
        have hs32 : w31.cell? ⟨gb298, 4, none⟩ = some (.int .i64 x299004_1) := (blk_cell BK298.out 4).trans rfl
        have hfs32 := blk_frozen BK298.out 4
        have hns32_0 := NB297_298.out
        have hms32_0 := NB298_297.out
        refine skip_ (w1 := ?_) (by rfl) rfl ?_ ?_
        rotate_left
        ·
         go_simp
         rfl
        refine hK.out _ _ ?_
        clear hK K
        refine done_ (by kernel_rfl) ?_
        try go_wp2
        go_roundg k1
        case measure => have := HK1.out; omega
        case rel => exact ⟨(wrap64 (x13_1 + 1)), (x299002_1), (wrap64 ((wrap64 ((wrap64 ((wrap64 (a0 + (wrap64 (64 * x13_1)))) + 64)) - 1)) - t303)), (wrap64 (x299004_1 + t304)), eq_, H', ⟨by have := HK1.out; omega⟩, ⟨by refine vV_ ?_; exact Kd.V_mono (Kd.V_far (Kd.V_mono HO_11.out (fun k_ hk => (⟨hk, hk.2.2⟩ : _ ∧ k_ ≠ gb298))) (fun _ hk => hk.2) _) (fun _ hk => ⟨hk.1.1, ⟨hk.1.2.1, hk.1.2.2⟩⟩)⟩, ⟨by refine vV_ ?_; exact Kd.V_mono (Kd.V_far (Kd.V_mono HO_299001.out (fun k_ hk => (⟨hk, hk.2.2⟩ : _ ∧ k_ ≠ gb298))) (fun _ hk => hk.2) _) (fun _ hk => ⟨hk.1.1, ⟨hk.1.2.1, hk.1.2.2⟩⟩)⟩, ⟨by refine bk_ ?_; refine blk_far ?_ NB297_298.out _; refine bk_ ?_; exact BK297.out⟩, ⟨by refine bk_ ?_; refine blk_put (cs := #[.int .i64 a0, .slice (some ad299) l1.length c1, .int .i64 x299002_1, .int .i64 (wrap64 ((wrap64 ((wrap64 ((wrap64 (a0 + (wrap64 (64 * x13_1)))) + 64)) - 1)) - t303)), .int .i64 x299004_1]) ?_ 4 _ rfl; refine bk_ ?_; exact BK298.out⟩, ⟨bel_⟩⟩
     ·
      rw [if_neg c9] at H
      exact absurd H (by simp)
    ·
     rw [if_neg c8] at H
     exact absurd H (by simp)
   ·
    rw [if_neg c7] at H
    have c7b0 : decide (x13_1 < (l1.length : Int)) = false := decide_eq_false c7
    clear c7
    simp only [Option.some.injEq, Prod.mk.injEq] at H
    obtain ⟨rfl, rfl, rfl, rfl, rfl⟩ := H
    have hnb33 := NB298_297.out
    have hnc33 := NB297_298.out
    obtain ⟨_, _, _, _, _, _, _, _, _, _⟩ := cel5_ BK298.out
    obtain ⟨_, _, _, _, _, _, _, _, _, _⟩ := cel5_ BK297.out
    go_wp2
    refine bodyPost_ret (results_cell_row rfl _ _ gb297 58 #[.int .i64 a0, .slice A1 l1.length c1, .int .i64 x299002_1, .int .i64 x299003_1, .int .i64 x299004_1] (0, 0) _ rfl (by refine bk_ ?_; refine blk_put (cs := #[.int .i64 a0, .slice A1 l1.length c1, .int .i64 x299002_1, .int .i64 x299003_1, .int .i64 0]) ?_ 4 _ rfl; refine bk_ ?_; refine blk_put (cs := #[.int .i64 a0, .slice A1 l1.length c1, .int .i64 x299002_1, .int .i64 0, .int .i64 0]) ?_ 3 _ rfl; refine bk_ ?_; refine blk_put (cs := #[.int .i64 a0, .slice A1 l1.length c1, .int .i64 0, .int .i64 0, .int .i64 0]) ?_ 2 _ rfl; refine bk_ ?_; refine blk_put (cs := #[.int .i64 a0, .slice none 0 0, .int .i64 0, .int .i64 0, .int .i64 0]) ?_ 1 _ rfl; refine bk_ ?_; refine blk_put (cs := #[.int .i64 0, .slice none 0 0, .int .i64 0, .int .i64 0, .int .i64 0]) ?_ 0 _ rfl; refine bk_ ?_; exact BK297.out) Tryz.underlying58 rfl (by kernel_rfl)) rfl ?_
    exact ⟨_, by first | rfl | (simp [errW_none, errW_some] <;> rfl) | (simp [*, errW_none, errW_some] <;> rfl), by refine vV_ ?_; exact Kd.V_mono (Kd.V_far (Kd.V_far (Kd.V_far (Kd.V_far (Kd.V_far (Kd.V_mono HO_299001.out (fun k_ hk => (⟨hk, hk.2.1⟩ : _ ∧ k_ ≠ gb297))) (fun _ hk => hk.2) _) (fun _ hk => hk.2) _) (fun _ hk => hk.2) _) (fun _ hk => hk.2) _) (fun _ hk => hk.2) _) (fun _ hk => hk.1.1), bel_⟩

/-! ### slices_CloneU64: function 82 -/
def slices_CloneU64.f (l0 : List Int) : Option (List Int) := if l0.length < 17592186044416 then some l0 else none
theorem infoU64 : (Tryz.prog.info? 80).map (fun i => (i.zero, i.size, i.bytes)) = some (some (.int .u64 0), 1, 8) := by kernel_rfl
theorem slices_CloneU64.calls (A0 : Option Addr) (c0 : Nat) (l0 : List Int) (r : List Int) (w : World) (hr0 : Kd.C (Kd.int .u64) w A0 l0.length l0) (hc0 : l0.length ≤ c0) (h : slices_CloneU64.f l0 = some r) :
  Calls Tryz.prog 82 #[.slice A0 l0.length c0] w fun e w' => ∃ v_ : Value, e = .returned v_ ∧ Kd.R (Kd.int .u64) 80 w' w.heap.size (fun _ => True) v_ r ∧ Below w.heap.size w w' := by
 unfold slices_CloneU64.f at h
 by_cases hb : l0.length < 17592186044416
 ·
  rw [if_pos hb] at h
  obtain rfl := Option.some.inj h
  clear h
  rcases A0 with _ | ad
  ·
   have h0 : l0 = [] := by
    rcases Nat.eq_zero_or_pos l0.length with h0 | h0
    ·
     exact List.eq_nil_of_length_eq_zero h0
    ·
     obtain ⟨ad, e, _⟩ := hr0.2.2 h0; cases e
   subst h0
   have qT : ∀ (w : World) (a : Option Addr) (n c n' c' : Nat), (binOp .eql 56 (.slice a n c) (.slice none n' c')).run Tryz.prog w = .ok (.bool a.isNone) w := fun w a n c n' c' => Lib.run_eql_slice_nil w _ _ a n c n' c' Tryz.underlying56
   clear hr0 hb
   go_enter Tryz.func82, Tryz.ntmps82
   go_wp2
   go_ret
   exact ⟨_, rfl, Kd.R_nil _ _ _ _ _, Below.refl _ _⟩
  ·
   have hnil : ∀ (W : World), (binOp .eql 56 (.slice (some ad) l0.length c0) (.slice none 0 0)).run Tryz.prog W = .ok (.bool false) W := fun W => Lib.run_eql_slice_nil W 56 80 (some ad) l0.length c0 0 0 Tryz.underlying56
   have HR := Aside0.mk hr0
   have HL := Aside0.mk hb
   clear hr0 hb
   go_enter Tryz.func82, Tryz.ntmps82
   go_wp2_with (first | ((with_reducible refine gate_dst (N := 5) rfl ?_); refine Kd.R_lit (Kd.int .u64) _ 80 ?hg (N := 5) ?hd (xs := ([] : List Int)) (inner := []) (ok := fun _ => True) (okp := fun _ => True) ?hr ?hp (fun _ hk => hk) trivial (Below.refl _ _) (Nat.le_refl _) (by simp) ?_; (case hd => rfl); (case hg => rfl); (case hr => first | (go_simp; done) | (go_simp; rfl)); (case hp => exact Reps.none _ _); intro v1 w1 hR hB hG hat; have HO := Aside0.mk hR; have HB := Aside0.mk hB; clear hR hB hG hat) | ((with_reducible refine gate_builtin (b := .append) (xs := #[.tmp 5, .tmp 6]) rfl ?_); at_builtin; refine Kd.R_append_row (Value.int .u64) (0 : Int) (h1 := fun _ => rfl) (w0 := w) w.heap.size rfl (.tmp 5) (.tmp 6) 56 80 (.int .u64 0) 8 rfl Tryz.underlying56 infoU64 rfl (by decide) v1 [] l0 (some ad) l0.length c0 (fun _ => True) rfl rfl (fun _ _ => trivial) HO.out (Kd.C_below HR.out HB.out) HB.out HB.out.size (by have := HL.out; simp only [List.length_nil]; omega) ?_; intro v2 w2 hR hB hG hat; have HO2 := Aside0.mk hR; have HB2 := Aside0.mk hB; clear hR hB hG hat))
   go_ret
   exact ⟨_, rfl, HO2.out, HB2.out⟩
 ·
  rw [if_neg hb] at h; cases h

-- NOT PRINTED: function 58 (dom_Dom_less)

/-! ### dom_Dom_Only_1: function 59 -/
def dom_Dom_Only_1.f (a0 : Int) (a1 : Int) (a2_0 : Int) : Option (Int) := (dom_place.f a2_0).bind fun t305 => (if a0 = t305 then (if 0 ≤ (wrap64 (a2_0 - a0)) then (some (shl .u64 1 (wrap64 (a2_0 - a0)))) else (none)) else (some 0))
set_option maxHeartbeats 8000000 in
set_option maxRecDepth 100000 in
theorem dom_Dom_Only_1.calls (a0 : Int) (a1 : Int) (B2 : Nat) (a2_0 : Int) (r : Int) (w : World) (hbx2 : w.heap[B2]? = some (.cells #[.int .i64 a2_0] 3 (0, 0))) (h : dom_Dom_Only_1.f a0 a1 a2_0 = some r) :
  Calls Tryz.prog 59 #[.int .i64 a0, .int .u64 a1, .pointer (some ⟨B2, 0, none⟩)] w fun e w' => e = .returned (.int .u64 r) ∧ Drawn0 w w' := by
 have BKc2 := Aside0.mk hbx2
 clear hbx2
 have H : ((dom_place.f a2_0).bind fun t305 => (if a0 = t305 then (if 0 ≤ (wrap64 (a2_0 - a0)) then (some (shl .u64 1 (wrap64 (a2_0 - a0)))) else (none)) else (some 0))) = some r := h
 clear h
 replace H := Option.bind_eq_some_iff.mp H
 obtain ⟨t305, A40, H⟩ := H
 try dsimp only at H
 have A4 := Aside0.mk A40
 clear A40
 by_cases c5 : a0 = t305
 ·
  rw [if_pos c5] at H
  have c5b0 : (a0 == t305) = true := beq_iff_eq.mpr c5
  have c5b1 : (a0 != t305) = false := bne_eq_false_iff_eq.mpr c5
  clear c5
  obtain ⟨ji6, hji6⟩ : ∃ j_ : Int, (wrap64 (a2_0 - a0)) = j_ := ⟨_, rfl⟩
  replace H : (if 0 ≤ (ji6) then (some (shl .u64 1 (ji6))) else (none)) = some r := by first | (rw [hji6] at H; exact H) | (simp only [hji6] at H ⊢; exact H)
  (try rw [hji6] at A4)
  have hji6w : (IntKind.i64.wrap (a2_0 - a0)) = ji6 := (i64_w _).trans hji6
  by_cases c7 : 0 ≤ (ji6)
  ·
   rw [if_pos c7] at H
   have c7b0 := eq_true c7
   have c7b1 : decide (0 ≤ (ji6)) = true := decide_eq_true c7
   clear c7
   obtain ⟨ji8, hji8⟩ : ∃ j_ : Int, (shl .u64 1 (ji6)) = j_ := ⟨_, rfl⟩
   replace H : (some ji8) = some r := by first | (rw [hji8] at H; exact H) | (simp only [hji8] at H ⊢; exact H)
   (try rw [hji8] at A4)
   have hji8_ : (IntKind.u64.wrap (1 * 2 ^ min (ji6).toNat 64)) = ji8 := hji8
   have hji8z : (ji6) ≤ 64 → (IntKind.u64.wrap (1 * 2 ^ (ji6).toNat)) = ji8 := shl_small hji8
   have hji8u : (IntKind.u64.wrap (2 ^ min (ji6).toNat 64)) = ji8 := by have h_ := hji8_; rw [Int.one_mul] at h_; exact h_
   have hji8v : (ji6) ≤ 64 → (IntKind.u64.wrap (2 ^ (ji6).toNat)) = ji8 := fun hle_ => by have h_ := hji8z hle_; rw [Int.one_mul] at h_; exact h_
   obtain rfl := Option.some.inj H
   obtain ⟨_, _⟩ := cel1_ BKc2.out
   go_enter Tryz.func59, Tryz.ntmps59
   go_wp2_with (first | ((with_reducible refine gate_callee (f := 52) rfl ?_); refine goesL_ (some 8) rfl rfl Tryz.func52 (by kernel_rfl) rfl #[.int .i64 a2_0] rfl ar_ ?_; (with_reducible refine (dom_place.calls a2_0 t305 _ A4.out).mono ?_); rintro e w' ⟨rfl, ⟨nd, rfl⟩⟩; refine ⟨_, rfl, ?_⟩))
   go_ret
   exact ⟨by first | rfl | (simp; done) | (simp only [← hji6, ← hji8] <;> (first | rfl | simp)) | (simp [*]; done), by repeat (first | exact Drawn0.refl _ | apply Drawn0.step)⟩
  ·
   rw [if_neg c7] at H
   exact absurd H (by simp)
 ·
  rw [if_neg c5] at H
  have c5b0 : (a0 == t305) = false := beq_eq_false_iff_ne.mpr c5
  have c5b1 : (a0 != t305) = true := bne_iff_ne.mpr c5
  obtain rfl := Option.some.inj H
  obtain ⟨_, _⟩ := cel1_ BKc2.out
  go_enter Tryz.func59, Tryz.ntmps59
  go_wp2_with (first | ((with_reducible refine gate_callee (f := 52) rfl ?_); refine goesL_ (some 8) rfl rfl Tryz.func52 (by kernel_rfl) rfl #[.int .i64 a2_0] rfl ar_ ?_; (with_reducible refine (dom_place.calls a2_0 t305 _ A4.out).mono ?_); rintro e w' ⟨rfl, ⟨nd, rfl⟩⟩; refine ⟨_, rfl, ?_⟩))
  go_ret
  exact ⟨by first | rfl | (simp; done) | (simp [*]; done), by repeat (first | exact Drawn0.refl _ | apply Drawn0.step)⟩

end Go.Proofs.YtmhchlbbfpmdgaaGreatDoor.XClauseKeeps
