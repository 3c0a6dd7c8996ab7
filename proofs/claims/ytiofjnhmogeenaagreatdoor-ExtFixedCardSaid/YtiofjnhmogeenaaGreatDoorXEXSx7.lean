-- by xprint.py, a program of this session, over the kit's print
import Derived.Test.YtiofjnhmogeenaaGreatDoorXEXSx0
import Derived.Test.YtiofjnhmogeenaaGreatDoorXEXSx5
import Derived.Test.YtiofjnhmogeenaaGreatDoorXEXSx6
import Derived.Test.YtiofjnhmogeenaaGreatDoorSq
namespace Go.Proofs.YtiofjnhmogeenaaGreatDoor.XExtFixed
open Go.RowKit Go.Proofs.YtiofjnhmogeenaaGreatDoor.Sq Go.Proofs.YtiofjnhmogeenaaGreatDoorW.PrintWords Go.Proofs.YtiofjnhmogeenaaGreatDoorW.PrintLast Go.Proofs.YtiofjnhmogeenaaGreatDoorW.PrintMore
attribute [local go_sem] max2_int min2_int max_two min_two max_three min_three max_four min_four   -- for this text's walks alone
set_option linter.unusedVariables false
set_option linter.unusedSimpArgs false

/-! ### dom_made: function 76 -/
def dom_made.l0 : Nat → Int → List Int → Int → Int → Int → List Int → Int → Int → Int → Option (Int × List Int × Int × Int × Int)
 | 0, _, _, _, _, _, _, _, _, _ => none
 | k + 1, x0, x11, x12, x13, x198000, x198001, x198002, x198003, x198004 => if x13 < x12 then (if 0 ≤ x13 then (if x13 < (x11.length : Int) then (if (rd x11 x13) = 0 then (none) else (if x198004 = 0 then ((bits_TrailingZeros64.f (rd x11 x13)).bind fun t199 => ((bits_LeadingZeros64.f (rd x11 x13)).bind fun t200 => ((bits_OnesCount64.f (rd x11 x13)).bind fun t201 => (dom_made.l0 k x0 x11 x12 (wrap64 (x13 + 1)) x198000 x198001 (wrap64 ((wrap64 (x0 + (wrap64 (64 * x13)))) + t199)) (wrap64 ((wrap64 ((wrap64 ((wrap64 (x0 + (wrap64 (64 * x13)))) + 64)) - 1)) - t200)) (wrap64 (x198004 + t201)))))) else ((bits_LeadingZeros64.f (rd x11 x13)).bind fun t202 => ((bits_OnesCount64.f (rd x11 x13)).bind fun t203 => (dom_made.l0 k x0 x11 x12 (wrap64 (x13 + 1)) x198000 x198001 x198002 (wrap64 ((wrap64 ((wrap64 ((wrap64 (x0 + (wrap64 (64 * x13)))) + 64)) - 1)) - t202)) (wrap64 (x198004 + t203))))))) else (none)) else (none)) else (some (x198000, x198001, x198002, x198003, x198004))
def dom_made.f (k : Nat) (a0 : Int) (l1 : List Int) : Option (Int × List Int × Int × Int × Int) := dom_made.l0 k a0 l1 (l1.length : Int) 0 a0 l1 0 0 0
theorem dom_made.mono_l : ∀ k, (∀ y0 y1 y2 y3 y4 y5 y6 y7 y8, LeO (dom_made.l0 k y0 y1 y2 y3 y4 y5 y6 y7 y8) (dom_made.l0 (k + 1) y0 y1 y2 y3 y4 y5 y6 y7 y8))
 | 0 => fun _ _ _ _ _ _ _ _ _ r h => by simp [dom_made.l0] at h
 | k + 1 => by
  have ih0 := dom_made.mono_l k
  ·
   intro y0 y1 y2 y3 y4 y5 y6 y7 y8
   unfold dom_made.l0
   exact leo_
theorem dom_made.mono : ∀ a0 a1 k, LeO (dom_made.f k a0 a1) (dom_made.f (k + 1) a0 a1) := by
 intro a0 a1 k
 have ih0 := dom_made.mono_l k
 unfold dom_made.f
 exact leo_
set_option maxHeartbeats 8000000 in
set_option maxRecDepth 100000 in
theorem dom_made.calls (k : Nat) (a0 : Int) (P1_ : Nat → Prop) (A1 : Option Addr) (c1 : Nat) (l1 : List Int) (r1 : Int) (r2 : List Int) (r3 : Int) (r4 : Int) (r5 : Int) (w : World) (hs1 : Kd.V (Kd.int .u64) 86 w w.heap.size (fun k_ => P1_ k_) (.slice A1 l1.length c1) l1) (hrtab : Kd.C (Kd.int .u8) w (some ⟨0, 0, none⟩) tabL.length tabL) (h : dom_made.f k a0 l1 = some (r1, r2, r3, r4, r5)) :
  Calls Tryz.prog 76 #[.int .i64 a0, .slice A1 l1.length c1] w fun e w' => ∃ v1_ : Value, e = .returned (.agg #[.int .i64 r1, v1_, .int .i64 r3, .int .i64 r4, .int .i64 r5]) ∧ Kd.V (Kd.int .u64) 86 w' w.heap.size (fun k_ => (P1_ k_ ∨ w.heap.size ≤ k_)) v1_ r2 ∧ Below w.heap.size w w' := by
 have hu61 := Tryz.underlying61
 have HO1 := Aside0.mk (show Kd.V (Kd.int .u64) 86 w w.heap.size (fun k_ => (P1_ k_ ∨ w.heap.size ≤ k_)) (.slice A1 l1.length c1) l1 from Kd.V_mono hs1 (fun k_ hk => .inl hk))
 have HRtab := Aside0.mk hrtab
 clear hrtab
 have HB := Aside0.mk (Below.refl w.heap.size w)
 have H : (dom_made.l0 k a0 l1 (l1.length : Int) 0 a0 l1 0 0 0) = some (r1, r2, r3, r4, r5) := h
 clear h
 have H' := Aside0.mk H
 clear H
 go_enter Tryz.func76, Tryz.ntmps76
 go_wp2_with (first | ((with_reducible refine gate_dst (N := 4) rfl ?_); refine bxe_ (N := 4) (cs := #[.int .i64 0, .slice none 0 0, .int .i64 0, .int .i64 0, .int .i64 0]) (t := 61) ?_; intro gb196 hg w3 hbox hb; replace HO1 := Aside0.mk (Kd.V_below (Kd.V_elderB (vV_ HO1.out) gb196 (Nat.le_of_eq hg.symm)) hb); have BK196 := Aside0.mk (hbox); have GW196 := Aside0.mk (by rw [hg]; exact (below_size bel_) : w.heap.size ≤ gb196); have GE196 := GW196; replace HB := Aside0.mk (below_step bel_ hb); clear hb hbox hg) | ((with_reducible refine gate_dst (N := 5) rfl ?_); refine bxe_ (N := 5) (cs := #[.int .i64 0, .slice none 0 0, .int .i64 0, .int .i64 0, .int .i64 0]) (t := 61) ?_; intro gb197 hg w4 hbox hb; replace HO1 := Aside0.mk (Kd.V_below (Kd.V_elderB (vV_ HO1.out) gb197 (Nat.le_of_eq hg.symm)) hb); have BK197 := Aside0.mk (hbox); have GW197 := Aside0.mk (by rw [hg]; exact (below_size bel_) : w.heap.size ≤ gb197); have GE197 := GW197; replace HB := Aside0.mk (below_step bel_ hb); have NB196_197 := Aside0.mk ((by rw [hg]; exact Nat.ne_of_lt (blk_lt (bk_ BK196.out)) : gb196 ≠ gb197)); have NB197_196 := Aside0.mk ((by rw [hg]; exact Nat.ne_of_gt (blk_lt (bk_ BK196.out)) : gb197 ≠ gb196)); replace BK196 := Aside0.mk (blk_below (bk_ BK196.out) hb); clear hb hbox hg; have hnb5 := NB197_196.out; have hnc5 := NB196_197.out; obtain ⟨hcz6_0, hcz6_1, hcz6_2, hcz6_3, hcz6_4, hfz6_0, hfz6_1, hfz6_2, hfz6_3, hfz6_4⟩ := cel5_ BK197.out))
 go_loopg [13] k (fun kq v13 w' => ∃ (x13_1 : Int) (x198002_1 : Int) (x198003_1 : Int) (x198004_1 : Int), v13 = .int .i64 x13_1 ∧ Aside0 (dom_made.l0 kq a0 l1 (l1.length : Int) x13_1 a0 l1 x198002_1 x198003_1 x198004_1 = some (r1, r2, r3, r4, r5)) ∧ Aside0 (kq ≤ k) ∧ Aside0 (Kd.V (Kd.int .u64) 86 w' w.heap.size (fun k_ => (P1_ k_ ∨ w.heap.size ≤ k_) ∧ k_ ≠ gb196 ∧ k_ ≠ gb197) (.slice A1 l1.length c1) l1) ∧ Aside0 (Kd.V (Kd.int .u64) 86 w' w.heap.size (fun k_ => (P1_ k_ ∨ w.heap.size ≤ k_) ∧ k_ ≠ gb196 ∧ k_ ≠ gb197) (.slice A1 l1.length c1) l1) ∧ Aside0 (w'.heap[gb196]? = some (.cells #[.int .i64 0, (.slice none 0 0), .int .i64 0, .int .i64 0, .int .i64 0] 61 (0, 0))) ∧ Aside0 (w'.heap[gb197]? = some (.cells #[.int .i64 a0, (.slice A1 l1.length c1), .int .i64 x198002_1, .int .i64 x198003_1, .int .i64 x198004_1] 61 (0, 0))) ∧ Aside0 (Below w.heap.size w w'))
 case atStart => exact ⟨(0), (0), (0), (0), eq_, H', ⟨Nat.le_refl _⟩, ⟨by refine vV_ ?_; exact Kd.V_mono (Kd.V_far (Kd.V_far (Kd.V_far (Kd.V_far (Kd.V_far (Kd.V_mono HO1.out (fun k_ hk => (⟨hk, hk.2⟩ : _ ∧ k_ ≠ gb197))) (fun _ hk => hk.2) _) (fun _ hk => hk.2) _) (fun _ hk => hk.2) _) (fun _ hk => hk.2) _) (fun _ hk => hk.2) _) (fun _ hk => ⟨hk.1.1.1, ⟨hk.1.1.2, hk.1.2⟩⟩)⟩, ⟨by refine vV_ ?_; exact Kd.V_mono (Kd.V_far (Kd.V_far (Kd.V_far (Kd.V_far (Kd.V_far (Kd.V_mono HO1.out (fun k_ hk => (⟨hk, hk.2⟩ : _ ∧ k_ ≠ gb197))) (fun _ hk => hk.2) _) (fun _ hk => hk.2) _) (fun _ hk => hk.2) _) (fun _ hk => hk.2) _) (fun _ hk => hk.2) _) (fun _ hk => ⟨hk.1.1.1, ⟨hk.1.1.2, hk.1.2⟩⟩)⟩, ⟨by refine bk_ ?_; refine blk_far ?_ NB196_197.out _; refine bk_ ?_; refine blk_far ?_ NB196_197.out _; refine bk_ ?_; refine blk_far ?_ NB196_197.out _; refine bk_ ?_; refine blk_far ?_ NB196_197.out _; refine bk_ ?_; refine blk_far ?_ NB196_197.out _; refine bk_ ?_; exact BK196.out⟩, ⟨by refine bk_ ?_; refine blk_put (cs := #[.int .i64 a0, .slice A1 l1.length c1, .int .i64 0, .int .i64 0, .int .i64 0]) ?_ 4 _ rfl; refine bk_ ?_; refine blk_put (cs := #[.int .i64 a0, .slice A1 l1.length c1, .int .i64 0, .int .i64 0, .int .i64 0]) ?_ 3 _ rfl; refine bk_ ?_; refine blk_put (cs := #[.int .i64 a0, .slice A1 l1.length c1, .int .i64 0, .int .i64 0, .int .i64 0]) ?_ 2 _ rfl; refine bk_ ?_; refine blk_put (cs := #[.int .i64 a0, .slice none 0 0, .int .i64 0, .int .i64 0, .int .i64 0]) ?_ 1 _ rfl; refine bk_ ?_; refine blk_put (cs := #[.int .i64 0, .slice none 0 0, .int .i64 0, .int .i64 0, .int .i64 0]) ?_ 0 _ rfl; refine bk_ ?_; exact BK197.out⟩, ⟨bel_⟩⟩
 case round =>
  clear H'
  try clear c1
  try clear p2
  try clear c5
  try clear hcz6_0
  try clear hcz6_1
  try clear hcz6_2
  try clear hcz6_3
  try clear hcz6_4
  try clear hfz6_0
  try clear hfz6_1
  try clear hfz6_2
  try clear hfz6_3
  try clear hfz6_4
  obtain ⟨x13_1, x198002_1, x198003_1, x198004_1, rfl, HA, HK1, HO_11, HO_198001, BK196, BK197, HB⟩ := hrel
  cases gk with
  | zero => exact absurd HA.out (by simp [dom_made.l0])
  | succ k1 =>
   have H := HA.out
   clear HA
   simp only [dom_made.l0] at H
   by_cases c7 : x13_1 < (l1.length : Int)
   ·
    rw [if_pos c7] at H
    have c7b0 : decide (x13_1 < (l1.length : Int)) = true := decide_eq_true c7
    clear c7
    by_cases c8 : 0 ≤ x13_1
    ·
     rw [if_pos c8] at H
     have c8b0 : decide (0 ≤ x13_1) = true := decide_eq_true c8
     clear c8
     by_cases c9 : x13_1 < (l1.length : Int)
     ·
      rw [if_pos c9] at H
      have c9b0 : decide (x13_1 < (l1.length : Int)) = true := decide_eq_true c9
      clear c9
      by_cases c10 : (rd l1 x13_1) = 0
      ·
       rw [if_pos c10] at H
       exact absurd H (by simp)
      ·
       rw [if_neg c10] at H
       have c10b0 : ((rd l1 x13_1) == 0) = false := beq_eq_false_iff_ne.mpr c10
       have c10b1 : ((rd l1 x13_1) != 0) = true := bne_iff_ne.mpr c10
       by_cases c11 : x198004_1 = 0
       ·
        rw [if_pos c11] at H
        have c11b0 : (x198004_1 == 0) = true := beq_iff_eq.mpr c11
        have c11b1 : (x198004_1 != 0) = false := bne_eq_false_iff_eq.mpr c11
        clear c11
        replace H := Option.bind_eq_some_iff.mp H
        obtain ⟨t199, A120, H⟩ := H
        replace H : ((bits_LeadingZeros64.f (rd l1 x13_1)).bind fun t200 => ((bits_OnesCount64.f (rd l1 x13_1)).bind fun t201 => (dom_made.l0 k1 a0 l1 (l1.length : Int) (wrap64 (x13_1 + 1)) a0 l1 (wrap64 ((wrap64 (a0 + (wrap64 (64 * x13_1)))) + t199)) (wrap64 ((wrap64 ((wrap64 ((wrap64 (a0 + (wrap64 (64 * x13_1)))) + 64)) - 1)) - t200)) (wrap64 (x198004_1 + t201))))) = some (r1, r2, r3, r4, r5) := H
        have A12 := Aside0.mk A120
        clear A120
        replace H := Option.bind_eq_some_iff.mp H
        obtain ⟨t200, A130, H⟩ := H
        replace H : ((bits_OnesCount64.f (rd l1 x13_1)).bind fun t201 => (dom_made.l0 k1 a0 l1 (l1.length : Int) (wrap64 (x13_1 + 1)) a0 l1 (wrap64 ((wrap64 (a0 + (wrap64 (64 * x13_1)))) + t199)) (wrap64 ((wrap64 ((wrap64 ((wrap64 (a0 + (wrap64 (64 * x13_1)))) + 64)) - 1)) - t200)) (wrap64 (x198004_1 + t201)))) = some (r1, r2, r3, r4, r5) := H
        have A13 := Aside0.mk A130
        clear A130
        replace H := Option.bind_eq_some_iff.mp H
        obtain ⟨t201, A140, H⟩ := H
        replace H : (dom_made.l0 k1 a0 l1 (l1.length : Int) (wrap64 (x13_1 + 1)) a0 l1 (wrap64 ((wrap64 (a0 + (wrap64 (64 * x13_1)))) + t199)) (wrap64 ((wrap64 ((wrap64 ((wrap64 (a0 + (wrap64 (64 * x13_1)))) + 64)) - 1)) - t200)) (wrap64 (x198004_1 + t201))) = some (r1, r2, r3, r4, r5) := H
        have A14 := Aside0.mk A140
        clear A140
        have H' := Aside0.mk H
        clear H
        have p198 : 0 ≤ (x13_1 : Int) := dq_
        have q198 : x13_1 < (l1.length : Int) := dq_
        obtain ⟨ad198, e198, hx198_0⟩ := Kd.at_int (Kd.V_reads' HO_11.out).2.2 x13_1 p198 q198
        cases e198
        replace p198 := eq_true p198
        replace q198 := eq_true q198
        have hnb15 := NB197_196.out
        have hnc15 := NB196_197.out
        obtain ⟨_, _, _, _, _, _, _, _, _, _⟩ := cel5_ BK197.out
        try go_wp2_with (first | ((with_reducible refine gate_callee (f := 56) rfl ?_); refine goesL_ (some 28) rfl rfl Tryz.func56 (by kernel_rfl) rfl #[.int .u64 (rd l1 x13_1)] rfl ar_ ?_; (with_reducible refine (bits_TrailingZeros64.calls (rd l1 x13_1) t199 _ ?_ A12.out).mono ?_); exact ca_ ((Kd.C_below HRtab.out HB.out)); rintro e w' ⟨rfl, ⟨nd, rfl⟩⟩; refine ⟨_, rfl, ?_⟩; (try (rw [drewN_self wr]; generalize hq_ : World.drewN wr _ = wr; replace HO_11 : Aside0 (Kd.V (Kd.int .u64) 86 wr w.heap.size (fun k_ => (P1_ k_ ∨ w.heap.size ≤ k_) ∧ k_ ≠ gb196 ∧ k_ ≠ gb197) (.slice (some ad198) l1.length c1) l1) := ⟨by rw [← hq_]; exact (vV_ HO_11.out)⟩; replace HO_198001 : Aside0 (Kd.V (Kd.int .u64) 86 wr w.heap.size (fun k_ => (P1_ k_ ∨ w.heap.size ≤ k_) ∧ k_ ≠ gb196 ∧ k_ ≠ gb197) (.slice (some ad198) l1.length c1) l1) := ⟨by rw [← hq_]; exact (vV_ HO_198001.out)⟩; replace BK196 : Aside0 (wr.heap[gb196]? = some (.cells #[.int .i64 0, .slice none 0 0, .int .i64 0, .int .i64 0, .int .i64 0] 61 (0, 0))) := ⟨by rw [← hq_]; exact (bk_ BK196.out)⟩; replace BK197 : Aside0 (wr.heap[gb197]? = some (.cells #[.int .i64 a0, .slice (some ad198) l1.length c1, .int .i64 x198002_1, .int .i64 x198003_1, .int .i64 x198004_1] 61 (0, 0))) := ⟨by rw [← hq_]; exact (bk_ BK197.out)⟩; replace HB : Aside0 (Below w.heap.size w wr) := ⟨by rw [← hq_]; exact bel_⟩; clear hq_)); (try (obtain ⟨_, _, _, _, _, _, _, _, _, _⟩ := cel5_ BK196.out)); (try (obtain ⟨_, _, _, _, _, _, _, _, _, _⟩ := cel5_ BK197.out))) | ((with_reducible refine gate_callee (f := 102) rfl ?_); refine goesL_ (some 38) rfl rfl Tryz.func102 (by kernel_rfl) rfl #[.int .u64 (rd l1 x13_1)] rfl ar_ ?_; (with_reducible refine (bits_LeadingZeros64.calls (rd l1 x13_1) t200 _ A13.out).mono ?_); rintro e w19 ⟨rfl, hb⟩; refine ⟨_, rfl, ?_⟩; replace HO_11 := Aside0.mk (Kd.V_below (by refine vV_ ?_; exact (Kd.V_mono (Kd.V_far (Kd.V_mono HO_11.out (fun k_ hk => (⟨hk, hk.2.2⟩ : _ ∧ k_ ≠ gb197))) (fun _ hk => hk.2) _) (fun _ h_ => h_.1))) hb); replace HO_198001 := Aside0.mk (Kd.V_below (by refine vV_ ?_; exact (Kd.V_mono (Kd.V_far (Kd.V_mono HO_198001.out (fun k_ hk => (⟨hk, hk.2.2⟩ : _ ∧ k_ ≠ gb197))) (fun _ hk => hk.2) _) (fun _ h_ => h_.1))) hb); replace BK196 := Aside0.mk (blk_below (g := gb196) (o := .cells #[.int .i64 0, .slice none 0 0, .int .i64 0, .int .i64 0, .int .i64 0] 61 (0, 0)) (by refine bk_ ?_; refine blk_far ?_ NB196_197.out _; refine bk_ ?_; exact BK196.out) hb); replace BK197 := Aside0.mk (blk_below (g := gb197) (o := .cells #[.int .i64 a0, .slice (some ad198) l1.length c1, .int .i64 (wrap64 ((wrap64 (a0 + (wrap64 (64 * x13_1)))) + t199)), .int .i64 x198003_1, .int .i64 x198004_1] 61 (0, 0)) (by refine bk_ ?_; refine blk_put (cs := #[.int .i64 a0, .slice (some ad198) l1.length c1, .int .i64 x198002_1, .int .i64 x198003_1, .int .i64 x198004_1]) ?_ 2 _ rfl; refine bk_ ?_; exact BK197.out) hb); replace HB := Aside0.mk (below_step bel_ hb); clear hb; obtain ⟨_, _, _, _, _, _, _, _, _, _⟩ := cel5_ BK197.out))
        obtain ⟨w21, hq_⟩ : ∃ x, x = (w19.setCell ⟨gb197, 3, none⟩ (.int .i64 (wrap64 ((wrap64 ((wrap64 ((wrap64 (a0 + (wrap64 (64 * x13_1)))) + 64)) - 1)) - t200)))) := ⟨_, rfl⟩
        replace HO_11 : Aside0 (Kd.V (Kd.int .u64) 86 w21 w.heap.size (fun k_ => (P1_ k_ ∨ w.heap.size ≤ k_) ∧ k_ ≠ gb196 ∧ k_ ≠ gb197) (.slice (some ad198) l1.length c1) l1) := ⟨by subst hq_; refine vV_ ?_; exact Kd.V_mono (Kd.V_far (Kd.V_mono HO_11.out (fun k_ hk => (⟨hk, hk.2.2⟩ : _ ∧ k_ ≠ gb197))) (fun _ hk => hk.2) _) (fun _ hk => ⟨hk.1.1, ⟨hk.1.2.1, hk.1.2.2⟩⟩)⟩
        replace HO_198001 : Aside0 (Kd.V (Kd.int .u64) 86 w21 w.heap.size (fun k_ => (P1_ k_ ∨ w.heap.size ≤ k_) ∧ k_ ≠ gb196 ∧ k_ ≠ gb197) (.slice (some ad198) l1.length c1) l1) := ⟨by subst hq_; refine vV_ ?_; exact Kd.V_mono (Kd.V_far (Kd.V_mono HO_198001.out (fun k_ hk => (⟨hk, hk.2.2⟩ : _ ∧ k_ ≠ gb197))) (fun _ hk => hk.2) _) (fun _ hk => ⟨hk.1.1, ⟨hk.1.2.1, hk.1.2.2⟩⟩)⟩
        replace BK196 : Aside0 (w21.heap[gb196]? = some (.cells #[.int .i64 0, .slice none 0 0, .int .i64 0, .int .i64 0, .int .i64 0] 61 (0, 0))) := ⟨by subst hq_; refine bk_ ?_; refine blk_far ?_ NB196_197.out _; refine bk_ ?_; exact BK196.out⟩
        replace BK197 : Aside0 (w21.heap[gb197]? = some (.cells #[.int .i64 a0, .slice (some ad198) l1.length c1, .int .i64 (wrap64 ((wrap64 (a0 + (wrap64 (64 * x13_1)))) + t199)), .int .i64 (wrap64 ((wrap64 ((wrap64 ((wrap64 (a0 + (wrap64 (64 * x13_1)))) + 64)) - 1)) - t200)), .int .i64 x198004_1] 61 (0, 0))) := ⟨by subst hq_; refine bk_ ?_; refine blk_put (cs := #[.int .i64 a0, .slice (some ad198) l1.length c1, .int .i64 (wrap64 ((wrap64 (a0 + (wrap64 (64 * x13_1)))) + t199)), .int .i64 x198003_1, .int .i64 x198004_1]) ?_ 3 _ rfl; refine bk_ ?_; exact BK197.out⟩
        replace HB : Aside0 (Below w.heap.size w w21) := ⟨by subst hq_; exact bel_⟩
        rw [← hq_]
        clear hq_
        replace HO_11 := Aside0.mk (Kd.V_drew HO_11.out)
        replace HO_198001 := Aside0.mk (Kd.V_drew HO_198001.out)
        replace BK196 := Aside0.mk (blk_drew BK196.out)
        replace BK197 := Aside0.mk (blk_drew BK197.out)
        replace HB := Aside0.mk (below_drew1 HB.out)
        refine start_ (n := 7) (S := fun w' => w'.cell? ⟨gb197, 0, none⟩ = some (.int .i64 a0) ∧ w'.cell? ⟨gb197, 1, none⟩ = some (.slice (some ad198) l1.length c1) ∧ w'.cell? ⟨gb197, 2, none⟩ = some (.int .i64 (wrap64 ((wrap64 (a0 + (wrap64 (64 * x13_1)))) + t199))) ∧ w'.cell? ⟨gb197, 3, none⟩ = some (.int .i64 (wrap64 ((wrap64 ((wrap64 ((wrap64 (a0 + (wrap64 (64 * x13_1)))) + 64)) - 1)) - t200))) ∧ w'.cell? ⟨gb197, 4, none⟩ = some (.int .i64 x198004_1)) (ds := [6]) #[false, false, false, false, false, false, false] (by kernel_rfl) rfl rfl ⟨(blk_cell BK197.out 0).trans rfl, (blk_cell BK197.out 1).trans rfl, (blk_cell BK197.out 2).trans rfl, (blk_cell BK197.out 3).trans rfl, (blk_cell BK197.out 4).trans rfl⟩ (fun hHeld => ?_)
        generalize w21.drew = w22 at HO_11 HO_198001 BK196 BK197 HB hHeld ⊢
        refine pur_ (i := 0) (N := some 41) #[true, false, false, false, false, false, false] (by kernel_rfl) ?_
        refine pur_ (i := 2) (N := some 43) #[true, false, true, false, false, false, false] (by kernel_rfl) ?_
        refine take_ (i := 1) (N := some 42) (v := ?_) (a' := ?_) #[true, true, true, false, false, false, false] rfl rfl (by kernel_rfl) (fun _ _ _ h => h) (Or.inl ⟨by rfl, ?_⟩) hHeld ?_ ?_
        rotate_left
        ·
         rintro w' ⟨s0, s1, s2, s3, s4⟩
         go_simp
         with_reducible rfl
        rotate_left
        ·
         simp only [Act.put, List.setIfInBounds_toArray, List.set_cons_zero, List.set_cons_succ, i64_w, i32_w]
         rfl
        refine one_ (i := 3) (N := some 44) #[true, true, true, true, false, false, false] rfl rfl (by kernel_rfl) (by decide) (fun K hK => ?_)
        refine goes_ Tryz.func103 (by kernel_rfl) rfl #[.int .u64 (rd l1 x13_1)] (by rfl) rfl rfl ar_ ?_
        with_reducible refine (bits_OnesCount64.calls (rd l1 x13_1) t201 _ A14.out).mono ?_
        rintro e w' ⟨rfl, ⟨nd, rfl⟩⟩
        refine ⟨_, rfl, ?_⟩
        refine hK.out _ _ ⟨(blk_cell BK197.out 0).trans rfl, (blk_cell BK197.out 1).trans rfl, (blk_cell BK197.out 2).trans rfl, (blk_cell BK197.out 3).trans rfl, (blk_cell BK197.out 4).trans rfl⟩ (fun hHeld => ?_)
        clear hK K
        refine nor_ (N := some 44) ?_
        refine pur_ (i := 4) (N := some 45) #[true, true, true, true, true, false, false] (by kernel_rfl) ?_
        refine pur_ (i := 5) (N := some 46) #[true, true, true, true, true, true, false] (by kernel_rfl) ?_
        refine last_ (i := 6) (N := none) #[true, true, true, true, true, true, true] rfl rfl (by kernel_rfl) (by decide) (fun K hK => ?_)
        have hs23 : w22.cell? ⟨gb197, 4, none⟩ = some (.int .i64 x198004_1) := (blk_cell BK197.out 4).trans rfl
        have hfs23 := blk_frozen BK197.out 4
        have hns23_0 := NB196_197.out
        have hms23_0 := NB197_196.out
        refine skip_ (w1 := ?_) (by rfl) rfl ?_ ?_
        rotate_left
        ·
         go_simp
         rfl
        refine hK.out _ _ ?_
        clear hK K
        refine done_ (by kernel_rfl) ?_
        try go_wp2
        go_roundg k1
        case measure => have := HK1.out; omega
        case rel => exact ⟨(wrap64 (x13_1 + 1)), (wrap64 ((wrap64 (a0 + (wrap64 (64 * x13_1)))) + t199)), (wrap64 ((wrap64 ((wrap64 ((wrap64 (a0 + (wrap64 (64 * x13_1)))) + 64)) - 1)) - t200)), (wrap64 (x198004_1 + t201)), eq_, H', ⟨by have := HK1.out; omega⟩, ⟨by refine vV_ ?_; exact Kd.V_mono (Kd.V_far (Kd.V_mono HO_11.out (fun k_ hk => (⟨hk, hk.2.2⟩ : _ ∧ k_ ≠ gb197))) (fun _ hk => hk.2) _) (fun _ hk => ⟨hk.1.1, ⟨hk.1.2.1, hk.1.2.2⟩⟩)⟩, ⟨by refine vV_ ?_; exact Kd.V_mono (Kd.V_far (Kd.V_mono HO_198001.out (fun k_ hk => (⟨hk, hk.2.2⟩ : _ ∧ k_ ≠ gb197))) (fun _ hk => hk.2) _) (fun _ hk => ⟨hk.1.1, ⟨hk.1.2.1, hk.1.2.2⟩⟩)⟩, ⟨by refine bk_ ?_; refine blk_far ?_ NB196_197.out _; refine bk_ ?_; exact BK196.out⟩, ⟨by refine bk_ ?_; refine blk_put (cs := #[.int .i64 a0, .slice (some ad198) l1.length c1, .int .i64 (wrap64 ((wrap64 (a0 + (wrap64 (64 * x13_1)))) + t199)), .int .i64 (wrap64 ((wrap64 ((wrap64 ((wrap64 (a0 + (wrap64 (64 * x13_1)))) + 64)) - 1)) - t200)), .int .i64 x198004_1]) ?_ 4 _ rfl; refine bk_ ?_; exact BK197.out⟩, ⟨bel_⟩⟩
       ·
        rw [if_neg c11] at H
        have c11b0 : (x198004_1 == 0) = false := beq_eq_false_iff_ne.mpr c11
        have c11b1 : (x198004_1 != 0) = true := bne_iff_ne.mpr c11
        replace H := Option.bind_eq_some_iff.mp H
        obtain ⟨t202, A240, H⟩ := H
        replace H : ((bits_OnesCount64.f (rd l1 x13_1)).bind fun t203 => (dom_made.l0 k1 a0 l1 (l1.length : Int) (wrap64 (x13_1 + 1)) a0 l1 x198002_1 (wrap64 ((wrap64 ((wrap64 ((wrap64 (a0 + (wrap64 (64 * x13_1)))) + 64)) - 1)) - t202)) (wrap64 (x198004_1 + t203)))) = some (r1, r2, r3, r4, r5) := H
        have A24 := Aside0.mk A240
        clear A240
        replace H := Option.bind_eq_some_iff.mp H
        obtain ⟨t203, A250, H⟩ := H
        replace H : (dom_made.l0 k1 a0 l1 (l1.length : Int) (wrap64 (x13_1 + 1)) a0 l1 x198002_1 (wrap64 ((wrap64 ((wrap64 ((wrap64 (a0 + (wrap64 (64 * x13_1)))) + 64)) - 1)) - t202)) (wrap64 (x198004_1 + t203))) = some (r1, r2, r3, r4, r5) := H
        have A25 := Aside0.mk A250
        clear A250
        have H' := Aside0.mk H
        clear H
        have p198 : 0 ≤ (x13_1 : Int) := dq_
        have q198 : x13_1 < (l1.length : Int) := dq_
        obtain ⟨ad198, e198, hx198_0⟩ := Kd.at_int (Kd.V_reads' HO_11.out).2.2 x13_1 p198 q198
        cases e198
        replace p198 := eq_true p198
        replace q198 := eq_true q198
        have hnb26 := NB197_196.out
        have hnc26 := NB196_197.out
        obtain ⟨_, _, _, _, _, _, _, _, _, _⟩ := cel5_ BK197.out
        try go_wp2_with (first | ((with_reducible refine gate_callee (f := 102) rfl ?_); refine goesL_ (some 38) rfl rfl Tryz.func102 (by kernel_rfl) rfl #[.int .u64 (rd l1 x13_1)] rfl ar_ ?_; (with_reducible refine (bits_LeadingZeros64.calls (rd l1 x13_1) t202 _ A24.out).mono ?_); rintro e w28 ⟨rfl, hb⟩; refine ⟨_, rfl, ?_⟩; replace HO_11 := Aside0.mk (Kd.V_below (vV_ HO_11.out) hb); replace HO_198001 := Aside0.mk (Kd.V_below (vV_ HO_198001.out) hb); replace BK196 := Aside0.mk (blk_below (bk_ BK196.out) hb); replace BK197 := Aside0.mk (blk_below (bk_ BK197.out) hb); replace HB := Aside0.mk (below_step bel_ hb); clear hb; obtain ⟨_, _, _, _, _, _, _, _, _, _⟩ := cel5_ BK197.out))
        obtain ⟨w30, hq_⟩ : ∃ x, x = (w28.setCell ⟨gb197, 3, none⟩ (.int .i64 (wrap64 ((wrap64 ((wrap64 ((wrap64 (a0 + (wrap64 (64 * x13_1)))) + 64)) - 1)) - t202)))) := ⟨_, rfl⟩
        replace HO_11 : Aside0 (Kd.V (Kd.int .u64) 86 w30 w.heap.size (fun k_ => (P1_ k_ ∨ w.heap.size ≤ k_) ∧ k_ ≠ gb196 ∧ k_ ≠ gb197) (.slice (some ad198) l1.length c1) l1) := ⟨by subst hq_; refine vV_ ?_; exact Kd.V_mono (Kd.V_far (Kd.V_mono HO_11.out (fun k_ hk => (⟨hk, hk.2.2⟩ : _ ∧ k_ ≠ gb197))) (fun _ hk => hk.2) _) (fun _ hk => ⟨hk.1.1, ⟨hk.1.2.1, hk.1.2.2⟩⟩)⟩
        replace HO_198001 : Aside0 (Kd.V (Kd.int .u64) 86 w30 w.heap.size (fun k_ => (P1_ k_ ∨ w.heap.size ≤ k_) ∧ k_ ≠ gb196 ∧ k_ ≠ gb197) (.slice (some ad198) l1.length c1) l1) := ⟨by subst hq_; refine vV_ ?_; exact Kd.V_mono (Kd.V_far (Kd.V_mono HO_198001.out (fun k_ hk => (⟨hk, hk.2.2⟩ : _ ∧ k_ ≠ gb197))) (fun _ hk => hk.2) _) (fun _ hk => ⟨hk.1.1, ⟨hk.1.2.1, hk.1.2.2⟩⟩)⟩
        replace BK196 : Aside0 (w30.heap[gb196]? = some (.cells #[.int .i64 0, .slice none 0 0, .int .i64 0, .int .i64 0, .int .i64 0] 61 (0, 0))) := ⟨by subst hq_; refine bk_ ?_; refine blk_far ?_ NB196_197.out _; refine bk_ ?_; exact BK196.out⟩
        replace BK197 : Aside0 (w30.heap[gb197]? = some (.cells #[.int .i64 a0, .slice (some ad198) l1.length c1, .int .i64 x198002_1, .int .i64 (wrap64 ((wrap64 ((wrap64 ((wrap64 (a0 + (wrap64 (64 * x13_1)))) + 64)) - 1)) - t202)), .int .i64 x198004_1] 61 (0, 0))) := ⟨by subst hq_; refine bk_ ?_; refine blk_put (cs := #[.int .i64 a0, .slice (some ad198) l1.length c1, .int .i64 x198002_1, .int .i64 x198003_1, .int .i64 x198004_1]) ?_ 3 _ rfl; refine bk_ ?_; exact BK197.out⟩
        replace HB : Aside0 (Below w.heap.size w w30) := ⟨by subst hq_; exact bel_⟩
        rw [← hq_]
        clear hq_
        replace HO_11 := Aside0.mk (Kd.V_drew HO_11.out)
        replace HO_198001 := Aside0.mk (Kd.V_drew HO_198001.out)
        replace BK196 := Aside0.mk (blk_drew BK196.out)
        replace BK197 := Aside0.mk (blk_drew BK197.out)
        replace HB := Aside0.mk (below_drew1 HB.out)
        refine start_ (n := 7) (S := fun w' => w'.cell? ⟨gb197, 0, none⟩ = some (.int .i64 a0) ∧ w'.cell? ⟨gb197, 1, none⟩ = some (.slice (some ad198) l1.length c1) ∧ w'.cell? ⟨gb197, 2, none⟩ = some (.int .i64 x198002_1) ∧ w'.cell? ⟨gb197, 3, none⟩ = some (.int .i64 (wrap64 ((wrap64 ((wrap64 ((wrap64 (a0 + (wrap64 (64 * x13_1)))) + 64)) - 1)) - t202))) ∧ w'.cell? ⟨gb197, 4, none⟩ = some (.int .i64 x198004_1)) (ds := [6]) #[false, false, false, false, false, false, false] (by kernel_rfl) rfl rfl ⟨(blk_cell BK197.out 0).trans rfl, (blk_cell BK197.out 1).trans rfl, (blk_cell BK197.out 2).trans rfl, (blk_cell BK197.out 3).trans rfl, (blk_cell BK197.out 4).trans rfl⟩ (fun hHeld => ?_)
        generalize w30.drew = w31 at HO_11 HO_198001 BK196 BK197 HB hHeld ⊢
        refine pur_ (i := 0) (N := some 41) #[true, false, false, false, false, false, false] (by kernel_rfl) ?_
        refine pur_ (i := 2) (N := some 43) #[true, false, true, false, false, false, false] (by kernel_rfl) ?_
        refine take_ (i := 1) (N := some 42) (v := ?_) (a' := ?_) #[true, true, true, false, false, false, false] rfl rfl (by kernel_rfl) (fun _ _ _ h => h) (Or.inl ⟨by rfl, ?_⟩) hHeld ?_ ?_
        rotate_left
        ·
         rintro w' ⟨s0, s1, s2, s3, s4⟩
         go_simp
         with_reducible rfl
        rotate_left
        ·
         simp only [Act.put, List.setIfInBounds_toArray, List.set_cons_zero, List.set_cons_succ, i64_w, i32_w]
         rfl
        refine one_ (i := 3) (N := some 44) #[true, true, true, true, false, false, false] rfl rfl (by kernel_rfl) (by decide) (fun K hK => ?_)
        refine goes_ Tryz.func103 (by kernel_rfl) rfl #[.int .u64 (rd l1 x13_1)] (by rfl) rfl rfl ar_ ?_
        with_reducible refine (bits_OnesCount64.calls (rd l1 x13_1) t203 _ A25.out).mono ?_
        rintro e w' ⟨rfl, ⟨nd, rfl⟩⟩
        refine ⟨_, rfl, ?_⟩
        refine hK.out _ _ ⟨(blk_cell BK197.out 0).trans rfl, (blk_cell BK197.out 1).trans rfl, (blk_cell BK197.out 2).trans rfl, (blk_cell BK197.out 3).trans rfl, (blk_cell BK197.out 4).trans rfl⟩ (fun hHeld => ?_)
        clear hK K
        refine nor_ (N := some 44) ?_
        refine pur_ (i := 4) (N := some 45) #[true, true, true, true, true, false, false] (by kernel_rfl) ?_
        refine pur_ (i := 5) (N := some 46) #[true, true, true, true, true, true, false] (by kernel_rfl) ?_
        refine last_ (i := 6) (N := none) #[true, true, true, true, true, true, true] rfl rfl (by kernel_rfl) (by decide) (fun K hK => ?_)
        have hs32 : w31.cell? ⟨gb197, 4, none⟩ = some (.int .i64 x198004_1) := (blk_cell BK197.out 4).trans rfl
        have hfs32 := blk_frozen BK197.out 4
        have hns32_0 := NB196_197.out
        have hms32_0 := NB197_196.out
        refine skip_ (w1 := ?_) (by rfl) rfl ?_ ?_
        rotate_left
        ·
         go_simp
         rfl
        refine hK.out _ _ ?_
        clear hK K
        refine done_ (by kernel_rfl) ?_
        try go_wp2
        go_roundg k1
        case measure => have := HK1.out; omega
        case rel => exact ⟨(wrap64 (x13_1 + 1)), (x198002_1), (wrap64 ((wrap64 ((wrap64 ((wrap64 (a0 + (wrap64 (64 * x13_1)))) + 64)) - 1)) - t202)), (wrap64 (x198004_1 + t203)), eq_, H', ⟨by have := HK1.out; omega⟩, ⟨by refine vV_ ?_; exact Kd.V_mono (Kd.V_far (Kd.V_mono HO_11.out (fun k_ hk => (⟨hk, hk.2.2⟩ : _ ∧ k_ ≠ gb197))) (fun _ hk => hk.2) _) (fun _ hk => ⟨hk.1.1, ⟨hk.1.2.1, hk.1.2.2⟩⟩)⟩, ⟨by refine vV_ ?_; exact Kd.V_mono (Kd.V_far (Kd.V_mono HO_198001.out (fun k_ hk => (⟨hk, hk.2.2⟩ : _ ∧ k_ ≠ gb197))) (fun _ hk => hk.2) _) (fun _ hk => ⟨hk.1.1, ⟨hk.1.2.1, hk.1.2.2⟩⟩)⟩, ⟨by refine bk_ ?_; refine blk_far ?_ NB196_197.out _; refine bk_ ?_; exact BK196.out⟩, ⟨by refine bk_ ?_; refine blk_put (cs := #[.int .i64 a0, .slice (some ad198) l1.length c1, .int .i64 x198002_1, .int .i64 (wrap64 ((wrap64 ((wrap64 ((wrap64 (a0 + (wrap64 (64 * x13_1)))) + 64)) - 1)) - t202)), .int .i64 x198004_1]) ?_ 4 _ rfl; refine bk_ ?_; exact BK197.out⟩, ⟨bel_⟩⟩
     ·
      rw [if_neg c9] at H
      exact absurd H (by simp)
    ·
     rw [if_neg c8] at H
     exact absurd H (by simp)
   ·
    rw [if_neg c7] at H
    have c7b0 : decide (x13_1 < (l1.length : Int)) = false := decide_eq_false c7
    clear c7
    simp only [Option.some.injEq, Prod.mk.injEq] at H
    obtain ⟨rfl, rfl, rfl, rfl, rfl⟩ := H
    have hnb33 := NB197_196.out
    have hnc33 := NB196_197.out
    obtain ⟨_, _, _, _, _, _, _, _, _, _⟩ := cel5_ BK197.out
    obtain ⟨_, _, _, _, _, _, _, _, _, _⟩ := cel5_ BK196.out
    go_wp2
    refine bodyPost_ret (results_cell_row rfl _ _ gb196 61 #[.int .i64 a0, .slice A1 l1.length c1, .int .i64 x198002_1, .int .i64 x198003_1, .int .i64 x198004_1] (0, 0) _ rfl (by refine bk_ ?_; refine blk_put (cs := #[.int .i64 a0, .slice A1 l1.length c1, .int .i64 x198002_1, .int .i64 x198003_1, .int .i64 0]) ?_ 4 _ rfl; refine bk_ ?_; refine blk_put (cs := #[.int .i64 a0, .slice A1 l1.length c1, .int .i64 x198002_1, .int .i64 0, .int .i64 0]) ?_ 3 _ rfl; refine bk_ ?_; refine blk_put (cs := #[.int .i64 a0, .slice A1 l1.length c1, .int .i64 0, .int .i64 0, .int .i64 0]) ?_ 2 _ rfl; refine bk_ ?_; refine blk_put (cs := #[.int .i64 a0, .slice none 0 0, .int .i64 0, .int .i64 0, .int .i64 0]) ?_ 1 _ rfl; refine bk_ ?_; refine blk_put (cs := #[.int .i64 0, .slice none 0 0, .int .i64 0, .int .i64 0, .int .i64 0]) ?_ 0 _ rfl; refine bk_ ?_; exact BK196.out) Tryz.underlying61 rfl (by kernel_rfl)) rfl ?_
    exact ⟨_, by first | rfl | (simp [errW_none, errW_some] <;> rfl) | (simp [*, errW_none, errW_some] <;> rfl), by refine vV_ ?_; exact Kd.V_mono (Kd.V_far (Kd.V_far (Kd.V_far (Kd.V_far (Kd.V_far (Kd.V_mono HO_198001.out (fun k_ hk => (⟨hk, hk.2.1⟩ : _ ∧ k_ ≠ gb196))) (fun _ hk => hk.2) _) (fun _ hk => hk.2) _) (fun _ hk => hk.2) _) (fun _ hk => hk.2) _) (fun _ hk => hk.2) _) (fun _ hk => hk.1.1), bel_⟩

/-! ### slices_IndexFunc_int_int_101_at_dom_Of_1: function 101 -/
def slices_IndexFunc_int_int_101_at_dom_Of_1.l0 : Nat → List Int → Int → Int → Option (Int)
 | 0, _, _, _ => none
 | k + 1, x0, x7, x8 => if x8 < x7 then (if 0 ≤ x8 then (if x8 < (x0.length : Int) then ((dom_Of_1.f (rd x0 x8)).bind fun t205 => (if t205 = true then (some x8) else (slices_IndexFunc_int_int_101_at_dom_Of_1.l0 k x0 x7 (wrap64 (x8 + 1))))) else (none)) else (none)) else (some (-1))
def slices_IndexFunc_int_int_101_at_dom_Of_1.f (k : Nat) (l0 : List Int)  : Option (Int) := slices_IndexFunc_int_int_101_at_dom_Of_1.l0 k l0 (l0.length : Int) 0
theorem slices_IndexFunc_int_int_101_at_dom_Of_1.mono_l : ∀ k, (∀ y0 y1 y2, LeO (slices_IndexFunc_int_int_101_at_dom_Of_1.l0 k y0 y1 y2) (slices_IndexFunc_int_int_101_at_dom_Of_1.l0 (k + 1) y0 y1 y2))
 | 0 => fun _ _ _ r h => by simp [slices_IndexFunc_int_int_101_at_dom_Of_1.l0] at h
 | k + 1 => by
  have ih0 := slices_IndexFunc_int_int_101_at_dom_Of_1.mono_l k
  ·
   intro y0 y1 y2
   unfold slices_IndexFunc_int_int_101_at_dom_Of_1.l0
   exact leo_
theorem slices_IndexFunc_int_int_101_at_dom_Of_1.mono : ∀ a0 k, LeO (slices_IndexFunc_int_int_101_at_dom_Of_1.f k a0) (slices_IndexFunc_int_int_101_at_dom_Of_1.f (k + 1) a0) := by
 intro a0 k
 have ih0 := slices_IndexFunc_int_int_101_at_dom_Of_1.mono_l k
 unfold slices_IndexFunc_int_int_101_at_dom_Of_1.f
 exact leo_
set_option maxHeartbeats 8000000 in
set_option maxRecDepth 100000 in
theorem slices_IndexFunc_int_int_101_at_dom_Of_1.calls (k : Nat) (A0 : Option Addr) (c0 : Nat) (l0 : List Int)  (r : Int) (w : World) (hr0 : Kd.C (Kd.int .i64) w A0 l0.length l0) (hc0 : l0.length ≤ c0) (h : slices_IndexFunc_int_int_101_at_dom_Of_1.f k l0 = some r) :
  Calls Tryz.prog 101 #[.slice A0 l0.length c0, .func (.func 72) #[] #[]] w fun e w' => e = .returned (.int .i64 r) ∧ Drawn0 w w' := by
 have HR0 := Aside0.mk hr0
 have HC0 := Aside0.mk hc0
 clear hr0 hc0
 have H : (slices_IndexFunc_int_int_101_at_dom_Of_1.l0 k l0 (l0.length : Int) 0) = some r := h
 clear h
 have H' := Aside0.mk H
 clear H
 go_enter Tryz.func101, Tryz.ntmps101
 go_wp2
 go_loopg [8] k (fun kq v8 w' => ∃ (x8_1 : Int), v8 = .int .i64 x8_1 ∧ Aside0 (slices_IndexFunc_int_int_101_at_dom_Of_1.l0 kq l0 (l0.length : Int) x8_1 = some r) ∧ Aside0 (kq ≤ k) ∧ Drawn0 w w')
 case atStart => exact ⟨(0), eq_, H', ⟨Nat.le_refl _⟩, by repeat (first | exact Drawn0.refl _ | apply Drawn0.step)⟩
 case round =>
  clear H'
  try clear p2
  obtain ⟨x8_1, rfl, HA, HK1, ⟨m1, rfl⟩⟩ := hrel
  cases gk with
  | zero => exact absurd HA.out (by simp [slices_IndexFunc_int_int_101_at_dom_Of_1.l0])
  | succ k1 =>
   have H := HA.out
   clear HA
   simp only [slices_IndexFunc_int_int_101_at_dom_Of_1.l0] at H
   by_cases c3 : x8_1 < (l0.length : Int)
   ·
    rw [if_pos c3] at H
    have c3b0 : decide (x8_1 < (l0.length : Int)) = true := decide_eq_true c3
    clear c3
    by_cases c4 : 0 ≤ x8_1
    ·
     rw [if_pos c4] at H
     have c4b0 : decide (0 ≤ x8_1) = true := decide_eq_true c4
     clear c4
     by_cases c5 : x8_1 < (l0.length : Int)
     ·
      rw [if_pos c5] at H
      have c5b0 : decide (x8_1 < (l0.length : Int)) = true := decide_eq_true c5
      clear c5
      replace H := Option.bind_eq_some_iff.mp H
      obtain ⟨t205, A60, H⟩ := H
      try dsimp only at H
      have A6 := Aside0.mk A60
      clear A60
      by_cases c7 : t205 = true
      ·
       subst c7
       have H1 : (some x8_1) = some r := by rw [if_pos rfl] at H; exact H
       clear H
       have H := H1
       clear H1
       obtain rfl := Option.some.inj H
       have p204 : 0 ≤ (x8_1 : Int) := dq_
       have q204 : x8_1 < (l0.length : Int) := dq_
       obtain ⟨ad204, e204, hx204_0⟩ := Kd.at_int HR0.out x8_1 p204 q204
       cases e204
       replace p204 := eq_true p204
       replace q204 := eq_true q204
       go_wp2_with (first | (go_at_call 72; (with_reducible refine (dom_Of_1.calls (rd l0 x8_1) true _ A6.out).mono ?_); rintro e w' ⟨rfl, ⟨nd, rfl⟩⟩))
       go_ret
       exact ⟨by first | rfl | (simp; done) | (simp [*]; done), by repeat (first | exact Drawn0.refl _ | apply Drawn0.step)⟩
      ·
       replace c7 := Bool.eq_false_iff.mpr c7
       subst c7
       have H1 : (slices_IndexFunc_int_int_101_at_dom_Of_1.l0 k1 l0 (l0.length : Int) (wrap64 (x8_1 + 1))) = some r := by rw [if_neg (show ¬ (false = true) by decide)] at H; exact H
       clear H
       have H := H1
       clear H1
       have H' := Aside0.mk H
       clear H
       have p204 : 0 ≤ (x8_1 : Int) := dq_
       have q204 : x8_1 < (l0.length : Int) := dq_
       obtain ⟨ad204, e204, hx204_0⟩ := Kd.at_int HR0.out x8_1 p204 q204
       cases e204
       replace p204 := eq_true p204
       replace q204 := eq_true q204
       go_wp2_with (first | (go_at_call 72; (with_reducible refine (dom_Of_1.calls (rd l0 x8_1) false _ A6.out).mono ?_); rintro e w' ⟨rfl, ⟨nd, rfl⟩⟩))
       go_roundg k1
       case measure => have := HK1.out; omega
       case rel => exact ⟨(wrap64 (x8_1 + 1)), eq_, H', ⟨by have := HK1.out; omega⟩, by repeat (first | exact Drawn0.refl _ | apply Drawn0.step)⟩
     ·
      rw [if_neg c5] at H
      exact absurd H (by simp)
    ·
     rw [if_neg c4] at H
     exact absurd H (by simp)
   ·
    rw [if_neg c3] at H
    have c3b0 : decide (x8_1 < (l0.length : Int)) = false := decide_eq_false c3
    clear c3
    obtain rfl := Option.some.inj H
    go_wp2
    go_ret
    exact ⟨by first | rfl | (simp; done) | (simp [*]; done), by repeat (first | exact Drawn0.refl _ | apply Drawn0.step)⟩

/-! ### slices_ContainsFunc_int_int_71_at_dom_Of_1: function 71 -/
def slices_ContainsFunc_int_int_71_at_dom_Of_1.f (k : Nat) (l0 : List Int)  : Option (Bool) := (slices_IndexFunc_int_int_101_at_dom_Of_1.f k l0).bind fun t206 => (some (decide (t206 ≥ 0)))
theorem slices_ContainsFunc_int_int_71_at_dom_Of_1.mono : ∀ a0 k, LeO (slices_ContainsFunc_int_int_71_at_dom_Of_1.f k a0) (slices_ContainsFunc_int_int_71_at_dom_Of_1.f (k + 1) a0) := by
 intro a0 k
 unfold slices_ContainsFunc_int_int_71_at_dom_Of_1.f
 have m0 := @slices_IndexFunc_int_int_101_at_dom_Of_1.mono
 exact leo_
set_option maxHeartbeats 8000000 in
set_option maxRecDepth 100000 in
theorem slices_ContainsFunc_int_int_71_at_dom_Of_1.calls (k : Nat) (A0 : Option Addr) (c0 : Nat) (l0 : List Int)  (r : Bool) (w : World) (hr0 : Kd.C (Kd.int .i64) w A0 l0.length l0) (hc0 : l0.length ≤ c0) (h : slices_ContainsFunc_int_int_71_at_dom_Of_1.f k l0 = some r) :
  Calls Tryz.prog 71 #[.slice A0 l0.length c0, .func (.func 72) #[] #[]] w fun e w' => e = .returned (.bool r) ∧ Drawn0 w w' := by
 have HR0 := Aside0.mk hr0
 have HC0 := Aside0.mk hc0
 clear hr0 hc0
 have H : ((slices_IndexFunc_int_int_101_at_dom_Of_1.f k l0).bind fun t206 => (some (decide (t206 ≥ 0)))) = some r := h
 clear h
 replace H := Option.bind_eq_some_iff.mp H
 obtain ⟨t206, A30, H⟩ := H
 try dsimp only at H
 have A3 := Aside0.mk A30
 clear A30
 obtain rfl := Option.some.inj H
 go_enter Tryz.func71, Tryz.ntmps71
 go_wp2_with (first | ((with_reducible refine gate_callee (f := 101) rfl ?_); refine goesL_ (some 7) rfl rfl Tryz.func101 (by kernel_rfl) rfl #[.slice A0 l0.length c0, .func (.func 72) #[] #[]] rfl ar_ ?_; (with_reducible refine (slices_IndexFunc_int_int_101_at_dom_Of_1.calls k _ _ l0 t206 _ ?_ ?_ A3.out).mono ?_); exact ca_ (HR0.out); exact HC0.out; rintro e w' ⟨rfl, ⟨nd, rfl⟩⟩; refine ⟨_, rfl, ?_⟩))
 go_ret
 exact ⟨by first | rfl | (simp; done) | (simp [*]; done), by repeat (first | exact Drawn0.refl _ | apply Drawn0.step)⟩

end Go.Proofs.YtiofjnhmogeenaaGreatDoor.XExtFixed
