-- by xprint.py, a program of this session, over the kit's print
import Derived.Test.YtmhchlbbfpmdgaaGreatDoorXCKex0
import Derived.Test.YtmhchlbbfpmdgaaGreatDoorXCKex7
import Derived.Test.YtmhchlbbfpmdgaaGreatDoorXCKex12
import Derived.Test.YtmhchlbbfpmdgaaGreatDoorXCKex13
import Derived.Test.YtmhchlbbfpmdgaaGreatDoorXCKex17
import Derived.Test.YtmhchlbbfpmdgaaGreatDoorSq
namespace Go.Proofs.YtmhchlbbfpmdgaaGreatDoor.XClauseKeeps
open Go.RowKit Go.Proofs.YtmhchlbbfpmdgaaGreatDoor.Sq Go.Proofs.YtmhchlbbfpmdgaaGreatDoorW.PrintWords Go.Proofs.YtmhchlbbfpmdgaaGreatDoorW.PrintLast Go.Proofs.YtmhchlbbfpmdgaaGreatDoorW.PrintMore
attribute [local go_sem] max2_int min2_int max_two min_two max_three min_three max_four min_four   -- for this text's walks alone
set_option linter.unusedVariables false
set_option linter.unusedSimpArgs false

/-! ### dom_Range: function 32 -/
mutual
def dom_Range.j0 : Nat → Int → Int → Bool → Option (Int × List Int × Int × Int × Int × Int)
 | 0, _, _, _ => none
 | k + 1, x0, x1, x8 => if x8 = true then (none) else (if x0 > x1 then (none) else (if (wrap64 (x1 - x0)) ≥ 65536 then (none) else ((dom_room.f x0 x1).bind fun bt394 => (dom_Range.l0 k x1 x0 bt394.1 bt394.2.1 bt394.2.2.1 bt394.2.2.2.1 bt394.2.2.2.2))))
def dom_Range.l0 : Nat → Int → Int → Int → List Int → Int → Int → Int → Option (Int × List Int × Int × Int × Int × Int)
 | 0, _, _, _, _, _, _, _ => none
 | k + 1, x1, x7, x402000, x402001, x402002, x402003, x402004 => if x7 ≤ x1 then (if 0 ≤ (wrap64 (Int.tdiv (wrap64 (x7 - x402000)) 64)) then (if (wrap64 (Int.tdiv (wrap64 (x7 - x402000)) 64)) < (x402001.length : Int) then (if 0 ≤ (Int.tmod (wrap64 (x7 - x402000)) 64) then (dom_Range.l0 k x1 (wrap64 (x7 + 1)) x402000 (x402001.set ((wrap64 (Int.tdiv (wrap64 (x7 - x402000)) 64)) : Int).toNat (Go.bits .or .u64 (rd x402001 (wrap64 (Int.tdiv (wrap64 (x7 - x402000)) 64))) (shl .u64 1 (Int.tmod (wrap64 (x7 - x402000)) 64)))) x402002 x402003 x402004) else (none)) else (none)) else (none)) else ((dom_made.f k x402000 x402001).bind fun bt404 => (some (bt404.1, bt404.2.1, bt404.2.2.1, bt404.2.2.2.1, bt404.2.2.2.2, 0)))
end
def dom_Range.f (k : Nat) (a0 : Int) (a1 : Int) : Option (Int × List Int × Int × Int × Int × Int) := (dom_in.f a0).bind fun t392 => (if t392 = true then ((dom_in.f a1).bind fun t393 => (dom_Range.j0 k a0 a1 (!t393))) else (dom_Range.j0 k a0 a1 true))
theorem dom_Range.mono_l : ∀ k, (∀ y0 y1 y2, LeO (dom_Range.j0 k y0 y1 y2) (dom_Range.j0 (k + 1) y0 y1 y2)) ∧ (∀ y0 y1 y2 y3 y4 y5 y6, LeO (dom_Range.l0 k y0 y1 y2 y3 y4 y5 y6) (dom_Range.l0 (k + 1) y0 y1 y2 y3 y4 y5 y6))
 | 0 => ⟨fun _ _ _ r h => by simp [dom_Range.j0] at h, fun _ _ _ _ _ _ _ r h => by simp [dom_Range.l0] at h⟩
 | k + 1 => by
  obtain ⟨ih0, ih1⟩ := dom_Range.mono_l k
  refine ⟨?_, ?_⟩
  ·
   intro y0 y1 y2
   unfold dom_Range.j0
   have m0 := @dom_made.mono
   exact leo_
  ·
   intro y0 y1 y2 y3 y4 y5 y6
   unfold dom_Range.l0
   have m0 := @dom_made.mono
   exact leo_
theorem dom_Range.mono : ∀ a0 a1 k, LeO (dom_Range.f k a0 a1) (dom_Range.f (k + 1) a0 a1) := by
 intro a0 a1 k
 obtain ⟨ih0, ih1⟩ := dom_Range.mono_l k
 unfold dom_Range.f
 have m0 := @dom_made.mono
 exact leo_
def dom_Range.T11 : Bool × List (List Nat × List Nat) := (true, [([], []), ([0], [0]), ([], []), ([], []), ([3], [3]), ([2, 4], [2, 4]), ([5], [5]), ([1, 6], [1, 6]), ([7], [7]), ([], []), ([], []), ([10], [10]), ([9, 11], [9, 11]), ([12], [12]), ([13], [13]), ([8, 14], [8, 14]), ([1, 6, 0, 1, 2, 3, 4, 5, 6, 7, 8, 9, 10, 11, 12, 13, 14, 15], [1, 6]), ([16, 15, 0, 1, 2, 3, 4, 5, 6, 7, 8, 9, 10, 11, 12, 13, 14, 15], [15, 16])])
def dom_Range.B11 : List Nat := [0, 1, 0, 0, 8, 28, 60, 127, 255, 0, 0, 1024, 3584, 7680, 15872, 32767, 65535, 131071]
theorem dom_Range.tab11 : rtab .any (opsOf Tryz.f32 11) = dom_Range.T11 := by kernel_rfl
theorem dom_Range.bits11 : waitsOk dom_Range.T11.2 dom_Range.B11 = true := by kernel_rfl
set_option maxHeartbeats 8000000 in
set_option maxRecDepth 100000 in
theorem dom_Range.calls (k : Nat) (a0 : Int) (a1 : Int) (r1 : Int) (r2 : List Int) (r3 : Int) (r4 : Int) (r5 : Int) (r6 : Int) (w : World) (hrtab : Kd.C (Kd.int .u8) w (some ⟨0, 0, none⟩) tabL.length tabL) (h : dom_Range.f k a0 a1 = some (r1, r2, r3, r4, r5, r6)) :
  Calls Tryz.prog 32 #[.int .i64 a0, .int .i64 a1] w fun e w' => ∃ v1_ : Value, e = .returned (.tuple #[.agg #[.int .i64 r1, v1_, .int .i64 r3, .int .i64 r4, .int .i64 r5], .int .i64 r6]) ∧ Kd.V (Kd.int .u64) 80 w' w.heap.size (fun k_ => (w.heap.size ≤ k_)) v1_ r2 ∧ Below w.heap.size w w' := by
 have hu58 := Tryz.underlying58
 have HRtab := Aside0.mk hrtab
 clear hrtab
 have HB := Aside0.mk (Below.refl w.heap.size w)
 have H : ((dom_in.f a0).bind fun t392 => (if t392 = true then ((dom_in.f a1).bind fun t393 => (dom_Range.j0 k a0 a1 (!t393))) else (dom_Range.j0 k a0 a1 true))) = some (r1, r2, r3, r4, r5, r6) := h
 clear h
 have HC3 := Aside0.mk H
 clear H
 go_enter Tryz.func32, Tryz.ntmps32
 go_upto_region 1 with (first | ((with_reducible refine gate_dst (N := 4) rfl ?_); refine bxe_ (N := 4) (cs := #[.int .i64 0, .slice none 0 0, .int .i64 0, .int .i64 0, .int .i64 0]) (t := 58) ?_; intro gb391 hg w4 hbox hb; have BK391 := Aside0.mk (hbox); have GW391 := Aside0.mk (by rw [hg]; exact (below_size bel_) : w.heap.size ≤ gb391); have GE391 := GW391; replace HB := Aside0.mk (below_step bel_ hb); clear hb hbox hg))
 (try simp only [Act.put, List.setIfInBounds_toArray, List.set_cons_zero, List.set_cons_succ])
 go_cut [8] (fun v8 wc => ∃ (kq : Nat) (x8_2 : Bool), v8 = .bool x8_2 ∧ Aside0 (dom_Range.j0 kq a0 a1 x8_2 = some (r1, r2, r3, r4, r5, r6)) ∧ Aside0 (kq ≤ k) ∧ Aside0 (wc.heap[gb391]? = some (.cells #[.int .i64 0, (.slice none 0 0), .int .i64 0, .int .i64 0, .int .i64 0] 58 (0, 0))) ∧ Aside0 (Below w.heap.size w wc))
 case first =>
  have H := HC3.out
  clear HC3
  replace H := Option.bind_eq_some_iff.mp H
  obtain ⟨t392, A50, H⟩ := H
  replace H : (if t392 = true then ((dom_in.f a1).bind fun t393 => (dom_Range.j0 k a0 a1 (!t393))) else (dom_Range.j0 k a0 a1 true)) = some (r1, r2, r3, r4, r5, r6) := H
  have A5 := Aside0.mk A50
  clear A50
  by_cases c6 : t392 = true
  ·
   subst c6
   have H1 : ((dom_in.f a1).bind fun t393 => (dom_Range.j0 k a0 a1 (!t393))) = some (r1, r2, r3, r4, r5, r6) := by rw [if_pos rfl] at H; exact H
   clear H
   have H := H1
   clear H1
   replace H := Option.bind_eq_some_iff.mp H
   obtain ⟨t393, A70, H⟩ := H
   replace H : (dom_Range.j0 k a0 a1 (!t393)) = some (r1, r2, r3, r4, r5, r6) := H
   have A7 := Aside0.mk A70
   clear A70
   have H' := Aside0.mk H
   clear H
   go_wp2_with (first | ((with_reducible refine gate_callee (f := 50) rfl ?_); refine goesL_ (some 10) rfl rfl Tryz.func50 (by kernel_rfl) rfl #[.int .i64 a0] rfl ar_ ?_; (with_reducible refine (dom_in.calls a0 true _ A5.out).mono ?_); rintro e w' ⟨rfl, ⟨nd, rfl⟩⟩; refine ⟨_, rfl, ?_⟩) | (go_at_call 50; (with_reducible refine (dom_in.calls a1 t393 _ A7.out).mono ?_); rintro e w' ⟨rfl, ⟨nd, rfl⟩⟩))
   go_meet
   case rel => exact ⟨_, (!t393), eq_, H', ⟨by first | omega | exact Nat.le_refl _⟩, ⟨by refine bk_ ?_; exact BK391.out⟩, ⟨bel_⟩⟩
  ·
   replace c6 := Bool.eq_false_iff.mpr c6
   subst c6
   have H1 : (dom_Range.j0 k a0 a1 true) = some (r1, r2, r3, r4, r5, r6) := by rw [if_neg (show ¬ (false = true) by decide)] at H; exact H
   clear H
   have H := H1
   clear H1
   have H' := Aside0.mk H
   clear H
   go_wp2_with (first | ((with_reducible refine gate_callee (f := 50) rfl ?_); refine goesL_ (some 10) rfl rfl Tryz.func50 (by kernel_rfl) rfl #[.int .i64 a0] rfl ar_ ?_; (with_reducible refine (dom_in.calls a0 false _ A5.out).mono ?_); rintro e w' ⟨rfl, ⟨nd, rfl⟩⟩; refine ⟨_, rfl, ?_⟩))
   go_meet
   case rel => exact ⟨_, (true), eq_, H', ⟨by first | omega | exact Nat.le_refl _⟩, ⟨by refine bk_ ?_; exact BK391.out⟩, ⟨bel_⟩⟩
 case rest =>
  clear HC3
  try clear p2
  try clear c3
  try clear c5
  try clear c6
  obtain ⟨kq, x8_2, rfl, HA, HJ2, BK391, HB⟩ := hcut
  cases kq with
  | zero => exact absurd HA.out (by simp [dom_Range.j0])
  | succ kj2 =>
   have H := HA.out
   clear HA
   simp only [dom_Range.j0] at H
   by_cases c8 : x8_2 = true
   ·
    subst c8
    have H1 : (none) = some (r1, r2, r3, r4, r5, r6) := by rw [if_pos rfl] at H; exact H
    clear H
    have H := H1
    clear H1
    exact absurd H (by simp)
   ·
    replace c8 := Bool.eq_false_iff.mpr c8
    subst c8
    have H1 : (if a0 > a1 then (none) else (if (wrap64 (a1 - a0)) ≥ 65536 then (none) else ((dom_room.f a0 a1).bind fun bt394 => (dom_Range.l0 kj2 a1 a0 bt394.1 bt394.2.1 bt394.2.2.1 bt394.2.2.2.1 bt394.2.2.2.2)))) = some (r1, r2, r3, r4, r5, r6) := by rw [if_neg (show ¬ (false = true) by decide)] at H; exact H
    clear H
    have H := H1
    clear H1
    by_cases c9 : a0 > a1
    ·
     rw [if_pos c9] at H
     exact absurd H (by simp)
    ·
     rw [if_neg c9] at H
     have c9b0 : decide (a1 < a0) = false := decide_eq_false c9
     clear c9
     by_cases c10 : (wrap64 (a1 - a0)) ≥ 65536
     ·
      rw [if_pos c10] at H
      exact absurd H (by simp)
     ·
      rw [if_neg c10] at H
      have c10b0 : decide (65536 ≤ (wrap64 (a1 - a0))) = false := decide_eq_false c10
      clear c10
      replace H := Option.bind_eq_some_iff.mp H
      obtain ⟨⟨t394, t395, t398, t399, t400⟩, A110, H⟩ := H
      replace H : (dom_Range.l0 kj2 a1 a0 t394 t395 t398 t399 t400) = some (r1, r2, r3, r4, r5, r6) := H
      have A11 := Aside0.mk A110
      clear A110
      have H' := Aside0.mk H
      clear H
      go_wp2_with (first | ((with_reducible refine gate_callee (f := 64) rfl ?_); refine goesL_ (some 31) rfl rfl Tryz.func64 (by kernel_rfl) rfl #[.int .i64 a0, .int .i64 a1] rfl ar_ ?_; (with_reducible refine (dom_room.calls a0 a1 t394 t395 t398 t399 t400 _ A11.out).mono ?_); rintro e w12 ⟨v396, rfl, ho0, hb⟩; refine ⟨_, rfl, ?_⟩; have HO397 := Aside0.mk (Kd.R_lower (Kd.R_newM (M := fun k_ => (w.heap.size ≤ k_)) ho0 (below_size bel_) (fun k_ h_ => h_)) (below_size bel_)); replace BK391 := Aside0.mk (blk_below (bk_ BK391.out) hb); replace HB := Aside0.mk (below_step bel_ hb); clear hb ho0) | ((with_reducible refine gate_dst (N := 6) rfl ?_); refine bxe_ (N := 6) (cs := #[.int .i64 0, .slice none 0 0, .int .i64 0, .int .i64 0, .int .i64 0]) (t := 58) ?_; intro gb401 hg w13 hbox hb; replace HO397 := Aside0.mk (Kd.R_below (vR_ HO397.out) hb); have BK401 := Aside0.mk (hbox); have GW401 := Aside0.mk (by rw [hg]; exact (below_size bel_) : w.heap.size ≤ gb401); have GE401 := GW401; replace HB := Aside0.mk (below_step bel_ hb); have NB391_401 := Aside0.mk ((by rw [hg]; exact Nat.ne_of_lt (blk_lt (bk_ BK391.out)) : gb391 ≠ gb401)); have NB401_391 := Aside0.mk ((by rw [hg]; exact Nat.ne_of_gt (blk_lt (bk_ BK391.out)) : gb401 ≠ gb391)); replace BK391 := Aside0.mk (blk_below (bk_ BK391.out) hb); clear hb hbox hg; have hnb14 := NB401_391.out; have hnc14 := NB391_401.out; obtain ⟨hcz15_0, hcz15_1, hcz15_2, hcz15_3, hcz15_4, hfz15_0, hfz15_1, hfz15_2, hfz15_3, hfz15_4⟩ := cel5_ BK401.out; obtain ⟨Ao16, co16, eo16⟩ := Kd.R_slice HO397.out; subst eo16))
      go_loopg [7] kj2 (fun kq v7 w' => ∃ (x7_2 : Int) (x402001_2 : List Int) (u402001 : Value), v7 = .int .i64 x7_2 ∧ Aside0 (dom_Range.l0 kq a1 x7_2 t394 x402001_2 t398 t399 t400 = some (r1, r2, r3, r4, r5, r6)) ∧ Aside0 (kq ≤ kj2) ∧ Aside0 (Kd.R (Kd.int .u64) 80 w' w.heap.size (fun k_ => (w.heap.size ≤ k_)) u402001 x402001_2) ∧ Aside0 (w'.heap[gb391]? = some (.cells #[.int .i64 0, (.slice none 0 0), .int .i64 0, .int .i64 0, .int .i64 0] 58 (0, 0))) ∧ Aside0 (w'.heap[gb401]? = some (.cells #[.int .i64 t394, u402001, .int .i64 t398, .int .i64 t399, .int .i64 t400] 58 (0, 0))) ∧ Aside0 (Below w.heap.size w w'))
      case atStart => exact ⟨(a0), (t395), (.slice Ao16 t395.length co16), eq_, H', ⟨Nat.le_refl _⟩, ⟨by refine vR_ ?_; exact Kd.R_mono (Kd.R_far (Kd.R_far (Kd.R_far (Kd.R_far (Kd.R_far (Kd.R_types HO397.out BK401.out (by decide)) (fun _ hk => hk.2) _) (fun _ hk => hk.2) _) (fun _ hk => hk.2) _) (fun _ hk => hk.2) _) (fun _ hk => hk.2) _) (fun _ hk => hk.1.1)⟩, ⟨by refine bk_ ?_; refine blk_far ?_ NB391_401.out _; refine bk_ ?_; refine blk_far ?_ NB391_401.out _; refine bk_ ?_; refine blk_far ?_ NB391_401.out _; refine bk_ ?_; refine blk_far ?_ NB391_401.out _; refine bk_ ?_; refine blk_far ?_ NB391_401.out _; refine bk_ ?_; exact BK391.out⟩, ⟨by refine bk_ ?_; refine blk_put (cs := #[.int .i64 t394, .slice Ao16 t395.length co16, .int .i64 t398, .int .i64 t399, .int .i64 0]) ?_ 4 _ rfl; refine bk_ ?_; refine blk_put (cs := #[.int .i64 t394, .slice Ao16 t395.length co16, .int .i64 t398, .int .i64 0, .int .i64 0]) ?_ 3 _ rfl; refine bk_ ?_; refine blk_put (cs := #[.int .i64 t394, .slice Ao16 t395.length co16, .int .i64 0, .int .i64 0, .int .i64 0]) ?_ 2 _ rfl; refine bk_ ?_; refine blk_put (cs := #[.int .i64 t394, .slice none 0 0, .int .i64 0, .int .i64 0, .int .i64 0]) ?_ 1 _ rfl; refine bk_ ?_; refine blk_put (cs := #[.int .i64 0, .slice none 0 0, .int .i64 0, .int .i64 0, .int .i64 0]) ?_ 0 _ rfl; refine bk_ ?_; exact BK401.out⟩, ⟨bel_⟩⟩
      case round =>
       clear H'
       try clear c1
       try clear p2
       try clear c3
       try clear c5
       try clear c6
       try clear p6
       try clear c8
       try clear c9
       try clear c9b0
       try clear c10
       try clear c10b0
       try clear c14
       try clear hcz15_0
       try clear hcz15_1
       try clear hcz15_2
       try clear hcz15_3
       try clear hcz15_4
       try clear hfz15_0
       try clear hfz15_1
       try clear hfz15_2
       try clear hfz15_3
       try clear hfz15_4
       try clear p2
       obtain ⟨x7_2, x402001_2, u402001, rfl, HA, HK2, HO_402001, BK391, BK401, HB⟩ := hrel
       cases gk with
       | zero => exact absurd HA.out (by simp [dom_Range.l0])
       | succ k2 =>
        have H := HA.out
        clear HA
        simp only [dom_Range.l0] at H
        by_cases c17 : x7_2 ≤ a1
        ·
         rw [if_pos c17] at H
         have c17b0 : decide (x7_2 ≤ a1) = true := decide_eq_true c17
         clear c17
         obtain ⟨ji18, hji18⟩ : ∃ j_ : Int, (wrap64 (Int.tdiv (wrap64 (x7_2 - t394)) 64)) = j_ := ⟨_, rfl⟩
         replace H : (if 0 ≤ (ji18) then (if (ji18) < (x402001_2.length : Int) then (if 0 ≤ (Int.tmod (wrap64 (x7_2 - t394)) 64) then (dom_Range.l0 k2 a1 (wrap64 (x7_2 + 1)) t394 (x402001_2.set ((ji18) : Int).toNat (Go.bits .or .u64 (rd x402001_2 (ji18)) (shl .u64 1 (Int.tmod (wrap64 (x7_2 - t394)) 64)))) t398 t399 t400) else (none)) else (none)) else (none)) = some (r1, r2, r3, r4, r5, r6) := by first | (rw [hji18] at H; exact H) | (simp only [hji18] at H ⊢; exact H)
         have hji18w : (IntKind.i64.wrap (Int.tdiv (wrap64 (x7_2 - t394)) 64)) = ji18 := (i64_w _).trans hji18
         by_cases c19 : 0 ≤ (ji18)
         ·
          rw [if_pos c19] at H
          have c19b0 : decide (0 ≤ (ji18)) = true := decide_eq_true c19
          clear c19
          by_cases c20 : (ji18) < (x402001_2.length : Int)
          ·
           rw [if_pos c20] at H
           have c20b0 : decide ((ji18) < (x402001_2.length : Int)) = true := decide_eq_true c20
           clear c20
           obtain ⟨ji21, hji21⟩ : ∃ j_ : Int, (Int.tmod (wrap64 (x7_2 - t394)) 64) = j_ := ⟨_, rfl⟩
           replace H : (if 0 ≤ (ji21) then (dom_Range.l0 k2 a1 (wrap64 (x7_2 + 1)) t394 (x402001_2.set ((ji18) : Int).toNat (Go.bits .or .u64 (rd x402001_2 (ji18)) (shl .u64 1 (ji21)))) t398 t399 t400) else (none)) = some (r1, r2, r3, r4, r5, r6) := by first | (rw [hji21] at H; exact H) | (simp only [hji21] at H ⊢; exact H)
           by_cases c22 : 0 ≤ (ji21)
           ·
            rw [if_pos c22] at H
            have c22b0 := eq_true c22
            have c22b1 : decide (0 ≤ (ji21)) = true := decide_eq_true c22
            clear c22
            obtain ⟨ji23, hji23⟩ : ∃ j_ : Int, (shl .u64 1 (ji21)) = j_ := ⟨_, rfl⟩
            replace H : (dom_Range.l0 k2 a1 (wrap64 (x7_2 + 1)) t394 (x402001_2.set ((ji18) : Int).toNat (Go.bits .or .u64 (rd x402001_2 (ji18)) (ji23))) t398 t399 t400) = some (r1, r2, r3, r4, r5, r6) := by first | (rw [hji23] at H; exact H) | (simp only [hji23] at H ⊢; exact H)
            have hji23_ : (IntKind.u64.wrap (1 * 2 ^ min (ji21).toNat 64)) = ji23 := hji23
            have hji23z : (ji21) ≤ 64 → (IntKind.u64.wrap (1 * 2 ^ (ji21).toNat)) = ji23 := shl_small hji23
            have hji23u : (IntKind.u64.wrap (2 ^ min (ji21).toNat 64)) = ji23 := by have h_ := hji23_; rw [Int.one_mul] at h_; exact h_
            have hji23v : (ji21) ≤ 64 → (IntKind.u64.wrap (2 ^ (ji21).toNat)) = ji23 := fun hle_ => by have h_ := hji23z hle_; rw [Int.one_mul] at h_; exact h_
            obtain ⟨y403, hy403⟩ : ∃ y_ : List Int, y_ = (x402001_2.set ((ji18) : Int).toNat (Go.bits .or .u64 (rd x402001_2 (ji18)) (ji23))) := ⟨_, rfl⟩
            replace H : (dom_Range.l0 k2 a1 (wrap64 (x7_2 + 1)) t394 y403 t398 t399 t400) = some (r1, r2, r3, r4, r5, r6) := by first | (rw [hy403]; with_reducible exact H) | (have H2_ := (Option.bind_some _ _).symm.trans H; rw [hy403]; with_reducible exact H2_) | (have H2_ := (Option.bind_some _ _).symm.trans H; with_reducible exact H2_) | with_reducible exact H | (rw [hy403]; exact H) | exact H
            have Ny403 := Aside0.mk hy403
            clear hy403
            have H' := Aside0.mk H
            clear H
            try go_wp2
            replace HO_402001 := Aside0.mk (Kd.R_drew HO_402001.out)
            replace BK391 := Aside0.mk (blk_drew BK391.out)
            replace BK401 := Aside0.mk (blk_drew BK401.out)
            replace HB := Aside0.mk (below_drew1 HB.out)
            obtain ⟨Ao26, co26, eo26⟩ := Kd.R_slice HO_402001.out
            (first | subst eo26 | (injection eo26 with f1_ f2_ f3_; have f4_ := f1_.symm; have f5_ := f3_.symm; clear f1_ f2_ f3_; subst f4_; subst f5_))
            have p402 : 0 ≤ ((ji18) : Int) := dq_
            have q402 : (ji18) < (x402001_2.length : Int) := dq_
            obtain ⟨ad402, e402, hx402_0⟩ := Kd.at_int (Kd.R_reads' HO_402001.out).2.2 (ji18) p402 q402
            cases e402
            replace p402 := eq_true p402
            replace q402 := eq_true q402
            have p24 : 0 ≤ ((ji18) : Int) := dq_
            have q24 : ((ji18) : Int) < ((x402001_2.length : Int) : Int) := dq_
            obtain ⟨go24, co24, eo24, gb24, gl24, cl24, HG24⟩ := Kd.R_form HO_402001.out (by omega)
            (first | cases eo24 | (injection eo24 with ea_ en_ ec_; (first | subst ea_ | (injection ea_ with ea_; subst ea_)); subst ec_; clear en_))
            have GB24 := Aside0.mk gb24
            have GG24 := Aside0.mk HG24
            clear gb24 gl24 HG24
            (first | simp only [add_plain] at hx402_0 | skip)
            obtain ⟨hx24_0, hf24_0⟩ := Kd.R_celln 0 HO_402001.out ((ji18) : Int) p24 q24
            replace p24 := eq_true p24
            replace q24 := eq_true q24
            have HP27 := Kd.R_putn HO_402001.out ((ji18) : Int) (Go.bits .or .u64 (rd x402001_2 (ji18)) (ji23))
            rw [← Ny403.out] at HP27
            have HQ27 := Aside0.mk HP27
            clear HP27
            refine start_ (n := 18) (S := fun w' => w'.cell? ⟨gb401, 0, none⟩ = some (.int .i64 t394) ∧ w'.cell? ⟨gb401, 1, none⟩ = some (.slice (some ⟨go24, 0, none⟩) x402001_2.length co26) ∧ w'.cell? ⟨gb401, 2, none⟩ = some (.int .i64 t398) ∧ w'.cell? ⟨gb401, 3, none⟩ = some (.int .i64 t399) ∧ w'.cell? ⟨gb401, 4, none⟩ = some (.int .i64 t400) ∧ w'.cell? ⟨go24, ((ji18)).toNat, none⟩ = some (.int .u64 (rd x402001_2 (ji18)))) (ds := [17]) #[false, false, false, false, false, false, false, false, false, false, false, false, false, false, false, false, false, false] (by kernel_rfl) rfl rfl ⟨(blk_cell BK401.out 0).trans rfl, (blk_cell BK401.out 1).trans rfl, (blk_cell BK401.out 2).trans rfl, (blk_cell BK401.out 3).trans rfl, (blk_cell BK401.out 4).trans rfl, hx402_0⟩ (fun hHeld => ?_); refine with_tabW dom_Range.tab11 dom_Range.bits11 (fun HT_ HW_ => ?_)
            generalize wr.drew = w25 at HO_402001 BK391 BK401 HB GG24 HQ27 hf24_0 hx24_0 hx402_0 hHeld ⊢
            refine pur_ (i := 0) (N := some 38) #[true, false, false, false, false, false, false, false, false, false, false, false, false, false, false, false, false, false] (any_of HT_.out (by kernel_rfl)) ?_
            refine pur_ (i := 2) (N := some 40) #[true, false, true, false, false, false, false, false, false, false, false, false, false, false, false, false, false, false] (any_of HT_.out (by kernel_rfl)) ?_
            refine pur_ (i := 3) (N := some 41) #[true, false, true, true, false, false, false, false, false, false, false, false, false, false, false, false, false, false] (any_of HT_.out (by kernel_rfl)) ?_
            refine pur_ (i := 9) (N := some 47) #[true, false, true, true, false, false, false, false, false, true, false, false, false, false, false, false, false, false] (any_of HT_.out (by kernel_rfl)) ?_
            refine pur_ (i := 10) (N := some 48) #[true, false, true, true, false, false, false, false, false, true, true, false, false, false, false, false, false, false] (any_of HT_.out (by kernel_rfl)) ?_
            refine take_ (i := 1) (N := some 39) (v := ?_) (a' := ?_) #[true, true, true, true, false, false, false, false, false, true, true, false, false, false, false, false, false, false] rfl rfl (take_ofW HT_.out HW_.out (by kernel_rfl)) (fun _ _ _ h => h) (Or.inl ⟨by rfl, ?_⟩) hHeld ?_ ?_
            rotate_left
            ·
             rintro w' ⟨s0, s1, s2, s3, s4, s5⟩
             go_simp
             with_reducible rfl
            rotate_left
            ·
             simp only [Act.put, List.setIfInBounds_toArray, List.set_cons_zero, List.set_cons_succ, i64_w, i32_w]
             rfl
            refine take_ (i := 4) (N := some 42) (v := ?_) (a' := ?_) #[true, true, true, true, true, false, false, false, false, true, true, false, false, false, false, false, false, false] rfl rfl (take_ofW HT_.out HW_.out (by kernel_rfl)) (fun _ _ _ h => h) (Or.inl ⟨by rfl, ?_⟩) hHeld ?_ ?_
            rotate_left
            ·
             rintro w' ⟨s0, s1, s2, s3, s4, s5⟩
             go_simp
             with_reducible rfl
            rotate_left
            ·
             simp only [Act.put, List.setIfInBounds_toArray, List.set_cons_zero, List.set_cons_succ, i64_w, i32_w]
             rfl
            refine pur_ (i := 5) (N := some 43) #[true, true, true, true, true, true, false, false, false, true, true, false, false, false, false, false, false, false] (any_of HT_.out (by kernel_rfl)) ?_
            refine pur_ (i := 6) (N := some 44) #[true, true, true, true, true, true, true, false, false, true, true, false, false, false, false, false, false, false] (any_of HT_.out (by kernel_rfl)) ?_
            refine pur_ (i := 7) (N := some 45) #[true, true, true, true, true, true, true, true, false, true, true, false, false, false, false, false, false, false] (any_of HT_.out (by kernel_rfl)) ?_
            refine take_ (i := 8) (N := some 46) (v := ?_) (a' := ?_) #[true, true, true, true, true, true, true, true, true, true, true, false, false, false, false, false, false, false] rfl rfl (take_ofW HT_.out HW_.out (by kernel_rfl)) (fun _ _ _ h => h) (Or.inl ⟨by rfl, ?_⟩) hHeld ?_ ?_
            rotate_left
            ·
             rintro w' ⟨s0, s1, s2, s3, s4, s5⟩
             go_simp
             with_reducible rfl
            rotate_left
            ·
             simp only [Act.put, List.setIfInBounds_toArray, List.set_cons_zero, List.set_cons_succ, i64_w, i32_w]
             rfl
            refine take_ (i := 11) (N := some 49) (v := ?_) (a' := ?_) #[true, true, true, true, true, true, true, true, true, true, true, true, false, false, false, false, false, false] rfl rfl (take_ofW HT_.out HW_.out (by kernel_rfl)) (fun _ _ _ h => h) (Or.inl ⟨by rfl, ?_⟩) hHeld ?_ ?_
            rotate_left
            ·
             rintro w' ⟨s0, s1, s2, s3, s4, s5⟩
             go_simp
             with_reducible rfl
            rotate_left
            ·
             simp only [Act.put, List.setIfInBounds_toArray, List.set_cons_zero, List.set_cons_succ, i64_w, i32_w]
             rfl
            refine pur_ (i := 12) (N := some 50) #[true, true, true, true, true, true, true, true, true, true, true, true, true, false, false, false, false, false] (any_of HT_.out (by kernel_rfl)) ?_
            refine pur_ (i := 13) (N := some 51) #[true, true, true, true, true, true, true, true, true, true, true, true, true, true, false, false, false, false] (any_of HT_.out (by kernel_rfl)) ?_
            refine pur_ (i := 14) (N := some 52) #[true, true, true, true, true, true, true, true, true, true, true, true, true, true, true, false, false, false] (any_of HT_.out (by kernel_rfl)) ?_
            refine pur_ (i := 15) (N := some 53) #[true, true, true, true, true, true, true, true, true, true, true, true, true, true, true, true, false, false] (any_of HT_.out (by kernel_rfl)) ?_
            refine pur_ (i := 16) (N := some 54) #[true, true, true, true, true, true, true, true, true, true, true, true, true, true, true, true, true, false] (any_of HT_.out (by kernel_rfl)) ?_
            refine last_ (i := 17) (N := none) #[true, true, true, true, true, true, true, true, true, true, true, true, true, true, true, true, true, true] rfl rfl (one_of HT_.out (by kernel_rfl)) (by decide) (fun K hK => ?_)
            refine skip_ (w1 := ?_) (by rfl) rfl ?_ ?_
            rotate_left
            ·
             go_simp
             rfl
            refine hK.out _ _ ?_
            clear hK K
            refine done_ (done_of HT_.out (by kernel_rfl)) ?_
            try go_wp2
            go_roundg k2
            case measure => have := HJ2.out; have := HK2.out; omega
            case rel => exact ⟨(wrap64 (x7_2 + 1)), (y403), (.slice (some ⟨go24, 0, none⟩) x402001_2.length co26), eq_, H', ⟨by have := HJ2.out; have := HK2.out; omega⟩, ⟨by refine vR_ ?_; exact HQ27.out⟩, ⟨by refine bk_ ?_; refine blk_far ?_ (by have h_ := Kd.R_ne HO_402001.out BK391.out (by decide); intro e_; exact h_ (by rw [e_]; rfl)) _; refine bk_ ?_; exact BK391.out⟩, ⟨by refine bk_ ?_; refine blk_far ?_ (by have h_ := Kd.R_ne HO_402001.out BK401.out (by decide); intro e_; exact h_ (by rw [e_]; rfl)) _; refine bk_ ?_; exact BK401.out⟩, ⟨by repeat (first | (with_reducible first | exact HB.out | apply below_alloc | apply pw_below_drewN | apply below_drew1 | refine below_set ?_ GB24.out | refine below_set ?_ GE391.out | refine below_set ?_ GE401.out) | exact HB.out)⟩⟩
           ·
            rw [if_neg c22] at H
            exact absurd H (by simp)
          ·
           rw [if_neg c20] at H
           exact absurd H (by simp)
         ·
          rw [if_neg c19] at H
          exact absurd H (by simp)
        ·
         rw [if_neg c17] at H
         have c17b0 : decide (x7_2 ≤ a1) = false := decide_eq_false c17
         clear c17
         replace H := Option.bind_eq_some_iff.mp H
         obtain ⟨⟨t404, t405, t408, t409, t410⟩, A280, H⟩ := H
         replace H : (some (t404, t405, t408, t409, t410, 0)) = some (r1, r2, r3, r4, r5, r6) := H
         have A28 := Aside0.mk A280
         clear A280
         simp only [Option.some.injEq, Prod.mk.injEq] at H
         obtain ⟨rfl, rfl, rfl, rfl, rfl, rfl⟩ := H
         have hnb29 := NB401_391.out
         have hnc29 := NB391_401.out
         obtain ⟨_, _, _, _, _, _, _, _, _, _⟩ := cel5_ BK401.out
         obtain ⟨Ao31, co31, eo31⟩ := Kd.R_slice HO_402001.out
         subst eo31
         go_wp2_with (first | ((with_reducible refine gate_callee (f := 65) rfl ?_); refine goesL_ (some 59) rfl rfl Tryz.func65 (by kernel_rfl) rfl #[.int .i64 t394, .slice Ao31 x402001_2.length co31] rfl ar_ ?_; (with_reducible refine (dom_made.calls k2 t394 (fun k_ => some k_ = (.slice Ao31 x402001_2.length co31 : Value).ownBlock) _ _ x402001_2 t404 t405 t408 t409 t410 _ ?_ ?_ A28.out).mono ?_); exact Kd.R_V (Kd.R_tight rfl (Kd.R_types (Kd.R_types (HO_402001.out) BK391.out (by decide)) BK401.out (by decide))); exact ca_ ((Kd.C_below HRtab.out HB.out)); rintro e w32 ⟨v406, rfl, ho0, hb⟩; refine ⟨_, rfl, ?_⟩; have HO407 := Aside0.mk (Kd.V_lower (Kd.V_mono (ok' := fun k_ => (w.heap.size ≤ k_) ∧ k_ ≠ gb391 ∧ k_ ≠ gb401) ho0 (fun k_ hk_ => ⟨Or.elim hk_ (fun hs_ => ((Kd.R_types (Kd.R_types (HO_402001.out) BK391.out (by decide)) BK401.out (by decide)).1 k_ hs_.symm).1.1) (fun hn_ => (Nat.le_trans (below_size bel_) hn_)), Or.elim hk_ (fun hs_ => ((Kd.R_types (Kd.R_types (HO_402001.out) BK391.out (by decide)) BK401.out (by decide)).1 k_ hs_.symm).1.2) (fun hn_ => (Kd.freshB (bk_ BK391.out) k_ hn_)), Or.elim hk_ (fun hs_ => ((Kd.R_types (Kd.R_types (HO_402001.out) BK391.out (by decide)) BK401.out (by decide)).1 k_ hs_.symm).2) (fun hn_ => (Kd.freshB (bk_ BK401.out) k_ hn_))⟩)) (below_size bel_)); replace BK391 := Aside0.mk (blk_below (bk_ BK391.out) hb); replace HB := Aside0.mk (below_step bel_ hb); clear hb ho0; obtain ⟨_, _, _, _, _, _, _, _, _, _⟩ := cel5_ BK391.out; obtain ⟨Ao34, co34, eo34⟩ := Kd.V_slice HO407.out; subst eo34))
         refine bodyPost_ret (results_ct rfl _ _ gb391 58 #[.int .i64 t404, .slice Ao34 t405.length co34, .int .i64 t408, .int .i64 t409, .int .i64 t410] (0, 0) _ rfl (by refine bk_ ?_; refine blk_put (cs := #[.int .i64 t404, .slice Ao34 t405.length co34, .int .i64 t408, .int .i64 t409, .int .i64 0]) ?_ 4 _ rfl; refine bk_ ?_; refine blk_put (cs := #[.int .i64 t404, .slice Ao34 t405.length co34, .int .i64 t408, .int .i64 0, .int .i64 0]) ?_ 3 _ rfl; refine bk_ ?_; refine blk_put (cs := #[.int .i64 t404, .slice Ao34 t405.length co34, .int .i64 0, .int .i64 0, .int .i64 0]) ?_ 2 _ rfl; refine bk_ ?_; refine blk_put (cs := #[.int .i64 t404, .slice none 0 0, .int .i64 0, .int .i64 0, .int .i64 0]) ?_ 1 _ rfl; refine bk_ ?_; refine blk_put (cs := #[.int .i64 0, .slice none 0 0, .int .i64 0, .int .i64 0, .int .i64 0]) ?_ 0 _ rfl; refine bk_ ?_; exact BK391.out) Tryz.underlying58 rfl (by kernel_rfl)) rfl ?_
         exact ⟨_, by first | rfl | (simp [errW_none, errW_some] <;> rfl) | (simp [*, errW_none, errW_some] <;> rfl), by refine vV_ ?_; exact Kd.V_mono (Kd.V_far (Kd.V_far (Kd.V_far (Kd.V_far (Kd.V_far (Kd.V_mono HO407.out (fun k_ hk => (⟨hk, hk.2.1⟩ : _ ∧ k_ ≠ gb391))) (fun _ hk => hk.2) _) (fun _ hk => hk.2) _) (fun _ hk => hk.2) _) (fun _ hk => hk.2) _) (fun _ hk => hk.2) _) (fun _ hk => hk.1.1), bel_⟩

/-! ### slices_Equal_int_int: function 33 -/
def slices_Equal_int_int.l0 : Nat → List Int → List Int → Int → Int → Option (Bool)
 | 0, _, _, _, _ => none
 | k + 1, x0, x1, x12, x13 => if x13 < x12 then (if 0 ≤ x13 then (if x13 < (x0.length : Int) then (if x13 < (x1.length : Int) then (if (rd x0 x13) = (rd x1 x13) then (slices_Equal_int_int.l0 k x0 x1 x12 (wrap64 (x13 + 1))) else (none)) else (none)) else (none)) else (none)) else (some true)
def slices_Equal_int_int.f (k : Nat) (l0 : List Int) (l1 : List Int) : Option (Bool) := if (l0.length : Int) = (l1.length : Int) then (slices_Equal_int_int.l0 k l0 l1 (l0.length : Int) 0) else (none)
theorem slices_Equal_int_int.mono_l : ∀ k, (∀ y0 y1 y2 y3, LeO (slices_Equal_int_int.l0 k y0 y1 y2 y3) (slices_Equal_int_int.l0 (k + 1) y0 y1 y2 y3))
 | 0 => fun _ _ _ _ r h => by simp [slices_Equal_int_int.l0] at h
 | k + 1 => by
  have ih0 := slices_Equal_int_int.mono_l k
  ·
   intro y0 y1 y2 y3
   unfold slices_Equal_int_int.l0
   exact leo_
theorem slices_Equal_int_int.mono : ∀ a0 a1 k, LeO (slices_Equal_int_int.f k a0 a1) (slices_Equal_int_int.f (k + 1) a0 a1) := by
 intro a0 a1 k
 have ih0 := slices_Equal_int_int.mono_l k
 unfold slices_Equal_int_int.f
 exact leo_
set_option maxHeartbeats 8000000 in
set_option maxRecDepth 100000 in
theorem slices_Equal_int_int.calls (k : Nat) (A0 : Option Addr) (c0 : Nat) (l0 : List Int) (A1 : Option Addr) (c1 : Nat) (l1 : List Int) (r : Bool) (w : World) (hr0 : Kd.C (Kd.int .i64) w A0 l0.length l0) (hc0 : l0.length ≤ c0) (hr1 : Kd.C (Kd.int .i64) w A1 l1.length l1) (hc1 : l1.length ≤ c1) (h : slices_Equal_int_int.f k l0 l1 = some r) :
  Calls Tryz.prog 33 #[.slice A0 l0.length c0, .slice A1 l1.length c1] w fun e w' => e = .returned (.bool r) ∧ Drawn0 w w' := by
 have HR0 := Aside0.mk hr0
 have HC0 := Aside0.mk hc0
 clear hr0 hc0
 have HR1 := Aside0.mk hr1
 have HC1 := Aside0.mk hc1
 clear hr1 hc1
 have H : (if (l0.length : Int) = (l1.length : Int) then (slices_Equal_int_int.l0 k l0 l1 (l0.length : Int) 0) else (none)) = some r := h
 clear h
 by_cases c3 : (l0.length : Int) = (l1.length : Int)
 ·
  rw [if_pos c3] at H
  have c3b0 : ((l0.length : Int) == (l1.length : Int)) = true := beq_iff_eq.mpr c3
  have c3b1 : ((l0.length : Int) != (l1.length : Int)) = false := bne_eq_false_iff_eq.mpr c3
  have c3b2 : (l0.length == l1.length) = true := by first | simpa using c3 | (simp at c3 ⊢; omega)
  clear c3
  have H' := Aside0.mk H
  clear H
  go_enter Tryz.func33, Tryz.ntmps33
  go_wp2
  repeat (go_quiet (fail); try go_wp2)
  go_loopg [13] k (fun kq v13 w' => ∃ (x13_1 : Int), v13 = .int .i64 x13_1 ∧ Aside0 (slices_Equal_int_int.l0 kq l0 l1 (l0.length : Int) x13_1 = some r) ∧ Aside0 (kq ≤ k) ∧ Drawn0 w w')
  case atStart => exact ⟨(0), eq_, H', ⟨Nat.le_refl _⟩, by repeat (first | exact Drawn0.refl _ | apply Drawn0.step)⟩
  case round =>
   clear H'
   try clear c1
   try clear p2
   try clear c3
   try clear c3b0
   try clear c3b1
   try clear c3b2
   obtain ⟨x13_1, rfl, HA, HK1, ⟨m1, rfl⟩⟩ := hrel
   cases gk with
   | zero => exact absurd HA.out (by simp [slices_Equal_int_int.l0])
   | succ k1 =>
    have H := HA.out
    clear HA
    simp only [slices_Equal_int_int.l0] at H
    by_cases c4 : x13_1 < (l0.length : Int)
    ·
     rw [if_pos c4] at H
     have c4b0 : decide (x13_1 < (l0.length : Int)) = true := decide_eq_true c4
     clear c4
     by_cases c5 : 0 ≤ x13_1
     ·
      rw [if_pos c5] at H
      have c5b0 : decide (0 ≤ x13_1) = true := decide_eq_true c5
      clear c5
      by_cases c6 : x13_1 < (l0.length : Int)
      ·
       rw [if_pos c6] at H
       have c6b0 : decide (x13_1 < (l0.length : Int)) = true := decide_eq_true c6
       clear c6
       by_cases c7 : x13_1 < (l1.length : Int)
       ·
        rw [if_pos c7] at H
        have c7b0 : decide (x13_1 < (l1.length : Int)) = true := decide_eq_true c7
        clear c7
        by_cases c8 : (rd l0 x13_1) = (rd l1 x13_1)
        ·
         rw [if_pos c8] at H
         have c8b0 : ((rd l0 x13_1) == (rd l1 x13_1)) = true := beq_iff_eq.mpr c8
         have c8b1 : ((rd l0 x13_1) != (rd l1 x13_1)) = false := bne_eq_false_iff_eq.mpr c8
         clear c8
         have H' := Aside0.mk H
         clear H
         have p411 : 0 ≤ (x13_1 : Int) := dq_
         have q411 : x13_1 < (l0.length : Int) := dq_
         obtain ⟨ad411, e411, hx411_0⟩ := Kd.at_int HR0.out x13_1 p411 q411
         cases e411
         replace p411 := eq_true p411
         replace q411 := eq_true q411
         have p412 : 0 ≤ (x13_1 : Int) := dq_
         have q412 : x13_1 < (l1.length : Int) := dq_
         obtain ⟨ad412, e412, hx412_0⟩ := Kd.at_int HR1.out x13_1 p412 q412
         cases e412
         replace p412 := eq_true p412
         replace q412 := eq_true q412
         go_wp2
         repeat (go_quiet (fail); try go_wp2)
         go_roundg k1
         case measure => have := HK1.out; omega
         case rel => exact ⟨(wrap64 (x13_1 + 1)), eq_, H', ⟨by have := HK1.out; omega⟩, by repeat (first | exact Drawn0.refl _ | apply Drawn0.step)⟩
        ·
         rw [if_neg c8] at H
         exact absurd H (by simp)
       ·
        rw [if_neg c7] at H
        exact absurd H (by simp)
      ·
       rw [if_neg c6] at H
       exact absurd H (by simp)
     ·
      rw [if_neg c5] at H
      exact absurd H (by simp)
    ·
     rw [if_neg c4] at H
     have c4b0 : decide (x13_1 < (l0.length : Int)) = false := decide_eq_false c4
     clear c4
     obtain rfl := Option.some.inj H
     go_wp2
     repeat (go_quiet (fail); try go_wp2)
     go_ret
     exact ⟨by first | rfl | (simp; done) | (simp [*]; done), by repeat (first | exact Drawn0.refl _ | apply Drawn0.step)⟩
 ·
  rw [if_neg c3] at H
  exact absurd H (by simp)

end Go.Proofs.YtmhchlbbfpmdgaaGreatDoor.XClauseKeeps
