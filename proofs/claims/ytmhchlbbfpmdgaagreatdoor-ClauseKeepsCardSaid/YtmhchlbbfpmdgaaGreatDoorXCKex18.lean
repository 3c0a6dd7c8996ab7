-- by xprint.py, a program of this session, over the kit's print
import Derived.Test.YtmhchlbbfpmdgaaGreatDoorXCKex0
import Derived.Test.YtmhchlbbfpmdgaaGreatDoorXCKex12
import Derived.Test.YtmhchlbbfpmdgaaGreatDoorXCKex13
import Derived.Test.YtmhchlbbfpmdgaaGreatDoorXCKex17
import Derived.Test.YtmhchlbbfpmdgaaGreatDoorSq
namespace Go.Proofs.YtmhchlbbfpmdgaaGreatDoor.XClauseKeeps
open Go.RowKit Go.Proofs.YtmhchlbbfpmdgaaGreatDoor.Sq Go.Proofs.YtmhchlbbfpmdgaaGreatDoorW.PrintWords Go.Proofs.YtmhchlbbfpmdgaaGreatDoorW.PrintLast Go.Proofs.YtmhchlbbfpmdgaaGreatDoorW.PrintMore
attribute [local go_sem] max2_int min2_int max_two min_two max_three min_three max_four min_four   -- for this text's walks alone
set_option linter.unusedVariables false
set_option linter.unusedSimpArgs false

/-! ### dom_Of: function 30 -/
def dom_Of.l0 : Nat → List Int → Int → Int → Int → List Int → Int → Int → Int → Option (Int × List Int × Int × Int × Int × Int)
 | 0, _, _, _, _, _, _, _, _ => none
 | k + 1, x29, x30, x31, x362000, x362001, x362002, x362003, x362004 => if x31 < x30 then (if 0 ≤ x31 then (if x31 < (x29.length : Int) then (if 0 ≤ (wrap64 (Int.tdiv (wrap64 ((rd x29 x31) - x362000)) 64)) then (if (wrap64 (Int.tdiv (wrap64 ((rd x29 x31) - x362000)) 64)) < (x362001.length : Int) then (if 0 ≤ (Int.tmod (wrap64 ((rd x29 x31) - x362000)) 64) then (dom_Of.l0 k x29 x30 (wrap64 (x31 + 1)) x362000 (x362001.set ((wrap64 (Int.tdiv (wrap64 ((rd x29 x31) - x362000)) 64)) : Int).toNat (Go.bits .or .u64 (rd x362001 (wrap64 (Int.tdiv (wrap64 ((rd x29 x31) - x362000)) 64))) (shl .u64 1 (Int.tmod (wrap64 ((rd x29 x31) - x362000)) 64)))) x362002 x362003 x362004) else (none)) else (none)) else (none)) else (none)) else (none)) else ((dom_made.f k x362000 x362001).bind fun bt365 => (some (bt365.1, bt365.2.1, bt365.2.2.1, bt365.2.2.2.1, bt365.2.2.2.2, 0)))
def dom_Of.f (k : Nat) (l0 : List Int) : Option (Int × List Int × Int × Int × Int × Int) := if (l0.length : Int) = 0 then (none) else ((slices_ContainsFunc_int_int_60_at_dom_Of_1.f k l0).bind fun t349 => (if t349 = true then (none) else ((slices_Max_int.f l0).bind fun t350 => ((slices_Min_int.f l0).bind fun t351 => (if (wrap64 (t350 - t351)) ≥ 65536 then (none) else ((slices_Min_int.f l0).bind fun t352 => ((slices_Max_int.f l0).bind fun t353 => ((dom_room.f t352 t353).bind fun bt354 => (dom_Of.l0 k l0 (l0.length : Int) 0 bt354.1 bt354.2.1 bt354.2.2.1 bt354.2.2.2.1 bt354.2.2.2.2)))))))))
theorem dom_Of.mono_l : ∀ k, (∀ y0 y1 y2 y3 y4 y5 y6 y7, LeO (dom_Of.l0 k y0 y1 y2 y3 y4 y5 y6 y7) (dom_Of.l0 (k + 1) y0 y1 y2 y3 y4 y5 y6 y7))
 | 0 => fun _ _ _ _ _ _ _ _ r h => by simp [dom_Of.l0] at h
 | k + 1 => by
  have ih0 := dom_Of.mono_l k
  ·
   intro y0 y1 y2 y3 y4 y5 y6 y7
   unfold dom_Of.l0
   have m0 := @dom_made.mono
   have m1 := @slices_ContainsFunc_int_int_60_at_dom_Of_1.mono
   exact leo_
theorem dom_Of.mono : ∀ a0 k, LeO (dom_Of.f k a0) (dom_Of.f (k + 1) a0) := by
 intro a0 k
 have ih0 := dom_Of.mono_l k
 unfold dom_Of.f
 have m0 := @dom_made.mono
 have m1 := @slices_ContainsFunc_int_int_60_at_dom_Of_1.mono
 exact leo_
def dom_Of.T11 : Bool × List (List Nat × List Nat) := (true, [([], []), ([0], [0]), ([], []), ([], []), ([3], [3]), ([2, 4], [2, 4]), ([5], [5]), ([1, 6], [1, 6]), ([7], [7]), ([], []), ([], []), ([10], [10]), ([9, 11], [9, 11]), ([12], [12]), ([13], [13]), ([8, 14], [8, 14]), ([1, 6, 0, 1, 2, 3, 4, 5, 6, 7, 8, 9, 10, 11, 12, 13, 14, 15], [1, 6]), ([16, 15, 0, 1, 2, 3, 4, 5, 6, 7, 8, 9, 10, 11, 12, 13, 14, 15], [15, 16])])
def dom_Of.B11 : List Nat := [0, 1, 0, 0, 8, 28, 60, 127, 255, 0, 0, 1024, 3584, 7680, 15872, 32767, 65535, 131071]
theorem dom_Of.tab11 : rtab .any (opsOf Tryz.f30 11) = dom_Of.T11 := by kernel_rfl
theorem dom_Of.bits11 : waitsOk dom_Of.T11.2 dom_Of.B11 = true := by kernel_rfl
set_option maxHeartbeats 8000000 in
set_option maxRecDepth 100000 in
theorem dom_Of.calls (k : Nat) (A0 : Option Addr) (c0 : Nat) (l0 : List Int) (r1 : Int) (r2 : List Int) (r3 : Int) (r4 : Int) (r5 : Int) (r6 : Int) (w : World) (hr0 : Kd.C (Kd.int .i64) w A0 l0.length l0) (hc0 : l0.length ≤ c0) (hrtab : Kd.C (Kd.int .u8) w (some ⟨0, 0, none⟩) tabL.length tabL) (h : dom_Of.f k l0 = some (r1, r2, r3, r4, r5, r6)) :
  Calls Tryz.prog 30 #[.slice A0 l0.length c0] w fun e w' => ∃ v1_ : Value, e = .returned (.tuple #[.agg #[.int .i64 r1, v1_, .int .i64 r3, .int .i64 r4, .int .i64 r5], .int .i64 r6]) ∧ Kd.V (Kd.int .u64) 80 w' w.heap.size (fun k_ => (w.heap.size ≤ k_)) v1_ r2 ∧ Below w.heap.size w w' := by
 have hu58 := Tryz.underlying58
 have HR0 := Aside0.mk hr0
 have HC0 := Aside0.mk hc0
 clear hr0 hc0
 have HRtab := Aside0.mk hrtab
 clear hrtab
 have HB := Aside0.mk (Below.refl w.heap.size w)
 have H : (if (l0.length : Int) = 0 then (none) else ((slices_ContainsFunc_int_int_60_at_dom_Of_1.f k l0).bind fun t349 => (if t349 = true then (none) else ((slices_Max_int.f l0).bind fun t350 => ((slices_Min_int.f l0).bind fun t351 => (if (wrap64 (t350 - t351)) ≥ 65536 then (none) else ((slices_Min_int.f l0).bind fun t352 => ((slices_Max_int.f l0).bind fun t353 => ((dom_room.f t352 t353).bind fun bt354 => (dom_Of.l0 k l0 (l0.length : Int) 0 bt354.1 bt354.2.1 bt354.2.2.1 bt354.2.2.2.1 bt354.2.2.2.2)))))))))) = some (r1, r2, r3, r4, r5, r6) := h
 clear h
 by_cases c2 : (l0.length : Int) = 0
 ·
  rw [if_pos c2] at H
  exact absurd H (by simp)
 ·
  rw [if_neg c2] at H
  have c2b0 : ((l0.length : Int) == 0) = false := beq_eq_false_iff_ne.mpr c2
  have c2b1 : ((l0.length : Int) != 0) = true := bne_iff_ne.mpr c2
  have c2b2 : ¬ (l0 = []) := fun h_ => c2 (by rw [h_]; rfl)
  replace H := Option.bind_eq_some_iff.mp H
  obtain ⟨t349, A30, H⟩ := H
  replace H : (if t349 = true then (none) else ((slices_Max_int.f l0).bind fun t350 => ((slices_Min_int.f l0).bind fun t351 => (if (wrap64 (t350 - t351)) ≥ 65536 then (none) else ((slices_Min_int.f l0).bind fun t352 => ((slices_Max_int.f l0).bind fun t353 => ((dom_room.f t352 t353).bind fun bt354 => (dom_Of.l0 k l0 (l0.length : Int) 0 bt354.1 bt354.2.1 bt354.2.2.1 bt354.2.2.2.1 bt354.2.2.2.2)))))))) = some (r1, r2, r3, r4, r5, r6) := H
  have A3 := Aside0.mk A30
  clear A30
  by_cases c4 : t349 = true
  ·
   subst c4
   have H1 : (none) = some (r1, r2, r3, r4, r5, r6) := by rw [if_pos rfl] at H; exact H
   clear H
   have H := H1
   clear H1
   exact absurd H (by simp)
  ·
   replace c4 := Bool.eq_false_iff.mpr c4
   subst c4
   have H1 : ((slices_Max_int.f l0).bind fun t350 => ((slices_Min_int.f l0).bind fun t351 => (if (wrap64 (t350 - t351)) ≥ 65536 then (none) else ((slices_Min_int.f l0).bind fun t352 => ((slices_Max_int.f l0).bind fun t353 => ((dom_room.f t352 t353).bind fun bt354 => (dom_Of.l0 k l0 (l0.length : Int) 0 bt354.1 bt354.2.1 bt354.2.2.1 bt354.2.2.2.1 bt354.2.2.2.2))))))) = some (r1, r2, r3, r4, r5, r6) := by rw [if_neg (show ¬ (false = true) by decide)] at H; exact H
   clear H
   have H := H1
   clear H1
   replace H := Option.bind_eq_some_iff.mp H
   obtain ⟨t350, A50, H⟩ := H
   replace H : ((slices_Min_int.f l0).bind fun t351 => (if (wrap64 (t350 - t351)) ≥ 65536 then (none) else ((slices_Min_int.f l0).bind fun t352 => ((slices_Max_int.f l0).bind fun t353 => ((dom_room.f t352 t353).bind fun bt354 => (dom_Of.l0 k l0 (l0.length : Int) 0 bt354.1 bt354.2.1 bt354.2.2.1 bt354.2.2.2.1 bt354.2.2.2.2)))))) = some (r1, r2, r3, r4, r5, r6) := H
   have A5 := Aside0.mk A50
   clear A50
   replace H := Option.bind_eq_some_iff.mp H
   obtain ⟨t351, A60, H⟩ := H
   replace H : (if (wrap64 (t350 - t351)) ≥ 65536 then (none) else ((slices_Min_int.f l0).bind fun t352 => ((slices_Max_int.f l0).bind fun t353 => ((dom_room.f t352 t353).bind fun bt354 => (dom_Of.l0 k l0 (l0.length : Int) 0 bt354.1 bt354.2.1 bt354.2.2.1 bt354.2.2.2.1 bt354.2.2.2.2))))) = some (r1, r2, r3, r4, r5, r6) := H
   have A6 := Aside0.mk A60
   clear A60
   by_cases c7 : (wrap64 (t350 - t351)) ≥ 65536
   ·
    rw [if_pos c7] at H
    exact absurd H (by simp)
   ·
    rw [if_neg c7] at H
    have c7b0 : decide (65536 ≤ (wrap64 (t350 - t351))) = false := decide_eq_false c7
    clear c7
    replace H := Option.bind_eq_some_iff.mp H
    obtain ⟨t352, A80, H⟩ := H
    replace H : ((slices_Max_int.f l0).bind fun t353 => ((dom_room.f t352 t353).bind fun bt354 => (dom_Of.l0 k l0 (l0.length : Int) 0 bt354.1 bt354.2.1 bt354.2.2.1 bt354.2.2.2.1 bt354.2.2.2.2))) = some (r1, r2, r3, r4, r5, r6) := H
    have A8 := Aside0.mk A80
    clear A80
    replace H := Option.bind_eq_some_iff.mp H
    obtain ⟨t353, A90, H⟩ := H
    replace H : ((dom_room.f t352 t353).bind fun bt354 => (dom_Of.l0 k l0 (l0.length : Int) 0 bt354.1 bt354.2.1 bt354.2.2.1 bt354.2.2.2.1 bt354.2.2.2.2)) = some (r1, r2, r3, r4, r5, r6) := H
    have A9 := Aside0.mk A90
    clear A90
    replace H := Option.bind_eq_some_iff.mp H
    obtain ⟨⟨t354, t355, t358, t359, t360⟩, A100, H⟩ := H
    replace H : (dom_Of.l0 k l0 (l0.length : Int) 0 t354 t355 t358 t359 t360) = some (r1, r2, r3, r4, r5, r6) := H
    have A10 := Aside0.mk A100
    clear A100
    have H' := Aside0.mk H
    clear H
    go_enter Tryz.func30, Tryz.ntmps30
    go_wp2_with (first | ((with_reducible refine gate_dst (N := 2) rfl ?_); refine bxe_ (N := 2) (cs := #[.int .i64 0, .slice none 0 0, .int .i64 0, .int .i64 0, .int .i64 0]) (t := 58) ?_; intro gb348 hg w11 hbox hb; have BK348 := Aside0.mk (hbox); have GW348 := Aside0.mk (by rw [hg]; exact (below_size bel_) : w.heap.size ≤ gb348); have GE348 := GW348; replace HB := Aside0.mk (below_step bel_ hb); clear hb hbox hg) | ((with_reducible refine gate_callee (f := 60) rfl ?_); refine goesL_ (some 14) rfl rfl Tryz.func60 (by kernel_rfl) rfl #[.slice A0 l0.length c0, .func (.func 61) #[] #[]] rfl ar_ ?_; (with_reducible refine (slices_ContainsFunc_int_int_60_at_dom_Of_1.calls k _ _ l0 false _ ?_ ?_ A3.out).mono ?_); exact ca_ ((Kd.C_below HR0.out HB.out)); exact HC0.out; rintro e w' ⟨rfl, ⟨nd, rfl⟩⟩; refine ⟨_, rfl, ?_⟩; (try (rw [drewN_self w11]; generalize hq_ : World.drewN w11 _ = w11; replace BK348 : Aside0 (w11.heap[gb348]? = some (.cells #[.int .i64 0, .slice none 0 0, .int .i64 0, .int .i64 0, .int .i64 0] 58 (0, 0))) := ⟨by rw [← hq_]; exact (bk_ BK348.out)⟩; replace HB : Aside0 (Below w.heap.size w w11) := ⟨by rw [← hq_]; exact bel_⟩; clear hq_)); (try (obtain ⟨_, _, _, _, _, _, _, _, _, _⟩ := cel5_ BK348.out))) | ((with_reducible refine gate_callee (f := 62) rfl ?_); refine goesL_ (some 18) rfl rfl Tryz.func62 (by kernel_rfl) rfl #[.slice A0 l0.length c0] rfl ar_ ?_; (with_reducible refine (slices_Max_int.calls _ _ l0 t350 _ ?_ ?_ A5.out).mono ?_); exact ca_ ((Kd.C_below HR0.out HB.out)); exact HC0.out; rintro e w' ⟨rfl, ⟨nd, rfl⟩⟩; refine ⟨_, rfl, ?_⟩; (try (rw [drewN_self w11]; generalize hq_ : World.drewN w11 _ = w11; replace BK348 : Aside0 (w11.heap[gb348]? = some (.cells #[.int .i64 0, .slice none 0 0, .int .i64 0, .int .i64 0, .int .i64 0] 58 (0, 0))) := ⟨by rw [← hq_]; exact (bk_ BK348.out)⟩; replace HB : Aside0 (Below w.heap.size w w11) := ⟨by rw [← hq_]; exact bel_⟩; clear hq_)); (try (obtain ⟨_, _, _, _, _, _, _, _, _, _⟩ := cel5_ BK348.out))) | ((with_reducible refine gate_callee (f := 63) rfl ?_); refine goesL_ (some 20) rfl rfl Tryz.func63 (by kernel_rfl) rfl #[.slice A0 l0.length c0] rfl ar_ ?_; (with_reducible refine (slices_Min_int.calls _ _ l0 t351 _ ?_ ?_ A6.out).mono ?_); exact ca_ ((Kd.C_below HR0.out HB.out)); exact HC0.out; rintro e w' ⟨rfl, ⟨nd, rfl⟩⟩; refine ⟨_, rfl, ?_⟩; (try (rw [drewN_self w11]; generalize hq_ : World.drewN w11 _ = w11; replace BK348 : Aside0 (w11.heap[gb348]? = some (.cells #[.int .i64 0, .slice none 0 0, .int .i64 0, .int .i64 0, .int .i64 0] 58 (0, 0))) := ⟨by rw [← hq_]; exact (bk_ BK348.out)⟩; replace HB : Aside0 (Below w.heap.size w w11) := ⟨by rw [← hq_]; exact bel_⟩; clear hq_)); (try (obtain ⟨_, _, _, _, _, _, _, _, _, _⟩ := cel5_ BK348.out))) | ((with_reducible refine gate_callee (f := 63) rfl ?_); refine goesL_ (some 25) rfl rfl Tryz.func63 (by kernel_rfl) rfl #[.slice A0 l0.length c0] rfl ar_ ?_; (with_reducible refine (slices_Min_int.calls _ _ l0 t352 _ ?_ ?_ A8.out).mono ?_); exact ca_ ((Kd.C_below HR0.out HB.out)); exact HC0.out; rintro e w' ⟨rfl, ⟨nd, rfl⟩⟩; refine ⟨_, rfl, ?_⟩; (try (rw [drewN_self w11]; generalize hq_ : World.drewN w11 _ = w11; replace BK348 : Aside0 (w11.heap[gb348]? = some (.cells #[.int .i64 0, .slice none 0 0, .int .i64 0, .int .i64 0, .int .i64 0] 58 (0, 0))) := ⟨by rw [← hq_]; exact (bk_ BK348.out)⟩; replace HB : Aside0 (Below w.heap.size w w11) := ⟨by rw [← hq_]; exact bel_⟩; clear hq_)); (try (obtain ⟨_, _, _, _, _, _, _, _, _, _⟩ := cel5_ BK348.out))) | ((with_reducible refine gate_callee (f := 62) rfl ?_); refine goesL_ (some 27) rfl rfl Tryz.func62 (by kernel_rfl) rfl #[.slice A0 l0.length c0] rfl ar_ ?_; (with_reducible refine (slices_Max_int.calls _ _ l0 t353 _ ?_ ?_ A9.out).mono ?_); exact ca_ ((Kd.C_below HR0.out HB.out)); exact HC0.out; rintro e w' ⟨rfl, ⟨nd, rfl⟩⟩; refine ⟨_, rfl, ?_⟩; (try (rw [drewN_self w11]; generalize hq_ : World.drewN w11 _ = w11; replace BK348 : Aside0 (w11.heap[gb348]? = some (.cells #[.int .i64 0, .slice none 0 0, .int .i64 0, .int .i64 0, .int .i64 0] 58 (0, 0))) := ⟨by rw [← hq_]; exact (bk_ BK348.out)⟩; replace HB : Aside0 (Below w.heap.size w w11) := ⟨by rw [← hq_]; exact bel_⟩; clear hq_)); (try (obtain ⟨_, _, _, _, _, _, _, _, _, _⟩ := cel5_ BK348.out))) | ((with_reducible refine gate_callee (f := 64) rfl ?_); refine goesL_ (some 28) rfl rfl Tryz.func64 (by kernel_rfl) rfl #[.int .i64 t352, .int .i64 t353] rfl ar_ ?_; (with_reducible refine (dom_room.calls t352 t353 t354 t355 t358 t359 t360 _ A10.out).mono ?_); rintro e w17 ⟨v356, rfl, ho0, hb⟩; refine ⟨_, rfl, ?_⟩; have HO357 := Aside0.mk (Kd.R_lower (Kd.R_newM (M := fun k_ => (w.heap.size ≤ k_)) ho0 (below_size bel_) (fun k_ h_ => h_)) (below_size bel_)); replace BK348 := Aside0.mk (blk_below (bk_ BK348.out) hb); replace HB := Aside0.mk (below_step bel_ hb); clear hb ho0) | ((with_reducible refine gate_dst (N := 4) rfl ?_); refine bxe_ (N := 4) (cs := #[.int .i64 0, .slice none 0 0, .int .i64 0, .int .i64 0, .int .i64 0]) (t := 58) ?_; intro gb361 hg w18 hbox hb; replace HO357 := Aside0.mk (Kd.R_below (vR_ HO357.out) hb); have BK361 := Aside0.mk (hbox); have GW361 := Aside0.mk (by rw [hg]; exact (below_size bel_) : w.heap.size ≤ gb361); have GE361 := GW361; replace HB := Aside0.mk (below_step bel_ hb); have NB348_361 := Aside0.mk ((by rw [hg]; exact Nat.ne_of_lt (blk_lt (bk_ BK348.out)) : gb348 ≠ gb361)); have NB361_348 := Aside0.mk ((by rw [hg]; exact Nat.ne_of_gt (blk_lt (bk_ BK348.out)) : gb361 ≠ gb348)); replace BK348 := Aside0.mk (blk_below (bk_ BK348.out) hb); clear hb hbox hg; have hnb19 := NB361_348.out; have hnc19 := NB348_361.out; obtain ⟨hcz20_0, hcz20_1, hcz20_2, hcz20_3, hcz20_4, hfz20_0, hfz20_1, hfz20_2, hfz20_3, hfz20_4⟩ := cel5_ BK361.out; obtain ⟨Ao21, co21, eo21⟩ := Kd.R_slice HO357.out; subst eo21))
    go_loopg [31] k (fun kq v31 w' => ∃ (x31_1 : Int) (x362001_1 : List Int) (u362001 : Value), v31 = .int .i64 x31_1 ∧ Aside0 (dom_Of.l0 kq l0 (l0.length : Int) x31_1 t354 x362001_1 t358 t359 t360 = some (r1, r2, r3, r4, r5, r6)) ∧ Aside0 (kq ≤ k) ∧ Aside0 (Kd.R (Kd.int .u64) 80 w' w.heap.size (fun k_ => (w.heap.size ≤ k_)) u362001 x362001_1) ∧ Aside0 (w'.heap[gb348]? = some (.cells #[.int .i64 0, (.slice none 0 0), .int .i64 0, .int .i64 0, .int .i64 0] 58 (0, 0))) ∧ Aside0 (w'.heap[gb361]? = some (.cells #[.int .i64 t354, u362001, .int .i64 t358, .int .i64 t359, .int .i64 t360] 58 (0, 0))) ∧ Aside0 (Below w.heap.size w w'))
    case atStart => exact ⟨(0), (t355), (.slice Ao21 t355.length co21), eq_, H', ⟨Nat.le_refl _⟩, ⟨by refine vR_ ?_; exact Kd.R_mono (Kd.R_far (Kd.R_far (Kd.R_far (Kd.R_far (Kd.R_far (Kd.R_types HO357.out BK361.out (by decide)) (fun _ hk => hk.2) _) (fun _ hk => hk.2) _) (fun _ hk => hk.2) _) (fun _ hk => hk.2) _) (fun _ hk => hk.2) _) (fun _ hk => hk.1.1)⟩, ⟨by refine bk_ ?_; refine blk_far ?_ NB348_361.out _; refine bk_ ?_; refine blk_far ?_ NB348_361.out _; refine bk_ ?_; refine blk_far ?_ NB348_361.out _; refine bk_ ?_; refine blk_far ?_ NB348_361.out _; refine bk_ ?_; refine blk_far ?_ NB348_361.out _; refine bk_ ?_; exact BK348.out⟩, ⟨by refine bk_ ?_; refine blk_put (cs := #[.int .i64 t354, .slice Ao21 t355.length co21, .int .i64 t358, .int .i64 t359, .int .i64 0]) ?_ 4 _ rfl; refine bk_ ?_; refine blk_put (cs := #[.int .i64 t354, .slice Ao21 t355.length co21, .int .i64 t358, .int .i64 0, .int .i64 0]) ?_ 3 _ rfl; refine bk_ ?_; refine blk_put (cs := #[.int .i64 t354, .slice Ao21 t355.length co21, .int .i64 0, .int .i64 0, .int .i64 0]) ?_ 2 _ rfl; refine bk_ ?_; refine blk_put (cs := #[.int .i64 t354, .slice none 0 0, .int .i64 0, .int .i64 0, .int .i64 0]) ?_ 1 _ rfl; refine bk_ ?_; refine blk_put (cs := #[.int .i64 0, .slice none 0 0, .int .i64 0, .int .i64 0, .int .i64 0]) ?_ 0 _ rfl; refine bk_ ?_; exact BK361.out⟩, ⟨bel_⟩⟩
    case round =>
     clear H'
     try clear c1
     try clear c2
     try clear c2b0
     try clear c2b1
     try clear c2b2
     try clear p2
     try clear c3
     try clear c4
     try clear c6
     try clear p6
     try clear c7
     try clear c7b0
     try clear c19
     try clear hcz20_0
     try clear hcz20_1
     try clear hcz20_2
     try clear hcz20_3
     try clear hcz20_4
     try clear hfz20_0
     try clear hfz20_1
     try clear hfz20_2
     try clear hfz20_3
     try clear hfz20_4
     obtain ⟨x31_1, x362001_1, u362001, rfl, HA, HK1, HO_362001, BK348, BK361, HB⟩ := hrel
     cases gk with
     | zero => exact absurd HA.out (by simp [dom_Of.l0])
     | succ k1 =>
      have H := HA.out
      clear HA
      simp only [dom_Of.l0] at H
      by_cases c22 : x31_1 < (l0.length : Int)
      ·
       rw [if_pos c22] at H
       have c22b0 : decide (x31_1 < (l0.length : Int)) = true := decide_eq_true c22
       clear c22
       by_cases c23 : 0 ≤ x31_1
       ·
        rw [if_pos c23] at H
        have c23b0 : decide (0 ≤ x31_1) = true := decide_eq_true c23
        clear c23
        by_cases c24 : x31_1 < (l0.length : Int)
        ·
         rw [if_pos c24] at H
         have c24b0 : decide (x31_1 < (l0.length : Int)) = true := decide_eq_true c24
         clear c24
         obtain ⟨ji25, hji25⟩ : ∃ j_ : Int, (wrap64 (Int.tdiv (wrap64 ((rd l0 x31_1) - t354)) 64)) = j_ := ⟨_, rfl⟩
         replace H : (if 0 ≤ (ji25) then (if (ji25) < (x362001_1.length : Int) then (if 0 ≤ (Int.tmod (wrap64 ((rd l0 x31_1) - t354)) 64) then (dom_Of.l0 k1 l0 (l0.length : Int) (wrap64 (x31_1 + 1)) t354 (x362001_1.set ((ji25) : Int).toNat (Go.bits .or .u64 (rd x362001_1 (ji25)) (shl .u64 1 (Int.tmod (wrap64 ((rd l0 x31_1) - t354)) 64)))) t358 t359 t360) else (none)) else (none)) else (none)) = some (r1, r2, r3, r4, r5, r6) := by first | (rw [hji25] at H; exact H) | (simp only [hji25] at H ⊢; exact H)
         have hji25w : (IntKind.i64.wrap (Int.tdiv (wrap64 ((rd l0 x31_1) - t354)) 64)) = ji25 := (i64_w _).trans hji25
         by_cases c26 : 0 ≤ (ji25)
         ·
          rw [if_pos c26] at H
          have c26b0 : decide (0 ≤ (ji25)) = true := decide_eq_true c26
          clear c26
          by_cases c27 : (ji25) < (x362001_1.length : Int)
          ·
           rw [if_pos c27] at H
           have c27b0 : decide ((ji25) < (x362001_1.length : Int)) = true := decide_eq_true c27
           clear c27
           obtain ⟨ji28, hji28⟩ : ∃ j_ : Int, (Int.tmod (wrap64 ((rd l0 x31_1) - t354)) 64) = j_ := ⟨_, rfl⟩
           replace H : (if 0 ≤ (ji28) then (dom_Of.l0 k1 l0 (l0.length : Int) (wrap64 (x31_1 + 1)) t354 (x362001_1.set ((ji25) : Int).toNat (Go.bits .or .u64 (rd x362001_1 (ji25)) (shl .u64 1 (ji28)))) t358 t359 t360) else (none)) = some (r1, r2, r3, r4, r5, r6) := by first | (rw [hji28] at H; exact H) | (simp only [hji28] at H ⊢; exact H)
           by_cases c29 : 0 ≤ (ji28)
           ·
            rw [if_pos c29] at H
            have c29b0 := eq_true c29
            have c29b1 : decide (0 ≤ (ji28)) = true := decide_eq_true c29
            clear c29
            obtain ⟨ji30, hji30⟩ : ∃ j_ : Int, (shl .u64 1 (ji28)) = j_ := ⟨_, rfl⟩
            replace H : (dom_Of.l0 k1 l0 (l0.length : Int) (wrap64 (x31_1 + 1)) t354 (x362001_1.set ((ji25) : Int).toNat (Go.bits .or .u64 (rd x362001_1 (ji25)) (ji30))) t358 t359 t360) = some (r1, r2, r3, r4, r5, r6) := by first | (rw [hji30] at H; exact H) | (simp only [hji30] at H ⊢; exact H)
            have hji30_ : (IntKind.u64.wrap (1 * 2 ^ min (ji28).toNat 64)) = ji30 := hji30
            have hji30z : (ji28) ≤ 64 → (IntKind.u64.wrap (1 * 2 ^ (ji28).toNat)) = ji30 := shl_small hji30
            have hji30u : (IntKind.u64.wrap (2 ^ min (ji28).toNat 64)) = ji30 := by have h_ := hji30_; rw [Int.one_mul] at h_; exact h_
            have hji30v : (ji28) ≤ 64 → (IntKind.u64.wrap (2 ^ (ji28).toNat)) = ji30 := fun hle_ => by have h_ := hji30z hle_; rw [Int.one_mul] at h_; exact h_
            obtain ⟨y364, hy364⟩ : ∃ y_ : List Int, y_ = (x362001_1.set ((ji25) : Int).toNat (Go.bits .or .u64 (rd x362001_1 (ji25)) (ji30))) := ⟨_, rfl⟩
            replace H : (dom_Of.l0 k1 l0 (l0.length : Int) (wrap64 (x31_1 + 1)) t354 y364 t358 t359 t360) = some (r1, r2, r3, r4, r5, r6) := by first | (rw [hy364]; with_reducible exact H) | (have H2_ := (Option.bind_some _ _).symm.trans H; rw [hy364]; with_reducible exact H2_) | (have H2_ := (Option.bind_some _ _).symm.trans H; with_reducible exact H2_) | with_reducible exact H | (rw [hy364]; exact H) | exact H
            have Ny364 := Aside0.mk hy364
            clear hy364
            have H' := Aside0.mk H
            clear H
            have p362 : 0 ≤ (x31_1 : Int) := dq_
            have q362 : x31_1 < (l0.length : Int) := dq_
            obtain ⟨ad362, e362, hx362_0⟩ := Kd.at_int HR0.out x31_1 p362 q362
            cases e362
            replace hx362_0 := (HB.out.cell (World.block_lt_of_cell? w _ hx362_0)).trans hx362_0
            replace p362 := eq_true p362
            replace q362 := eq_true q362
            try go_wp2
            replace HO_362001 := Aside0.mk (Kd.R_drew HO_362001.out)
            replace BK348 := Aside0.mk (blk_drew BK348.out)
            replace BK361 := Aside0.mk (blk_drew BK361.out)
            replace HB := Aside0.mk (below_drew1 HB.out)
            obtain ⟨Ao33, co33, eo33⟩ := Kd.R_slice HO_362001.out
            (first | subst eo33 | (injection eo33 with f1_ f2_ f3_; have f4_ := f1_.symm; have f5_ := f3_.symm; clear f1_ f2_ f3_; subst f4_; subst f5_))
            have p363 : 0 ≤ ((ji25) : Int) := dq_
            have q363 : (ji25) < (x362001_1.length : Int) := dq_
            obtain ⟨ad363, e363, hx363_0⟩ := Kd.at_int (Kd.R_reads' HO_362001.out).2.2 (ji25) p363 q363
            cases e363
            replace p363 := eq_true p363
            replace q363 := eq_true q363
            have p31 : 0 ≤ ((ji25) : Int) := dq_
            have q31 : ((ji25) : Int) < ((x362001_1.length : Int) : Int) := dq_
            obtain ⟨go31, co31, eo31, gb31, gl31, cl31, HG31⟩ := Kd.R_form HO_362001.out (by omega)
            (first | cases eo31 | (injection eo31 with ea_ en_ ec_; (first | subst ea_ | (injection ea_ with ea_; subst ea_)); subst ec_; clear en_))
            have GB31 := Aside0.mk gb31
            have GG31 := Aside0.mk HG31
            clear gb31 gl31 HG31
            (first | simp only [add_plain] at hx363_0 | skip)
            obtain ⟨hx31_0, hf31_0⟩ := Kd.R_celln 0 HO_362001.out ((ji25) : Int) p31 q31
            replace p31 := eq_true p31
            replace q31 := eq_true q31
            have HP34 := Kd.R_putn HO_362001.out ((ji25) : Int) (Go.bits .or .u64 (rd x362001_1 (ji25)) (ji30))
            rw [← Ny364.out] at HP34
            have HQ34 := Aside0.mk HP34
            clear HP34
            refine start_ (n := 18) (S := fun w' => w'.cell? ⟨gb361, 0, none⟩ = some (.int .i64 t354) ∧ w'.cell? ⟨gb361, 1, none⟩ = some (.slice (some ⟨go31, 0, none⟩) x362001_1.length co33) ∧ w'.cell? ⟨gb361, 2, none⟩ = some (.int .i64 t358) ∧ w'.cell? ⟨gb361, 3, none⟩ = some (.int .i64 t359) ∧ w'.cell? ⟨gb361, 4, none⟩ = some (.int .i64 t360) ∧ w'.cell? ⟨go31, ((ji25)).toNat, none⟩ = some (.int .u64 (rd x362001_1 (ji25)))) (ds := [17]) #[false, false, false, false, false, false, false, false, false, false, false, false, false, false, false, false, false, false] (by kernel_rfl) rfl rfl ⟨(blk_cell BK361.out 0).trans rfl, (blk_cell BK361.out 1).trans rfl, (blk_cell BK361.out 2).trans rfl, (blk_cell BK361.out 3).trans rfl, (blk_cell BK361.out 4).trans rfl, hx363_0⟩ (fun hHeld => ?_); refine with_tabW dom_Of.tab11 dom_Of.bits11 (fun HT_ HW_ => ?_)
            generalize wr.drew = w32 at HO_362001 BK348 BK361 HB GG31 HQ34 hf31_0 hx31_0 hx363_0 hHeld ⊢
            refine pur_ (i := 0) (N := some 35) #[true, false, false, false, false, false, false, false, false, false, false, false, false, false, false, false, false, false] (any_of HT_.out (by kernel_rfl)) ?_
            refine pur_ (i := 2) (N := some 37) #[true, false, true, false, false, false, false, false, false, false, false, false, false, false, false, false, false, false] (any_of HT_.out (by kernel_rfl)) ?_
            refine pur_ (i := 3) (N := some 38) #[true, false, true, true, false, false, false, false, false, false, false, false, false, false, false, false, false, false] (any_of HT_.out (by kernel_rfl)) ?_
            refine pur_ (i := 9) (N := some 44) #[true, false, true, true, false, false, false, false, false, true, false, false, false, false, false, false, false, false] (any_of HT_.out (by kernel_rfl)) ?_
            refine pur_ (i := 10) (N := some 45) #[true, false, true, true, false, false, false, false, false, true, true, false, false, false, false, false, false, false] (any_of HT_.out (by kernel_rfl)) ?_
            refine take_ (i := 1) (N := some 36) (v := ?_) (a' := ?_) #[true, true, true, true, false, false, false, false, false, true, true, false, false, false, false, false, false, false] rfl rfl (take_ofW HT_.out HW_.out (by kernel_rfl)) (fun _ _ _ h => h) (Or.inl ⟨by rfl, ?_⟩) hHeld ?_ ?_
            rotate_left
            ·
             rintro w' ⟨s0, s1, s2, s3, s4, s5⟩
             go_simp
             with_reducible rfl
            rotate_left
            ·
             simp only [Act.put, List.setIfInBounds_toArray, List.set_cons_zero, List.set_cons_succ, i64_w, i32_w]
             rfl
            refine take_ (i := 4) (N := some 39) (v := ?_) (a' := ?_) #[true, true, true, true, true, false, false, false, false, true, true, false, false, false, false, false, false, false] rfl rfl (take_ofW HT_.out HW_.out (by kernel_rfl)) (fun _ _ _ h => h) (Or.inl ⟨by rfl, ?_⟩) hHeld ?_ ?_
            rotate_left
            ·
             rintro w' ⟨s0, s1, s2, s3, s4, s5⟩
             go_simp
             with_reducible rfl
            rotate_left
            ·
             simp only [Act.put, List.setIfInBounds_toArray, List.set_cons_zero, List.set_cons_succ, i64_w, i32_w]
             rfl
            refine pur_ (i := 5) (N := some 40) #[true, true, true, true, true, true, false, false, false, true, true, false, false, false, false, false, false, false] (any_of HT_.out (by kernel_rfl)) ?_
            refine pur_ (i := 6) (N := some 41) #[true, true, true, true, true, true, true, false, false, true, true, false, false, false, false, false, false, false] (any_of HT_.out (by kernel_rfl)) ?_
            refine pur_ (i := 7) (N := some 42) #[true, true, true, true, true, true, true, true, false, true, true, false, false, false, false, false, false, false] (any_of HT_.out (by kernel_rfl)) ?_
            refine take_ (i := 8) (N := some 43) (v := ?_) (a' := ?_) #[true, true, true, true, true, true, true, true, true, true, true, false, false, false, false, false, false, false] rfl rfl (take_ofW HT_.out HW_.out (by kernel_rfl)) (fun _ _ _ h => h) (Or.inl ⟨by rfl, ?_⟩) hHeld ?_ ?_
            rotate_left
            ·
             rintro w' ⟨s0, s1, s2, s3, s4, s5⟩
             go_simp
             with_reducible rfl
            rotate_left
            ·
             simp only [Act.put, List.setIfInBounds_toArray, List.set_cons_zero, List.set_cons_succ, i64_w, i32_w]
             rfl
            refine take_ (i := 11) (N := some 46) (v := ?_) (a' := ?_) #[true, true, true, true, true, true, true, true, true, true, true, true, false, false, false, false, false, false] rfl rfl (take_ofW HT_.out HW_.out (by kernel_rfl)) (fun _ _ _ h => h) (Or.inl ⟨by rfl, ?_⟩) hHeld ?_ ?_
            rotate_left
            ·
             rintro w' ⟨s0, s1, s2, s3, s4, s5⟩
             go_simp
             with_reducible rfl
            rotate_left
            ·
             simp only [Act.put, List.setIfInBounds_toArray, List.set_cons_zero, List.set_cons_succ, i64_w, i32_w]
             rfl
            refine pur_ (i := 12) (N := some 47) #[true, true, true, true, true, true, true, true, true, true, true, true, true, false, false, false, false, false] (any_of HT_.out (by kernel_rfl)) ?_
            refine pur_ (i := 13) (N := some 48) #[true, true, true, true, true, true, true, true, true, true, true, true, true, true, false, false, false, false] (any_of HT_.out (by kernel_rfl)) ?_
            refine pur_ (i := 14) (N := some 49) #[true, true, true, true, true, true, true, true, true, true, true, true, true, true, true, false, false, false] (any_of HT_.out (by kernel_rfl)) ?_
            refine pur_ (i := 15) (N := some 50) #[true, true, true, true, true, true, true, true, true, true, true, true, true, true, true, true, false, false] (any_of HT_.out (by kernel_rfl)) ?_
            refine pur_ (i := 16) (N := some 51) #[true, true, true, true, true, true, true, true, true, true, true, true, true, true, true, true, true, false] (any_of HT_.out (by kernel_rfl)) ?_
            refine last_ (i := 17) (N := none) #[true, true, true, true, true, true, true, true, true, true, true, true, true, true, true, true, true, true] rfl rfl (one_of HT_.out (by kernel_rfl)) (by decide) (fun K hK => ?_)
            refine skip_ (w1 := ?_) (by rfl) rfl ?_ ?_
            rotate_left
            ·
             go_simp
             rfl
            refine hK.out _ _ ?_
            clear hK K
            refine done_ (done_of HT_.out (by kernel_rfl)) ?_
            try go_wp2
            go_roundg k1
            case measure => have := HK1.out; omega
            case rel => exact ⟨(wrap64 (x31_1 + 1)), (y364), (.slice (some ⟨go31, 0, none⟩) x362001_1.length co33), eq_, H', ⟨by have := HK1.out; omega⟩, ⟨by refine vR_ ?_; exact HQ34.out⟩, ⟨by refine bk_ ?_; refine blk_far ?_ (by have h_ := Kd.R_ne HO_362001.out BK348.out (by decide); intro e_; exact h_ (by rw [e_]; rfl)) _; refine bk_ ?_; exact BK348.out⟩, ⟨by refine bk_ ?_; refine blk_far ?_ (by have h_ := Kd.R_ne HO_362001.out BK361.out (by decide); intro e_; exact h_ (by rw [e_]; rfl)) _; refine bk_ ?_; exact BK361.out⟩, ⟨by repeat (first | (with_reducible first | exact HB.out | apply below_alloc | apply pw_below_drewN | apply below_drew1 | refine below_set ?_ GB31.out | refine below_set ?_ GE348.out | refine below_set ?_ GE361.out) | exact HB.out)⟩⟩
           ·
            rw [if_neg c29] at H
            exact absurd H (by simp)
          ·
           rw [if_neg c27] at H
           exact absurd H (by simp)
         ·
          rw [if_neg c26] at H
          exact absurd H (by simp)
        ·
         rw [if_neg c24] at H
         exact absurd H (by simp)
       ·
        rw [if_neg c23] at H
        exact absurd H (by simp)
      ·
       rw [if_neg c22] at H
       have c22b0 : decide (x31_1 < (l0.length : Int)) = false := decide_eq_false c22
       clear c22
       replace H := Option.bind_eq_some_iff.mp H
       obtain ⟨⟨t365, t366, t369, t370, t371⟩, A350, H⟩ := H
       replace H : (some (t365, t366, t369, t370, t371, 0)) = some (r1, r2, r3, r4, r5, r6) := H
       have A35 := Aside0.mk A350
       clear A350
       simp only [Option.some.injEq, Prod.mk.injEq] at H
       obtain ⟨rfl, rfl, rfl, rfl, rfl, rfl⟩ := H
       have hnb36 := NB361_348.out
       have hnc36 := NB348_361.out
       obtain ⟨_, _, _, _, _, _, _, _, _, _⟩ := cel5_ BK361.out
       obtain ⟨Ao38, co38, eo38⟩ := Kd.R_slice HO_362001.out
       subst eo38
       go_wp2_with (first | ((with_reducible refine gate_callee (f := 65) rfl ?_); refine goesL_ (some 57) rfl rfl Tryz.func65 (by kernel_rfl) rfl #[.int .i64 t354, .slice Ao38 x362001_1.length co38] rfl ar_ ?_; (with_reducible refine (dom_made.calls k1 t354 (fun k_ => some k_ = (.slice Ao38 x362001_1.length co38 : Value).ownBlock) _ _ x362001_1 t365 t366 t369 t370 t371 _ ?_ ?_ A35.out).mono ?_); exact Kd.R_V (Kd.R_tight rfl (Kd.R_types (Kd.R_types (HO_362001.out) BK348.out (by decide)) BK361.out (by decide))); exact ca_ ((Kd.C_below HRtab.out HB.out)); rintro e w39 ⟨v367, rfl, ho0, hb⟩; refine ⟨_, rfl, ?_⟩; have HO368 := Aside0.mk (Kd.V_lower (Kd.V_mono (ok' := fun k_ => (w.heap.size ≤ k_) ∧ k_ ≠ gb348 ∧ k_ ≠ gb361) ho0 (fun k_ hk_ => ⟨Or.elim hk_ (fun hs_ => ((Kd.R_types (Kd.R_types (HO_362001.out) BK348.out (by decide)) BK361.out (by decide)).1 k_ hs_.symm).1.1) (fun hn_ => (Nat.le_trans (below_size bel_) hn_)), Or.elim hk_ (fun hs_ => ((Kd.R_types (Kd.R_types (HO_362001.out) BK348.out (by decide)) BK361.out (by decide)).1 k_ hs_.symm).1.2) (fun hn_ => (Kd.freshB (bk_ BK348.out) k_ hn_)), Or.elim hk_ (fun hs_ => ((Kd.R_types (Kd.R_types (HO_362001.out) BK348.out (by decide)) BK361.out (by decide)).1 k_ hs_.symm).2) (fun hn_ => (Kd.freshB (bk_ BK361.out) k_ hn_))⟩)) (below_size bel_)); replace BK348 := Aside0.mk (blk_below (bk_ BK348.out) hb); replace HB := Aside0.mk (below_step bel_ hb); clear hb ho0; obtain ⟨_, _, _, _, _, _, _, _, _, _⟩ := cel5_ BK348.out; obtain ⟨Ao41, co41, eo41⟩ := Kd.V_slice HO368.out; subst eo41))
       refine bodyPost_ret (results_ct rfl _ _ gb348 58 #[.int .i64 t365, .slice Ao41 t366.length co41, .int .i64 t369, .int .i64 t370, .int .i64 t371] (0, 0) _ rfl (by refine bk_ ?_; refine blk_put (cs := #[.int .i64 t365, .slice Ao41 t366.length co41, .int .i64 t369, .int .i64 t370, .int .i64 0]) ?_ 4 _ rfl; refine bk_ ?_; refine blk_put (cs := #[.int .i64 t365, .slice Ao41 t366.length co41, .int .i64 t369, .int .i64 0, .int .i64 0]) ?_ 3 _ rfl; refine bk_ ?_; refine blk_put (cs := #[.int .i64 t365, .slice Ao41 t366.length co41, .int .i64 0, .int .i64 0, .int .i64 0]) ?_ 2 _ rfl; refine bk_ ?_; refine blk_put (cs := #[.int .i64 t365, .slice none 0 0, .int .i64 0, .int .i64 0, .int .i64 0]) ?_ 1 _ rfl; refine bk_ ?_; refine blk_put (cs := #[.int .i64 0, .slice none 0 0, .int .i64 0, .int .i64 0, .int .i64 0]) ?_ 0 _ rfl; refine bk_ ?_; exact BK348.out) Tryz.underlying58 rfl (by kernel_rfl)) rfl ?_
       exact ⟨_, by first | rfl | (simp [errW_none, errW_some] <;> rfl) | (simp [*, errW_none, errW_some] <;> rfl), by refine vV_ ?_; exact Kd.V_mono (Kd.V_far (Kd.V_far (Kd.V_far (Kd.V_far (Kd.V_far (Kd.V_mono HO368.out (fun k_ hk => (⟨hk, hk.2.1⟩ : _ ∧ k_ ≠ gb348))) (fun _ hk => hk.2) _) (fun _ hk => hk.2) _) (fun _ hk => hk.2) _) (fun _ hk => hk.2) _) (fun _ hk => hk.2) _) (fun _ hk => hk.1.1), bel_⟩

end Go.Proofs.YtmhchlbbfpmdgaaGreatDoor.XClauseKeeps
