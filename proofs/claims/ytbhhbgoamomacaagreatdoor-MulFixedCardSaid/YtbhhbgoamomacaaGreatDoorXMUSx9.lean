-- by xprint.py, a program of this session, over the kit's print
import Derived.Test.YtbhhbgoamomacaaGreatDoorXMUSx0
import Derived.Test.YtbhhbgoamomacaaGreatDoorXMUSx5
import Derived.Test.YtbhhbgoamomacaaGreatDoorXMUSx6
import Derived.Test.YtbhhbgoamomacaaGreatDoorXMUSx8
import Derived.Test.YtbhhbgoamomacaaGreatDoorSq
namespace Go.Proofs.YtbhhbgoamomacaaGreatDoor.XMulFixed
open Go.RowKit Go.Proofs.YtbhhbgoamomacaaGreatDoor.Sq Go.Proofs.YtbhhbgoamomacaaGreatDoorW.PrintWords Go.Proofs.YtbhhbgoamomacaaGreatDoorW.PrintLast Go.Proofs.YtbhhbgoamomacaaGreatDoorW.PrintMore
attribute [local go_sem] max2_int min2_int max_two min_two max_three min_three max_four min_four   -- for this text's walks alone
set_option linter.unusedVariables false
set_option linter.unusedSimpArgs false

/-! ### dom_Of: function 34 -/
def dom_Of.l0 : Nat → List Int → Int → Int → Int → List Int → Int → Int → Int → Option (Int × List Int × Int × Int × Int × Int)
 | 0, _, _, _, _, _, _, _, _ => none
 | k + 1, x29, x30, x31, x225000, x225001, x225002, x225003, x225004 => if x31 < x30 then (if 0 ≤ x31 then (if x31 < (x29.length : Int) then (if 0 ≤ (wrap64 (Int.tdiv (wrap64 ((rd x29 x31) - x225000)) 64)) then (if (wrap64 (Int.tdiv (wrap64 ((rd x29 x31) - x225000)) 64)) < (x225001.length : Int) then (if 0 ≤ (Int.tmod (wrap64 ((rd x29 x31) - x225000)) 64) then (dom_Of.l0 k x29 x30 (wrap64 (x31 + 1)) x225000 (x225001.set ((wrap64 (Int.tdiv (wrap64 ((rd x29 x31) - x225000)) 64)) : Int).toNat (Go.bits .or .u64 (rd x225001 (wrap64 (Int.tdiv (wrap64 ((rd x29 x31) - x225000)) 64))) (shl .u64 1 (Int.tmod (wrap64 ((rd x29 x31) - x225000)) 64)))) x225002 x225003 x225004) else (none)) else (none)) else (none)) else (none)) else (none)) else ((dom_made.f k x225000 x225001).bind fun bt228 => (some (bt228.1, bt228.2.1, bt228.2.2.1, bt228.2.2.2.1, bt228.2.2.2.2, 0)))
def dom_Of.f (k : Nat) (l0 : List Int) : Option (Int × List Int × Int × Int × Int × Int) := if (l0.length : Int) = 0 then (some (0, ([] : List Int), 0, 0, 0, 4)) else ((slices_ContainsFunc_int_int_70_at_dom_Of_1.f k l0).bind fun t212 => (if t212 = true then (none) else ((slices_Max_int.f l0).bind fun t213 => ((slices_Min_int.f l0).bind fun t214 => (if (wrap64 (t213 - t214)) ≥ 65536 then (none) else ((slices_Min_int.f l0).bind fun t215 => ((slices_Max_int.f l0).bind fun t216 => ((dom_room.f t215 t216).bind fun bt217 => (dom_Of.l0 k l0 (l0.length : Int) 0 bt217.1 bt217.2.1 bt217.2.2.1 bt217.2.2.2.1 bt217.2.2.2.2)))))))))
theorem dom_Of.mono_l : ∀ k, (∀ y0 y1 y2 y3 y4 y5 y6 y7, LeO (dom_Of.l0 k y0 y1 y2 y3 y4 y5 y6 y7) (dom_Of.l0 (k + 1) y0 y1 y2 y3 y4 y5 y6 y7))
 | 0 => fun _ _ _ _ _ _ _ _ r h => by simp [dom_Of.l0] at h
 | k + 1 => by
  have ih0 := dom_Of.mono_l k
  ·
   intro y0 y1 y2 y3 y4 y5 y6 y7
   unfold dom_Of.l0
   have m0 := @dom_made.mono
   have m1 := @slices_ContainsFunc_int_int_70_at_dom_Of_1.mono
   exact leo_
theorem dom_Of.mono : ∀ a0 k, LeO (dom_Of.f k a0) (dom_Of.f (k + 1) a0) := by
 intro a0 k
 have ih0 := dom_Of.mono_l k
 unfold dom_Of.f
 have m0 := @dom_made.mono
 have m1 := @slices_ContainsFunc_int_int_70_at_dom_Of_1.mono
 exact leo_
def dom_Of.T11 : Bool × List (List Nat × List Nat) := (true, [([], []), ([0], [0]), ([], []), ([], []), ([3], [3]), ([2, 4], [2, 4]), ([5], [5]), ([1, 6], [1, 6]), ([7], [7]), ([], []), ([], []), ([10], [10]), ([9, 11], [9, 11]), ([12], [12]), ([13], [13]), ([8, 14], [8, 14]), ([1, 6, 0, 1, 2, 3, 4, 5, 6, 7, 8, 9, 10, 11, 12, 13, 14, 15], [1, 6]), ([16, 15, 0, 1, 2, 3, 4, 5, 6, 7, 8, 9, 10, 11, 12, 13, 14, 15], [15, 16])])
def dom_Of.B11 : List Nat := [0, 1, 0, 0, 8, 28, 60, 127, 255, 0, 0, 1024, 3584, 7680, 15872, 32767, 65535, 131071]
theorem dom_Of.tab11 : rtab .any (opsOf Tryz.f34 11) = dom_Of.T11 := by kernel_rfl
theorem dom_Of.bits11 : waitsOk dom_Of.T11.2 dom_Of.B11 = true := by kernel_rfl
set_option maxHeartbeats 8000000 in
set_option maxRecDepth 100000 in
theorem dom_Of.calls (k : Nat) (A0 : Option Addr) (c0 : Nat) (l0 : List Int) (r1 : Int) (r2 : List Int) (r3 : Int) (r4 : Int) (r5 : Int) (r6 : Int) (w : World) (hr0 : Kd.C (Kd.int .i64) w A0 l0.length l0) (hc0 : l0.length ≤ c0) (hrtab : Kd.C (Kd.int .u8) w (some ⟨0, 0, none⟩) tabL.length tabL) (h : dom_Of.f k l0 = some (r1, r2, r3, r4, r5, r6)) :
  Calls Tryz.prog 34 #[.slice A0 l0.length c0] w fun e w' => ∃ v1_ : Value, e = .returned (.tuple #[.agg #[.int .i64 r1, v1_, .int .i64 r3, .int .i64 r4, .int .i64 r5], .int .i64 r6]) ∧ Kd.V (Kd.int .u64) 87 w' w.heap.size (fun k_ => (w.heap.size ≤ k_)) v1_ r2 ∧ Below w.heap.size w w' := by
 have hu61 := Tryz.underlying61
 have HR0 := Aside0.mk hr0
 have HC0 := Aside0.mk hc0
 clear hr0 hc0
 have HRtab := Aside0.mk hrtab
 clear hrtab
 have HB := Aside0.mk (Below.refl w.heap.size w)
 have H : (if (l0.length : Int) = 0 then (some (0, ([] : List Int), 0, 0, 0, 4)) else ((slices_ContainsFunc_int_int_70_at_dom_Of_1.f k l0).bind fun t212 => (if t212 = true then (none) else ((slices_Max_int.f l0).bind fun t213 => ((slices_Min_int.f l0).bind fun t214 => (if (wrap64 (t213 - t214)) ≥ 65536 then (none) else ((slices_Min_int.f l0).bind fun t215 => ((slices_Max_int.f l0).bind fun t216 => ((dom_room.f t215 t216).bind fun bt217 => (dom_Of.l0 k l0 (l0.length : Int) 0 bt217.1 bt217.2.1 bt217.2.2.1 bt217.2.2.2.1 bt217.2.2.2.2)))))))))) = some (r1, r2, r3, r4, r5, r6) := h
 clear h
 by_cases c2 : (l0.length : Int) = 0
 ·
  rw [if_pos c2] at H
  have c2b0 : ((l0.length : Int) == 0) = true := beq_iff_eq.mpr c2
  have c2b1 : ((l0.length : Int) != 0) = false := bne_eq_false_iff_eq.mpr c2
  clear c2
  simp only [Option.some.injEq, Prod.mk.injEq] at H
  obtain ⟨rfl, rfl, rfl, rfl, rfl, rfl⟩ := H
  go_enter Tryz.func34, Tryz.ntmps34
  go_wp2_with (first | ((with_reducible refine gate_dst (N := 2) rfl ?_); refine bxe_ (N := 2) (cs := #[.int .i64 0, .slice none 0 0, .int .i64 0, .int .i64 0, .int .i64 0]) (t := 61) ?_; intro gb211 hg w3 hbox hb; have BK211 := Aside0.mk (hbox); have GW211 := Aside0.mk (by rw [hg]; exact (below_size bel_) : w.heap.size ≤ gb211); have GE211 := GW211; replace HB := Aside0.mk (below_step bel_ hb); clear hb hbox hg; obtain ⟨hcz4_0, hcz4_1, hcz4_2, hcz4_3, hcz4_4, hfz4_0, hfz4_1, hfz4_2, hfz4_3, hfz4_4⟩ := cel5_ BK211.out))
  refine bodyPost_ret (results_ct rfl _ _ gb211 61 #[.int .i64 0, .slice none 0 0, .int .i64 0, .int .i64 0, .int .i64 0] (0, 0) _ rfl (by refine bk_ ?_; refine blk_put (cs := #[.int .i64 0, .slice none 0 0, .int .i64 0, .int .i64 0, .int .i64 0]) ?_ 4 _ rfl; refine bk_ ?_; refine blk_put (cs := #[.int .i64 0, .slice none 0 0, .int .i64 0, .int .i64 0, .int .i64 0]) ?_ 3 _ rfl; refine bk_ ?_; refine blk_put (cs := #[.int .i64 0, .slice none 0 0, .int .i64 0, .int .i64 0, .int .i64 0]) ?_ 2 _ rfl; refine bk_ ?_; refine blk_put (cs := #[.int .i64 0, .slice none 0 0, .int .i64 0, .int .i64 0, .int .i64 0]) ?_ 1 _ rfl; refine bk_ ?_; refine blk_put (cs := #[.int .i64 0, .slice none 0 0, .int .i64 0, .int .i64 0, .int .i64 0]) ?_ 0 _ rfl; refine bk_ ?_; exact BK211.out) Tryz.underlying61 rfl (by kernel_rfl)) rfl ?_
  exact ⟨_, by first | rfl | (simp [errW_none, errW_some] <;> rfl) | (simp [*, errW_none, errW_some] <;> rfl), Kd.V_nil _ _ _ _ _, bel_⟩
 ·
  rw [if_neg c2] at H
  have c2b0 : ((l0.length : Int) == 0) = false := beq_eq_false_iff_ne.mpr c2
  have c2b1 : ((l0.length : Int) != 0) = true := bne_iff_ne.mpr c2
  have c2b2 : ¬ (l0 = []) := fun h_ => c2 (by rw [h_]; rfl)
  replace H := Option.bind_eq_some_iff.mp H
  obtain ⟨t212, A50, H⟩ := H
  replace H : (if t212 = true then (none) else ((slices_Max_int.f l0).bind fun t213 => ((slices_Min_int.f l0).bind fun t214 => (if (wrap64 (t213 - t214)) ≥ 65536 then (none) else ((slices_Min_int.f l0).bind fun t215 => ((slices_Max_int.f l0).bind fun t216 => ((dom_room.f t215 t216).bind fun bt217 => (dom_Of.l0 k l0 (l0.length : Int) 0 bt217.1 bt217.2.1 bt217.2.2.1 bt217.2.2.2.1 bt217.2.2.2.2)))))))) = some (r1, r2, r3, r4, r5, r6) := H
  have A5 := Aside0.mk A50
  clear A50
  by_cases c6 : t212 = true
  ·
   subst c6
   have H1 : (none) = some (r1, r2, r3, r4, r5, r6) := by rw [if_pos rfl] at H; exact H
   clear H
   have H := H1
   clear H1
   exact absurd H (by simp)
  ·
   replace c6 := Bool.eq_false_iff.mpr c6
   subst c6
   have H1 : ((slices_Max_int.f l0).bind fun t213 => ((slices_Min_int.f l0).bind fun t214 => (if (wrap64 (t213 - t214)) ≥ 65536 then (none) else ((slices_Min_int.f l0).bind fun t215 => ((slices_Max_int.f l0).bind fun t216 => ((dom_room.f t215 t216).bind fun bt217 => (dom_Of.l0 k l0 (l0.length : Int) 0 bt217.1 bt217.2.1 bt217.2.2.1 bt217.2.2.2.1 bt217.2.2.2.2))))))) = some (r1, r2, r3, r4, r5, r6) := by rw [if_neg (show ¬ (false = true) by decide)] at H; exact H
   clear H
   have H := H1
   clear H1
   replace H := Option.bind_eq_some_iff.mp H
   obtain ⟨t213, A70, H⟩ := H
   replace H : ((slices_Min_int.f l0).bind fun t214 => (if (wrap64 (t213 - t214)) ≥ 65536 then (none) else ((slices_Min_int.f l0).bind fun t215 => ((slices_Max_int.f l0).bind fun t216 => ((dom_room.f t215 t216).bind fun bt217 => (dom_Of.l0 k l0 (l0.length : Int) 0 bt217.1 bt217.2.1 bt217.2.2.1 bt217.2.2.2.1 bt217.2.2.2.2)))))) = some (r1, r2, r3, r4, r5, r6) := H
   have A7 := Aside0.mk A70
   clear A70
   replace H := Option.bind_eq_some_iff.mp H
   obtain ⟨t214, A80, H⟩ := H
   replace H : (if (wrap64 (t213 - t214)) ≥ 65536 then (none) else ((slices_Min_int.f l0).bind fun t215 => ((slices_Max_int.f l0).bind fun t216 => ((dom_room.f t215 t216).bind fun bt217 => (dom_Of.l0 k l0 (l0.length : Int) 0 bt217.1 bt217.2.1 bt217.2.2.1 bt217.2.2.2.1 bt217.2.2.2.2))))) = some (r1, r2, r3, r4, r5, r6) := H
   have A8 := Aside0.mk A80
   clear A80
   by_cases c9 : (wrap64 (t213 - t214)) ≥ 65536
   ·
    rw [if_pos c9] at H
    exact absurd H (by simp)
   ·
    rw [if_neg c9] at H
    have c9b0 : decide (65536 ≤ (wrap64 (t213 - t214))) = false := decide_eq_false c9
    clear c9
    replace H := Option.bind_eq_some_iff.mp H
    obtain ⟨t215, A100, H⟩ := H
    replace H : ((slices_Max_int.f l0).bind fun t216 => ((dom_room.f t215 t216).bind fun bt217 => (dom_Of.l0 k l0 (l0.length : Int) 0 bt217.1 bt217.2.1 bt217.2.2.1 bt217.2.2.2.1 bt217.2.2.2.2))) = some (r1, r2, r3, r4, r5, r6) := H
    have A10 := Aside0.mk A100
    clear A100
    replace H := Option.bind_eq_some_iff.mp H
    obtain ⟨t216, A110, H⟩ := H
    replace H : ((dom_room.f t215 t216).bind fun bt217 => (dom_Of.l0 k l0 (l0.length : Int) 0 bt217.1 bt217.2.1 bt217.2.2.1 bt217.2.2.2.1 bt217.2.2.2.2)) = some (r1, r2, r3, r4, r5, r6) := H
    have A11 := Aside0.mk A110
    clear A110
    replace H := Option.bind_eq_some_iff.mp H
    obtain ⟨⟨t217, t218, t221, t222, t223⟩, A120, H⟩ := H
    replace H : (dom_Of.l0 k l0 (l0.length : Int) 0 t217 t218 t221 t222 t223) = some (r1, r2, r3, r4, r5, r6) := H
    have A12 := Aside0.mk A120
    clear A120
    have H' := Aside0.mk H
    clear H
    go_enter Tryz.func34, Tryz.ntmps34
    go_wp2_with (first | ((with_reducible refine gate_dst (N := 2) rfl ?_); refine bxe_ (N := 2) (cs := #[.int .i64 0, .slice none 0 0, .int .i64 0, .int .i64 0, .int .i64 0]) (t := 61) ?_; intro gb211 hg w13 hbox hb; have BK211 := Aside0.mk (hbox); have GW211 := Aside0.mk (by rw [hg]; exact (below_size bel_) : w.heap.size ≤ gb211); have GE211 := GW211; replace HB := Aside0.mk (below_step bel_ hb); clear hb hbox hg) | ((with_reducible refine gate_callee (f := 70) rfl ?_); refine goesL_ (some 14) rfl rfl Tryz.func70 (by kernel_rfl) rfl #[.slice A0 l0.length c0, .func (.func 71) #[] #[]] rfl ar_ ?_; (with_reducible refine (slices_ContainsFunc_int_int_70_at_dom_Of_1.calls k _ _ l0 false _ ?_ ?_ A5.out).mono ?_); exact ca_ ((Kd.C_below HR0.out HB.out)); exact HC0.out; rintro e w' ⟨rfl, ⟨nd, rfl⟩⟩; refine ⟨_, rfl, ?_⟩; (try (rw [drewN_self w13]; generalize hq_ : World.drewN w13 _ = w13; replace BK211 : Aside0 (w13.heap[gb211]? = some (.cells #[.int .i64 0, .slice none 0 0, .int .i64 0, .int .i64 0, .int .i64 0] 61 (0, 0))) := ⟨by rw [← hq_]; exact (bk_ BK211.out)⟩; replace HB : Aside0 (Below w.heap.size w w13) := ⟨by rw [← hq_]; exact bel_⟩; clear hq_)); (try (obtain ⟨_, _, _, _, _, _, _, _, _, _⟩ := cel5_ BK211.out))) | ((with_reducible refine gate_callee (f := 72) rfl ?_); refine goesL_ (some 18) rfl rfl Tryz.func72 (by kernel_rfl) rfl #[.slice A0 l0.length c0] rfl ar_ ?_; (with_reducible refine (slices_Max_int.calls _ _ l0 t213 _ ?_ ?_ A7.out).mono ?_); exact ca_ ((Kd.C_below HR0.out HB.out)); exact HC0.out; rintro e w' ⟨rfl, ⟨nd, rfl⟩⟩; refine ⟨_, rfl, ?_⟩; (try (rw [drewN_self w13]; generalize hq_ : World.drewN w13 _ = w13; replace BK211 : Aside0 (w13.heap[gb211]? = some (.cells #[.int .i64 0, .slice none 0 0, .int .i64 0, .int .i64 0, .int .i64 0] 61 (0, 0))) := ⟨by rw [← hq_]; exact (bk_ BK211.out)⟩; replace HB : Aside0 (Below w.heap.size w w13) := ⟨by rw [← hq_]; exact bel_⟩; clear hq_)); (try (obtain ⟨_, _, _, _, _, _, _, _, _, _⟩ := cel5_ BK211.out))) | ((with_reducible refine gate_callee (f := 73) rfl ?_); refine goesL_ (some 20) rfl rfl Tryz.func73 (by kernel_rfl) rfl #[.slice A0 l0.length c0] rfl ar_ ?_; (with_reducible refine (slices_Min_int.calls _ _ l0 t214 _ ?_ ?_ A8.out).mono ?_); exact ca_ ((Kd.C_below HR0.out HB.out)); exact HC0.out; rintro e w' ⟨rfl, ⟨nd, rfl⟩⟩; refine ⟨_, rfl, ?_⟩; (try (rw [drewN_self w13]; generalize hq_ : World.drewN w13 _ = w13; replace BK211 : Aside0 (w13.heap[gb211]? = some (.cells #[.int .i64 0, .slice none 0 0, .int .i64 0, .int .i64 0, .int .i64 0] 61 (0, 0))) := ⟨by rw [← hq_]; exact (bk_ BK211.out)⟩; replace HB : Aside0 (Below w.heap.size w w13) := ⟨by rw [← hq_]; exact bel_⟩; clear hq_)); (try (obtain ⟨_, _, _, _, _, _, _, _, _, _⟩ := cel5_ BK211.out))) | ((with_reducible refine gate_callee (f := 73) rfl ?_); refine goesL_ (some 25) rfl rfl Tryz.func73 (by kernel_rfl) rfl #[.slice A0 l0.length c0] rfl ar_ ?_; (with_reducible refine (slices_Min_int.calls _ _ l0 t215 _ ?_ ?_ A10.out).mono ?_); exact ca_ ((Kd.C_below HR0.out HB.out)); exact HC0.out; rintro e w' ⟨rfl, ⟨nd, rfl⟩⟩; refine ⟨_, rfl, ?_⟩; (try (rw [drewN_self w13]; generalize hq_ : World.drewN w13 _ = w13; replace BK211 : Aside0 (w13.heap[gb211]? = some (.cells #[.int .i64 0, .slice none 0 0, .int .i64 0, .int .i64 0, .int .i64 0] 61 (0, 0))) := ⟨by rw [← hq_]; exact (bk_ BK211.out)⟩; replace HB : Aside0 (Below w.heap.size w w13) := ⟨by rw [← hq_]; exact bel_⟩; clear hq_)); (try (obtain ⟨_, _, _, _, _, _, _, _, _, _⟩ := cel5_ BK211.out))) | ((with_reducible refine gate_callee (f := 72) rfl ?_); refine goesL_ (some 27) rfl rfl Tryz.func72 (by kernel_rfl) rfl #[.slice A0 l0.length c0] rfl ar_ ?_; (with_reducible refine (slices_Max_int.calls _ _ l0 t216 _ ?_ ?_ A11.out).mono ?_); exact ca_ ((Kd.C_below HR0.out HB.out)); exact HC0.out; rintro e w' ⟨rfl, ⟨nd, rfl⟩⟩; refine ⟨_, rfl, ?_⟩; (try (rw [drewN_self w13]; generalize hq_ : World.drewN w13 _ = w13; replace BK211 : Aside0 (w13.heap[gb211]? = some (.cells #[.int .i64 0, .slice none 0 0, .int .i64 0, .int .i64 0, .int .i64 0] 61 (0, 0))) := ⟨by rw [← hq_]; exact (bk_ BK211.out)⟩; replace HB : Aside0 (Below w.heap.size w w13) := ⟨by rw [← hq_]; exact bel_⟩; clear hq_)); (try (obtain ⟨_, _, _, _, _, _, _, _, _, _⟩ := cel5_ BK211.out))) | ((with_reducible refine gate_callee (f := 74) rfl ?_); refine goesL_ (some 28) rfl rfl Tryz.func74 (by kernel_rfl) rfl #[.int .i64 t215, .int .i64 t216] rfl ar_ ?_; (with_reducible refine (dom_room.calls t215 t216 t217 t218 t221 t222 t223 _ A12.out).mono ?_); rintro e w19 ⟨v219, rfl, ho0, hb⟩; refine ⟨_, rfl, ?_⟩; have HO220 := Aside0.mk (Kd.R_lower (Kd.R_newM (M := fun k_ => (w.heap.size ≤ k_)) ho0 (below_size bel_) (fun k_ h_ => h_)) (below_size bel_)); replace BK211 := Aside0.mk (blk_below (bk_ BK211.out) hb); replace HB := Aside0.mk (below_step bel_ hb); clear hb ho0) | ((with_reducible refine gate_dst (N := 4) rfl ?_); refine bxe_ (N := 4) (cs := #[.int .i64 0, .slice none 0 0, .int .i64 0, .int .i64 0, .int .i64 0]) (t := 61) ?_; intro gb224 hg w20 hbox hb; replace HO220 := Aside0.mk (Kd.R_below (vR_ HO220.out) hb); have BK224 := Aside0.mk (hbox); have GW224 := Aside0.mk (by rw [hg]; exact (below_size bel_) : w.heap.size ≤ gb224); have GE224 := GW224; replace HB := Aside0.mk (below_step bel_ hb); have NB211_224 := Aside0.mk ((by rw [hg]; exact Nat.ne_of_lt (blk_lt (bk_ BK211.out)) : gb211 ≠ gb224)); have NB224_211 := Aside0.mk ((by rw [hg]; exact Nat.ne_of_gt (blk_lt (bk_ BK211.out)) : gb224 ≠ gb211)); replace BK211 := Aside0.mk (blk_below (bk_ BK211.out) hb); clear hb hbox hg; have hnb21 := NB224_211.out; have hnc21 := NB211_224.out; obtain ⟨hcz22_0, hcz22_1, hcz22_2, hcz22_3, hcz22_4, hfz22_0, hfz22_1, hfz22_2, hfz22_3, hfz22_4⟩ := cel5_ BK224.out; obtain ⟨Ao23, co23, eo23⟩ := Kd.R_slice HO220.out; subst eo23))
    go_loopg [31] k (fun kq v31 w' => ∃ (x31_1 : Int) (x225001_1 : List Int) (u225001 : Value), v31 = .int .i64 x31_1 ∧ Aside0 (dom_Of.l0 kq l0 (l0.length : Int) x31_1 t217 x225001_1 t221 t222 t223 = some (r1, r2, r3, r4, r5, r6)) ∧ Aside0 (kq ≤ k) ∧ Aside0 (Kd.R (Kd.int .u64) 87 w' w.heap.size (fun k_ => (w.heap.size ≤ k_)) u225001 x225001_1) ∧ Aside0 (w'.heap[gb211]? = some (.cells #[.int .i64 0, (.slice none 0 0), .int .i64 0, .int .i64 0, .int .i64 0] 61 (0, 0))) ∧ Aside0 (w'.heap[gb224]? = some (.cells #[.int .i64 t217, u225001, .int .i64 t221, .int .i64 t222, .int .i64 t223] 61 (0, 0))) ∧ Aside0 (Below w.heap.size w w'))
    case atStart => exact ⟨(0), (t218), (.slice Ao23 t218.length co23), eq_, H', ⟨Nat.le_refl _⟩, ⟨by refine vR_ ?_; exact Kd.R_mono (Kd.R_far (Kd.R_far (Kd.R_far (Kd.R_far (Kd.R_far (Kd.R_types HO220.out BK224.out (by decide)) (fun _ hk => hk.2) _) (fun _ hk => hk.2) _) (fun _ hk => hk.2) _) (fun _ hk => hk.2) _) (fun _ hk => hk.2) _) (fun _ hk => hk.1.1)⟩, ⟨by refine bk_ ?_; refine blk_far ?_ NB211_224.out _; refine bk_ ?_; refine blk_far ?_ NB211_224.out _; refine bk_ ?_; refine blk_far ?_ NB211_224.out _; refine bk_ ?_; refine blk_far ?_ NB211_224.out _; refine bk_ ?_; refine blk_far ?_ NB211_224.out _; refine bk_ ?_; exact BK211.out⟩, ⟨by refine bk_ ?_; refine blk_put (cs := #[.int .i64 t217, .slice Ao23 t218.length co23, .int .i64 t221, .int .i64 t222, .int .i64 0]) ?_ 4 _ rfl; refine bk_ ?_; refine blk_put (cs := #[.int .i64 t217, .slice Ao23 t218.length co23, .int .i64 t221, .int .i64 0, .int .i64 0]) ?_ 3 _ rfl; refine bk_ ?_; refine blk_put (cs := #[.int .i64 t217, .slice Ao23 t218.length co23, .int .i64 0, .int .i64 0, .int .i64 0]) ?_ 2 _ rfl; refine bk_ ?_; refine blk_put (cs := #[.int .i64 t217, .slice none 0 0, .int .i64 0, .int .i64 0, .int .i64 0]) ?_ 1 _ rfl; refine bk_ ?_; refine blk_put (cs := #[.int .i64 0, .slice none 0 0, .int .i64 0, .int .i64 0, .int .i64 0]) ?_ 0 _ rfl; refine bk_ ?_; exact BK224.out⟩, ⟨bel_⟩⟩
    case round =>
     clear H'
     try clear c2
     try clear c2b0
     try clear c2b1
     try clear c2b2
     try clear p2
     try clear c3
     try clear c6
     try clear p6
     try clear c7
     try clear c9
     try clear c9b0
     try clear c21
     try clear hcz22_0
     try clear hcz22_1
     try clear hcz22_2
     try clear hcz22_3
     try clear hcz22_4
     try clear hcz4_0
     try clear hcz4_1
     try clear hcz4_2
     try clear hcz4_3
     try clear hcz4_4
     try clear hfz22_0
     try clear hfz22_1
     try clear hfz22_2
     try clear hfz22_3
     try clear hfz22_4
     try clear hfz4_0
     try clear hfz4_1
     try clear hfz4_2
     try clear hfz4_3
     try clear hfz4_4
     obtain ⟨x31_1, x225001_1, u225001, rfl, HA, HK1, HO_225001, BK211, BK224, HB⟩ := hrel
     cases gk with
     | zero => exact absurd HA.out (by simp [dom_Of.l0])
     | succ k1 =>
      have H := HA.out
      clear HA
      simp only [dom_Of.l0] at H
      by_cases c24 : x31_1 < (l0.length : Int)
      ·
       rw [if_pos c24] at H
       have c24b0 : decide (x31_1 < (l0.length : Int)) = true := decide_eq_true c24
       clear c24
       by_cases c25 : 0 ≤ x31_1
       ·
        rw [if_pos c25] at H
        have c25b0 : decide (0 ≤ x31_1) = true := decide_eq_true c25
        clear c25
        by_cases c26 : x31_1 < (l0.length : Int)
        ·
         rw [if_pos c26] at H
         have c26b0 : decide (x31_1 < (l0.length : Int)) = true := decide_eq_true c26
         clear c26
         obtain ⟨ji27, hji27⟩ : ∃ j_ : Int, (wrap64 (Int.tdiv (wrap64 ((rd l0 x31_1) - t217)) 64)) = j_ := ⟨_, rfl⟩
         replace H : (if 0 ≤ (ji27) then (if (ji27) < (x225001_1.length : Int) then (if 0 ≤ (Int.tmod (wrap64 ((rd l0 x31_1) - t217)) 64) then (dom_Of.l0 k1 l0 (l0.length : Int) (wrap64 (x31_1 + 1)) t217 (x225001_1.set ((ji27) : Int).toNat (Go.bits .or .u64 (rd x225001_1 (ji27)) (shl .u64 1 (Int.tmod (wrap64 ((rd l0 x31_1) - t217)) 64)))) t221 t222 t223) else (none)) else (none)) else (none)) = some (r1, r2, r3, r4, r5, r6) := by first | (rw [hji27] at H; exact H) | (simp only [hji27] at H ⊢; exact H)
         have hji27w : (IntKind.i64.wrap (Int.tdiv (wrap64 ((rd l0 x31_1) - t217)) 64)) = ji27 := (i64_w _).trans hji27
         by_cases c28 : 0 ≤ (ji27)
         ·
          rw [if_pos c28] at H
          have c28b0 : decide (0 ≤ (ji27)) = true := decide_eq_true c28
          clear c28
          by_cases c29 : (ji27) < (x225001_1.length : Int)
          ·
           rw [if_pos c29] at H
           have c29b0 : decide ((ji27) < (x225001_1.length : Int)) = true := decide_eq_true c29
           clear c29
           obtain ⟨ji30, hji30⟩ : ∃ j_ : Int, (Int.tmod (wrap64 ((rd l0 x31_1) - t217)) 64) = j_ := ⟨_, rfl⟩
           replace H : (if 0 ≤ (ji30) then (dom_Of.l0 k1 l0 (l0.length : Int) (wrap64 (x31_1 + 1)) t217 (x225001_1.set ((ji27) : Int).toNat (Go.bits .or .u64 (rd x225001_1 (ji27)) (shl .u64 1 (ji30)))) t221 t222 t223) else (none)) = some (r1, r2, r3, r4, r5, r6) := by first | (rw [hji30] at H; exact H) | (simp only [hji30] at H ⊢; exact H)
           by_cases c31 : 0 ≤ (ji30)
           ·
            rw [if_pos c31] at H
            have c31b0 := eq_true c31
            have c31b1 : decide (0 ≤ (ji30)) = true := decide_eq_true c31
            clear c31
            obtain ⟨ji32, hji32⟩ : ∃ j_ : Int, (shl .u64 1 (ji30)) = j_ := ⟨_, rfl⟩
            replace H : (dom_Of.l0 k1 l0 (l0.length : Int) (wrap64 (x31_1 + 1)) t217 (x225001_1.set ((ji27) : Int).toNat (Go.bits .or .u64 (rd x225001_1 (ji27)) (ji32))) t221 t222 t223) = some (r1, r2, r3, r4, r5, r6) := by first | (rw [hji32] at H; exact H) | (simp only [hji32] at H ⊢; exact H)
            have hji32_ : (IntKind.u64.wrap (1 * 2 ^ min (ji30).toNat 64)) = ji32 := hji32
            have hji32z : (ji30) ≤ 64 → (IntKind.u64.wrap (1 * 2 ^ (ji30).toNat)) = ji32 := shl_small hji32
            have hji32u : (IntKind.u64.wrap (2 ^ min (ji30).toNat 64)) = ji32 := by have h_ := hji32_; rw [Int.one_mul] at h_; exact h_
            have hji32v : (ji30) ≤ 64 → (IntKind.u64.wrap (2 ^ (ji30).toNat)) = ji32 := fun hle_ => by have h_ := hji32z hle_; rw [Int.one_mul] at h_; exact h_
            obtain ⟨y227, hy227⟩ : ∃ y_ : List Int, y_ = (x225001_1.set ((ji27) : Int).toNat (Go.bits .or .u64 (rd x225001_1 (ji27)) (ji32))) := ⟨_, rfl⟩
            replace H : (dom_Of.l0 k1 l0 (l0.length : Int) (wrap64 (x31_1 + 1)) t217 y227 t221 t222 t223) = some (r1, r2, r3, r4, r5, r6) := by first | (rw [hy227]; with_reducible exact H) | (have H2_ := (Option.bind_some _ _).symm.trans H; rw [hy227]; with_reducible exact H2_) | (have H2_ := (Option.bind_some _ _).symm.trans H; with_reducible exact H2_) | with_reducible exact H | (rw [hy227]; exact H) | exact H
            have Ny227 := Aside0.mk hy227
            clear hy227
            have H' := Aside0.mk H
            clear H
            have p225 : 0 ≤ (x31_1 : Int) := dq_
            have q225 : x31_1 < (l0.length : Int) := dq_
            obtain ⟨ad225, e225, hx225_0⟩ := Kd.at_int HR0.out x31_1 p225 q225
            cases e225
            replace hx225_0 := (HB.out.cell (World.block_lt_of_cell? w _ hx225_0)).trans hx225_0
            replace p225 := eq_true p225
            replace q225 := eq_true q225
            try go_wp2
            replace HO_225001 := Aside0.mk (Kd.R_drew HO_225001.out)
            replace BK211 := Aside0.mk (blk_drew BK211.out)
            replace BK224 := Aside0.mk (blk_drew BK224.out)
            replace HB := Aside0.mk (below_drew1 HB.out)
            obtain ⟨Ao35, co35, eo35⟩ := Kd.R_slice HO_225001.out
            (first | subst eo35 | (injection eo35 with f1_ f2_ f3_; have f4_ := f1_.symm; have f5_ := f3_.symm; clear f1_ f2_ f3_; subst f4_; subst f5_))
            have p226 : 0 ≤ ((ji27) : Int) := dq_
            have q226 : (ji27) < (x225001_1.length : Int) := dq_
            obtain ⟨ad226, e226, hx226_0⟩ := Kd.at_int (Kd.R_reads' HO_225001.out).2.2 (ji27) p226 q226
            cases e226
            replace p226 := eq_true p226
            replace q226 := eq_true q226
            have p33 : 0 ≤ ((ji27) : Int) := dq_
            have q33 : ((ji27) : Int) < ((x225001_1.length : Int) : Int) := dq_
            obtain ⟨go33, co33, eo33, gb33, gl33, cl33, HG33⟩ := Kd.R_form HO_225001.out (by omega)
            (first | cases eo33 | (injection eo33 with ea_ en_ ec_; (first | subst ea_ | (injection ea_ with ea_; subst ea_)); subst ec_; clear en_))
            have GB33 := Aside0.mk gb33
            have GG33 := Aside0.mk HG33
            clear gb33 gl33 HG33
            (first | simp only [add_plain] at hx226_0 | skip)
            obtain ⟨hx33_0, hf33_0⟩ := Kd.R_celln 0 HO_225001.out ((ji27) : Int) p33 q33
            replace p33 := eq_true p33
            replace q33 := eq_true q33
            have HP36 := Kd.R_putn HO_225001.out ((ji27) : Int) (Go.bits .or .u64 (rd x225001_1 (ji27)) (ji32))
            rw [← Ny227.out] at HP36
            have HQ36 := Aside0.mk HP36
            clear HP36
            refine start_ (n := 18) (S := fun w' => w'.cell? ⟨gb224, 0, none⟩ = some (.int .i64 t217) ∧ w'.cell? ⟨gb224, 1, none⟩ = some (.slice (some ⟨go33, 0, none⟩) x225001_1.length co35) ∧ w'.cell? ⟨gb224, 2, none⟩ = some (.int .i64 t221) ∧ w'.cell? ⟨gb224, 3, none⟩ = some (.int .i64 t222) ∧ w'.cell? ⟨gb224, 4, none⟩ = some (.int .i64 t223) ∧ w'.cell? ⟨go33, ((ji27)).toNat, none⟩ = some (.int .u64 (rd x225001_1 (ji27)))) (ds := [17]) #[false, false, false, false, false, false, false, false, false, false, false, false, false, false, false, false, false, false] (by kernel_rfl) rfl rfl ⟨(blk_cell BK224.out 0).trans rfl, (blk_cell BK224.out 1).trans rfl, (blk_cell BK224.out 2).trans rfl, (blk_cell BK224.out 3).trans rfl, (blk_cell BK224.out 4).trans rfl, hx226_0⟩ (fun hHeld => ?_); refine with_tabW dom_Of.tab11 dom_Of.bits11 (fun HT_ HW_ => ?_)
            generalize wr.drew = w34 at HO_225001 BK211 BK224 HB GG33 HQ36 hf33_0 hx226_0 hx33_0 hHeld ⊢
            refine pur_ (i := 0) (N := some 35) #[true, false, false, false, false, false, false, false, false, false, false, false, false, false, false, false, false, false] (any_of HT_.out (by kernel_rfl)) ?_
            refine pur_ (i := 2) (N := some 37) #[true, false, true, false, false, false, false, false, false, false, false, false, false, false, false, false, false, false] (any_of HT_.out (by kernel_rfl)) ?_
            refine pur_ (i := 3) (N := some 38) #[true, false, true, true, false, false, false, false, false, false, false, false, false, false, false, false, false, false] (any_of HT_.out (by kernel_rfl)) ?_
            refine pur_ (i := 9) (N := some 44) #[true, false, true, true, false, false, false, false, false, true, false, false, false, false, false, false, false, false] (any_of HT_.out (by kernel_rfl)) ?_
            refine pur_ (i := 10) (N := some 45) #[true, false, true, true, false, false, false, false, false, true, true, false, false, false, false, false, false, false] (any_of HT_.out (by kernel_rfl)) ?_
            refine take_ (i := 1) (N := some 36) (v := ?_) (a' := ?_) #[true, true, true, true, false, false, false, false, false, true, true, false, false, false, false, false, false, false] rfl rfl (take_ofW HT_.out HW_.out (by kernel_rfl)) (fun _ _ _ h => h) (Or.inl ⟨by rfl, ?_⟩) hHeld ?_ ?_
            rotate_left
            ·
             rintro w' ⟨s0, s1, s2, s3, s4, s5⟩
             go_simp
             with_reducible rfl
            rotate_left
            ·
             simp only [Act.put, List.setIfInBounds_toArray, List.set_cons_zero, List.set_cons_succ, i64_w, i32_w]
             rfl
            refine take_ (i := 4) (N := some 39) (v := ?_) (a' := ?_) #[true, true, true, true, true, false, false, false, false, true, true, false, false, false, false, false, false, false] rfl rfl (take_ofW HT_.out HW_.out (by kernel_rfl)) (fun _ _ _ h => h) (Or.inl ⟨by rfl, ?_⟩) hHeld ?_ ?_
            rotate_left
            ·
             rintro w' ⟨s0, s1, s2, s3, s4, s5⟩
             go_simp
             with_reducible rfl
            rotate_left
            ·
             simp only [Act.put, List.setIfInBounds_toArray, List.set_cons_zero, List.set_cons_succ, i64_w, i32_w]
             rfl
            refine pur_ (i := 5) (N := some 40) #[true, true, true, true, true, true, false, false, false, true, true, false, false, false, false, false, false, false] (any_of HT_.out (by kernel_rfl)) ?_
            refine pur_ (i := 6) (N := some 41) #[true, true, true, true, true, true, true, false, false, true, true, false, false, false, false, false, false, false] (any_of HT_.out (by kernel_rfl)) ?_
            refine pur_ (i := 7) (N := some 42) #[true, true, true, true, true, true, true, true, false, true, true, false, false, false, false, false, false, false] (any_of HT_.out (by kernel_rfl)) ?_
            refine take_ (i := 8) (N := some 43) (v := ?_) (a' := ?_) #[true, true, true, true, true, true, true, true, true, true, true, false, false, false, false, false, false, false] rfl rfl (take_ofW HT_.out HW_.out (by kernel_rfl)) (fun _ _ _ h => h) (Or.inl ⟨by rfl, ?_⟩) hHeld ?_ ?_
            rotate_left
            ·
             rintro w' ⟨s0, s1, s2, s3, s4, s5⟩
             go_simp
             with_reducible rfl
            rotate_left
            ·
             simp only [Act.put, List.setIfInBounds_toArray, List.set_cons_zero, List.set_cons_succ, i64_w, i32_w]
             rfl
            refine take_ (i := 11) (N := some 46) (v := ?_) (a' := ?_) #[true, true, true, true, true, true, true, true, true, true, true, true, false, false, false, false, false, false] rfl rfl (take_ofW HT_.out HW_.out (by kernel_rfl)) (fun _ _ _ h => h) (Or.inl ⟨by rfl, ?_⟩) hHeld ?_ ?_
            rotate_left
            ·
             rintro w' ⟨s0, s1, s2, s3, s4, s5⟩
             go_simp
             with_reducible rfl
            rotate_left
            ·
             simp only [Act.put, List.setIfInBounds_toArray, List.set_cons_zero, List.set_cons_succ, i64_w, i32_w]
             rfl
            refine pur_ (i := 12) (N := some 47) #[true, true, true, true, true, true, true, true, true, true, true, true, true, false, false, false, false, false] (any_of HT_.out (by kernel_rfl)) ?_
            refine pur_ (i := 13) (N := some 48) #[true, true, true, true, true, true, true, true, true, true, true, true, true, true, false, false, false, false] (any_of HT_.out (by kernel_rfl)) ?_
            refine pur_ (i := 14) (N := some 49) #[true, true, true, true, true, true, true, true, true, true, true, true, true, true, true, false, false, false] (any_of HT_.out (by kernel_rfl)) ?_
            refine pur_ (i := 15) (N := some 50) #[true, true, true, true, true, true, true, true, true, true, true, true, true, true, true, true, false, false] (any_of HT_.out (by kernel_rfl)) ?_
            refine pur_ (i := 16) (N := some 51) #[true, true, true, true, true, true, true, true, true, true, true, true, true, true, true, true, true, false] (any_of HT_.out (by kernel_rfl)) ?_
            refine last_ (i := 17) (N := none) #[true, true, true, true, true, true, true, true, true, true, true, true, true, true, true, true, true, true] rfl rfl (one_of HT_.out (by kernel_rfl)) (by decide) (fun K hK => ?_)
            refine skip_ (w1 := ?_) (by rfl) rfl ?_ ?_
            rotate_left
            ·
             go_simp
             rfl
            refine hK.out _ _ ?_
            clear hK K
            refine done_ (done_of HT_.out (by kernel_rfl)) ?_
            try go_wp2
            go_roundg k1
            case measure => have := HK1.out; omega
            case rel => exact ⟨(wrap64 (x31_1 + 1)), (y227), (.slice (some ⟨go33, 0, none⟩) x225001_1.length co35), eq_, H', ⟨by have := HK1.out; omega⟩, ⟨by refine vR_ ?_; exact HQ36.out⟩, ⟨by refine bk_ ?_; refine blk_far ?_ (by have h_ := Kd.R_ne HO_225001.out BK211.out (by decide); intro e_; exact h_ (by rw [e_]; rfl)) _; refine bk_ ?_; exact BK211.out⟩, ⟨by refine bk_ ?_; refine blk_far ?_ (by have h_ := Kd.R_ne HO_225001.out BK224.out (by decide); intro e_; exact h_ (by rw [e_]; rfl)) _; refine bk_ ?_; exact BK224.out⟩, ⟨by repeat (first | (with_reducible first | exact HB.out | apply below_alloc | apply pw_below_drewN | apply below_drew1 | refine below_set ?_ GB33.out | refine below_set ?_ GE211.out | refine below_set ?_ GE224.out) | exact HB.out)⟩⟩
           ·
            rw [if_neg c31] at H
            exact absurd H (by simp)
          ·
           rw [if_neg c29] at H
           exact absurd H (by simp)
         ·
          rw [if_neg c28] at H
          exact absurd H (by simp)
        ·
         rw [if_neg c26] at H
         exact absurd H (by simp)
       ·
        rw [if_neg c25] at H
        exact absurd H (by simp)
      ·
       rw [if_neg c24] at H
       have c24b0 : decide (x31_1 < (l0.length : Int)) = false := decide_eq_false c24
       clear c24
       replace H := Option.bind_eq_some_iff.mp H
       obtain ⟨⟨t228, t229, t232, t233, t234⟩, A370, H⟩ := H
       replace H : (some (t228, t229, t232, t233, t234, 0)) = some (r1, r2, r3, r4, r5, r6) := H
       have A37 := Aside0.mk A370
       clear A370
       simp only [Option.some.injEq, Prod.mk.injEq] at H
       obtain ⟨rfl, rfl, rfl, rfl, rfl, rfl⟩ := H
       have hnb38 := NB224_211.out
       have hnc38 := NB211_224.out
       obtain ⟨_, _, _, _, _, _, _, _, _, _⟩ := cel5_ BK224.out
       obtain ⟨Ao40, co40, eo40⟩ := Kd.R_slice HO_225001.out
       subst eo40
       go_wp2_with (first | ((with_reducible refine gate_callee (f := 75) rfl ?_); refine goesL_ (some 57) rfl rfl Tryz.func75 (by kernel_rfl) rfl #[.int .i64 t217, .slice Ao40 x225001_1.length co40] rfl ar_ ?_; (with_reducible refine (dom_made.calls k1 t217 (fun k_ => some k_ = (.slice Ao40 x225001_1.length co40 : Value).ownBlock) _ _ x225001_1 t228 t229 t232 t233 t234 _ ?_ ?_ A37.out).mono ?_); exact Kd.R_V (Kd.R_tight rfl (Kd.R_types (Kd.R_types (HO_225001.out) BK211.out (by decide)) BK224.out (by decide))); exact ca_ ((Kd.C_below HRtab.out HB.out)); rintro e w41 ⟨v230, rfl, ho0, hb⟩; refine ⟨_, rfl, ?_⟩; have HO231 := Aside0.mk (Kd.V_lower (Kd.V_mono (ok' := fun k_ => (w.heap.size ≤ k_) ∧ k_ ≠ gb211 ∧ k_ ≠ gb224) ho0 (fun k_ hk_ => ⟨Or.elim hk_ (fun hs_ => ((Kd.R_types (Kd.R_types (HO_225001.out) BK211.out (by decide)) BK224.out (by decide)).1 k_ hs_.symm).1.1) (fun hn_ => (Nat.le_trans (below_size bel_) hn_)), Or.elim hk_ (fun hs_ => ((Kd.R_types (Kd.R_types (HO_225001.out) BK211.out (by decide)) BK224.out (by decide)).1 k_ hs_.symm).1.2) (fun hn_ => (Kd.freshB (bk_ BK211.out) k_ hn_)), Or.elim hk_ (fun hs_ => ((Kd.R_types (Kd.R_types (HO_225001.out) BK211.out (by decide)) BK224.out (by decide)).1 k_ hs_.symm).2) (fun hn_ => (Kd.freshB (bk_ BK224.out) k_ hn_))⟩)) (below_size bel_)); replace BK211 := Aside0.mk (blk_below (bk_ BK211.out) hb); replace HB := Aside0.mk (below_step bel_ hb); clear hb ho0; obtain ⟨_, _, _, _, _, _, _, _, _, _⟩ := cel5_ BK211.out; obtain ⟨Ao43, co43, eo43⟩ := Kd.V_slice HO231.out; subst eo43))
       refine bodyPost_ret (results_ct rfl _ _ gb211 61 #[.int .i64 t228, .slice Ao43 t229.length co43, .int .i64 t232, .int .i64 t233, .int .i64 t234] (0, 0) _ rfl (by refine bk_ ?_; refine blk_put (cs := #[.int .i64 t228, .slice Ao43 t229.length co43, .int .i64 t232, .int .i64 t233, .int .i64 0]) ?_ 4 _ rfl; refine bk_ ?_; refine blk_put (cs := #[.int .i64 t228, .slice Ao43 t229.length co43, .int .i64 t232, .int .i64 0, .int .i64 0]) ?_ 3 _ rfl; refine bk_ ?_; refine blk_put (cs := #[.int .i64 t228, .slice Ao43 t229.length co43, .int .i64 0, .int .i64 0, .int .i64 0]) ?_ 2 _ rfl; refine bk_ ?_; refine blk_put (cs := #[.int .i64 t228, .slice none 0 0, .int .i64 0, .int .i64 0, .int .i64 0]) ?_ 1 _ rfl; refine bk_ ?_; refine blk_put (cs := #[.int .i64 0, .slice none 0 0, .int .i64 0, .int .i64 0, .int .i64 0]) ?_ 0 _ rfl; refine bk_ ?_; exact BK211.out) Tryz.underlying61 rfl (by kernel_rfl)) rfl ?_
       exact ⟨_, by first | rfl | (simp [errW_none, errW_some] <;> rfl) | (simp [*, errW_none, errW_some] <;> rfl), by refine vV_ ?_; exact Kd.V_mono (Kd.V_far (Kd.V_far (Kd.V_far (Kd.V_far (Kd.V_far (Kd.V_mono HO231.out (fun k_ hk => (⟨hk, hk.2.1⟩ : _ ∧ k_ ≠ gb211))) (fun _ hk => hk.2) _) (fun _ hk => hk.2) _) (fun _ hk => hk.2) _) (fun _ hk => hk.2) _) (fun _ hk => hk.2) _) (fun _ hk => hk.1.1), bel_⟩

end Go.Proofs.YtbhhbgoamomacaaGreatDoor.XMulFixed
