-- by xprint.py, a program of this session, over the kit's print
import Derived.Test.YtiofjnhmogeenaaGreatDoorXEXSx0
import Derived.Test.YtiofjnhmogeenaaGreatDoorXEXSx5
import Derived.Test.YtiofjnhmogeenaaGreatDoorXEXSx6
import Derived.Test.YtiofjnhmogeenaaGreatDoorXEXSx7
import Derived.Test.YtiofjnhmogeenaaGreatDoorSq
namespace Go.Proofs.YtiofjnhmogeenaaGreatDoor.XExtFixed
open Go.RowKit Go.Proofs.YtiofjnhmogeenaaGreatDoor.Sq Go.Proofs.YtiofjnhmogeenaaGreatDoorW.PrintWords Go.Proofs.YtiofjnhmogeenaaGreatDoorW.PrintLast Go.Proofs.YtiofjnhmogeenaaGreatDoorW.PrintMore
attribute [local go_sem] max2_int min2_int max_two min_two max_three min_three max_four min_four   -- for this text's walks alone
set_option linter.unusedVariables false
set_option linter.unusedSimpArgs false

/-! ### dom_Of: function 35 -/
def dom_Of.l0 : Nat → List Int → Int → Int → Int → List Int → Int → Int → Int → Option (Int × List Int × Int × Int × Int × Int)
 | 0, _, _, _, _, _, _, _, _ => none
 | k + 1, x29, x30, x31, x221000, x221001, x221002, x221003, x221004 => if x31 < x30 then (if 0 ≤ x31 then (if x31 < (x29.length : Int) then (if 0 ≤ (wrap64 (Int.tdiv (wrap64 ((rd x29 x31) - x221000)) 64)) then (if (wrap64 (Int.tdiv (wrap64 ((rd x29 x31) - x221000)) 64)) < (x221001.length : Int) then (if 0 ≤ (Int.tmod (wrap64 ((rd x29 x31) - x221000)) 64) then (dom_Of.l0 k x29 x30 (wrap64 (x31 + 1)) x221000 (x221001.set ((wrap64 (Int.tdiv (wrap64 ((rd x29 x31) - x221000)) 64)) : Int).toNat (Go.bits .or .u64 (rd x221001 (wrap64 (Int.tdiv (wrap64 ((rd x29 x31) - x221000)) 64))) (shl .u64 1 (Int.tmod (wrap64 ((rd x29 x31) - x221000)) 64)))) x221002 x221003 x221004) else (none)) else (none)) else (none)) else (none)) else (none)) else ((dom_made.f k x221000 x221001).bind fun bt224 => (some (bt224.1, bt224.2.1, bt224.2.2.1, bt224.2.2.2.1, bt224.2.2.2.2, 0)))
def dom_Of.f (k : Nat) (l0 : List Int) : Option (Int × List Int × Int × Int × Int × Int) := if (l0.length : Int) = 0 then (some (0, ([] : List Int), 0, 0, 0, 4)) else ((slices_ContainsFunc_int_int_71_at_dom_Of_1.f k l0).bind fun t208 => (if t208 = true then (none) else ((slices_Max_int.f l0).bind fun t209 => ((slices_Min_int.f l0).bind fun t210 => (if (wrap64 (t209 - t210)) ≥ 65536 then (none) else ((slices_Min_int.f l0).bind fun t211 => ((slices_Max_int.f l0).bind fun t212 => ((dom_room.f t211 t212).bind fun bt213 => (dom_Of.l0 k l0 (l0.length : Int) 0 bt213.1 bt213.2.1 bt213.2.2.1 bt213.2.2.2.1 bt213.2.2.2.2)))))))))
theorem dom_Of.mono_l : ∀ k, (∀ y0 y1 y2 y3 y4 y5 y6 y7, LeO (dom_Of.l0 k y0 y1 y2 y3 y4 y5 y6 y7) (dom_Of.l0 (k + 1) y0 y1 y2 y3 y4 y5 y6 y7))
 | 0 => fun _ _ _ _ _ _ _ _ r h => by simp [dom_Of.l0] at h
 | k + 1 => by
  have ih0 := dom_Of.mono_l k
  ·
   intro y0 y1 y2 y3 y4 y5 y6 y7
   unfold dom_Of.l0
   have m0 := @dom_made.mono
   have m1 := @slices_ContainsFunc_int_int_71_at_dom_Of_1.mono
   exact leo_
theorem dom_Of.mono : ∀ a0 k, LeO (dom_Of.f k a0) (dom_Of.f (k + 1) a0) := by
 intro a0 k
 have ih0 := dom_Of.mono_l k
 unfold dom_Of.f
 have m0 := @dom_made.mono
 have m1 := @slices_ContainsFunc_int_int_71_at_dom_Of_1.mono
 exact leo_
def dom_Of.T11 : Bool × List (List Nat × List Nat) := (true, [([], []), ([0], [0]), ([], []), ([], []), ([3], [3]), ([2, 4], [2, 4]), ([5], [5]), ([1, 6], [1, 6]), ([7], [7]), ([], []), ([], []), ([10], [10]), ([9, 11], [9, 11]), ([12], [12]), ([13], [13]), ([8, 14], [8, 14]), ([1, 6, 0, 1, 2, 3, 4, 5, 6, 7, 8, 9, 10, 11, 12, 13, 14, 15], [1, 6]), ([16, 15, 0, 1, 2, 3, 4, 5, 6, 7, 8, 9, 10, 11, 12, 13, 14, 15], [15, 16])])
def dom_Of.B11 : List Nat := [0, 1, 0, 0, 8, 28, 60, 127, 255, 0, 0, 1024, 3584, 7680, 15872, 32767, 65535, 131071]
theorem dom_Of.tab11 : rtab .any (opsOf Tryz.f35 11) = dom_Of.T11 := by kernel_rfl
theorem dom_Of.bits11 : waitsOk dom_Of.T11.2 dom_Of.B11 = true := by kernel_rfl
set_option maxHeartbeats 8000000 in
set_option maxRecDepth 100000 in
theorem dom_Of.calls (k : Nat) (A0 : Option Addr) (c0 : Nat) (l0 : List Int) (r1 : Int) (r2 : List Int) (r3 : Int) (r4 : Int) (r5 : Int) (r6 : Int) (w : World) (hr0 : Kd.C (Kd.int .i64) w A0 l0.length l0) (hc0 : l0.length ≤ c0) (hrtab : Kd.C (Kd.int .u8) w (some ⟨0, 0, none⟩) tabL.length tabL) (h : dom_Of.f k l0 = some (r1, r2, r3, r4, r5, r6)) :
  Calls Tryz.prog 35 #[.slice A0 l0.length c0] w fun e w' => ∃ v1_ : Value, e = .returned (.tuple #[.agg #[.int .i64 r1, v1_, .int .i64 r3, .int .i64 r4, .int .i64 r5], .int .i64 r6]) ∧ Kd.V (Kd.int .u64) 86 w' w.heap.size (fun k_ => (w.heap.size ≤ k_)) v1_ r2 ∧ Below w.heap.size w w' := by
 have hu61 := Tryz.underlying61
 have HR0 := Aside0.mk hr0
 have HC0 := Aside0.mk hc0
 clear hr0 hc0
 have HRtab := Aside0.mk hrtab
 clear hrtab
 have HB := Aside0.mk (Below.refl w.heap.size w)
 have H : (if (l0.length : Int) = 0 then (some (0, ([] : List Int), 0, 0, 0, 4)) else ((slices_ContainsFunc_int_int_71_at_dom_Of_1.f k l0).bind fun t208 => (if t208 = true then (none) else ((slices_Max_int.f l0).bind fun t209 => ((slices_Min_int.f l0).bind fun t210 => (if (wrap64 (t209 - t210)) ≥ 65536 then (none) else ((slices_Min_int.f l0).bind fun t211 => ((slices_Max_int.f l0).bind fun t212 => ((dom_room.f t211 t212).bind fun bt213 => (dom_Of.l0 k l0 (l0.length : Int) 0 bt213.1 bt213.2.1 bt213.2.2.1 bt213.2.2.2.1 bt213.2.2.2.2)))))))))) = some (r1, r2, r3, r4, r5, r6) := h
 clear h
 by_cases c2 : (l0.length : Int) = 0
 ·
  rw [if_pos c2] at H
  have c2b0 : ((l0.length : Int) == 0) = true := beq_iff_eq.mpr c2
  have c2b1 : ((l0.length : Int) != 0) = false := bne_eq_false_iff_eq.mpr c2
  clear c2
  simp only [Option.some.injEq, Prod.mk.injEq] at H
  obtain ⟨rfl, rfl, rfl, rfl, rfl, rfl⟩ := H
  go_enter Tryz.func35, Tryz.ntmps35
  go_wp2_with (first | ((with_reducible refine gate_dst (N := 2) rfl ?_); refine bxe_ (N := 2) (cs := #[.int .i64 0, .slice none 0 0, .int .i64 0, .int .i64 0, .int .i64 0]) (t := 61) ?_; intro gb207 hg w3 hbox hb; have BK207 := Aside0.mk (hbox); have GW207 := Aside0.mk (by rw [hg]; exact (below_size bel_) : w.heap.size ≤ gb207); have GE207 := GW207; replace HB := Aside0.mk (below_step bel_ hb); clear hb hbox hg; obtain ⟨hcz4_0, hcz4_1, hcz4_2, hcz4_3, hcz4_4, hfz4_0, hfz4_1, hfz4_2, hfz4_3, hfz4_4⟩ := cel5_ BK207.out))
  refine bodyPost_ret (results_ct rfl _ _ gb207 61 #[.int .i64 0, .slice none 0 0, .int .i64 0, .int .i64 0, .int .i64 0] (0, 0) _ rfl (by refine bk_ ?_; refine blk_put (cs := #[.int .i64 0, .slice none 0 0, .int .i64 0, .int .i64 0, .int .i64 0]) ?_ 4 _ rfl; refine bk_ ?_; refine blk_put (cs := #[.int .i64 0, .slice none 0 0, .int .i64 0, .int .i64 0, .int .i64 0]) ?_ 3 _ rfl; refine bk_ ?_; refine blk_put (cs := #[.int .i64 0, .slice none 0 0, .int .i64 0, .int .i64 0, .int .i64 0]) ?_ 2 _ rfl; refine bk_ ?_; refine blk_put (cs := #[.int .i64 0, .slice none 0 0, .int .i64 0, .int .i64 0, .int .i64 0]) ?_ 1 _ rfl; refine bk_ ?_; refine blk_put (cs := #[.int .i64 0, .slice none 0 0, .int .i64 0, .int .i64 0, .int .i64 0]) ?_ 0 _ rfl; refine bk_ ?_; exact BK207.out) Tryz.underlying61 rfl (by kernel_rfl)) rfl ?_
  exact ⟨_, by first | rfl | (simp [errW_none, errW_some] <;> rfl) | (simp [*, errW_none, errW_some] <;> rfl), Kd.V_nil _ _ _ _ _, bel_⟩
 ·
  rw [if_neg c2] at H
  have c2b0 : ((l0.length : Int) == 0) = false := beq_eq_false_iff_ne.mpr c2
  have c2b1 : ((l0.length : Int) != 0) = true := bne_iff_ne.mpr c2
  have c2b2 : ¬ (l0 = []) := fun h_ => c2 (by rw [h_]; rfl)
  replace H := Option.bind_eq_some_iff.mp H
  obtain ⟨t208, A50, H⟩ := H
  replace H : (if t208 = true then (none) else ((slices_Max_int.f l0).bind fun t209 => ((slices_Min_int.f l0).bind fun t210 => (if (wrap64 (t209 - t210)) ≥ 65536 then (none) else ((slices_Min_int.f l0).bind fun t211 => ((slices_Max_int.f l0).bind fun t212 => ((dom_room.f t211 t212).bind fun bt213 => (dom_Of.l0 k l0 (l0.length : Int) 0 bt213.1 bt213.2.1 bt213.2.2.1 bt213.2.2.2.1 bt213.2.2.2.2)))))))) = some (r1, r2, r3, r4, r5, r6) := H
  have A5 := Aside0.mk A50
  clear A50
  by_cases c6 : t208 = true
  ·
   subst c6
   have H1 : (none) = some (r1, r2, r3, r4, r5, r6) := by rw [if_pos rfl] at H; exact H
   clear H
   have H := H1
   clear H1
   exact absurd H (by simp)
  ·
   replace c6 := Bool.eq_false_iff.mpr c6
   subst c6
   have H1 : ((slices_Max_int.f l0).bind fun t209 => ((slices_Min_int.f l0).bind fun t210 => (if (wrap64 (t209 - t210)) ≥ 65536 then (none) else ((slices_Min_int.f l0).bind fun t211 => ((slices_Max_int.f l0).bind fun t212 => ((dom_room.f t211 t212).bind fun bt213 => (dom_Of.l0 k l0 (l0.length : Int) 0 bt213.1 bt213.2.1 bt213.2.2.1 bt213.2.2.2.1 bt213.2.2.2.2))))))) = some (r1, r2, r3, r4, r5, r6) := by rw [if_neg (show ¬ (false = true) by decide)] at H; exact H
   clear H
   have H := H1
   clear H1
   replace H := Option.bind_eq_some_iff.mp H
   obtain ⟨t209, A70, H⟩ := H
   replace H : ((slices_Min_int.f l0).bind fun t210 => (if (wrap64 (t209 - t210)) ≥ 65536 then (none) else ((slices_Min_int.f l0).bind fun t211 => ((slices_Max_int.f l0).bind fun t212 => ((dom_room.f t211 t212).bind fun bt213 => (dom_Of.l0 k l0 (l0.length : Int) 0 bt213.1 bt213.2.1 bt213.2.2.1 bt213.2.2.2.1 bt213.2.2.2.2)))))) = some (r1, r2, r3, r4, r5, r6) := H
   have A7 := Aside0.mk A70
   clear A70
   replace H := Option.bind_eq_some_iff.mp H
   obtain ⟨t210, A80, H⟩ := H
   replace H : (if (wrap64 (t209 - t210)) ≥ 65536 then (none) else ((slices_Min_int.f l0).bind fun t211 => ((slices_Max_int.f l0).bind fun t212 => ((dom_room.f t211 t212).bind fun bt213 => (dom_Of.l0 k l0 (l0.length : Int) 0 bt213.1 bt213.2.1 bt213.2.2.1 bt213.2.2.2.1 bt213.2.2.2.2))))) = some (r1, r2, r3, r4, r5, r6) := H
   have A8 := Aside0.mk A80
   clear A80
   by_cases c9 : (wrap64 (t209 - t210)) ≥ 65536
   ·
    rw [if_pos c9] at H
    exact absurd H (by simp)
   ·
    rw [if_neg c9] at H
    have c9b0 : decide (65536 ≤ (wrap64 (t209 - t210))) = false := decide_eq_false c9
    clear c9
    replace H := Option.bind_eq_some_iff.mp H
    obtain ⟨t211, A100, H⟩ := H
    replace H : ((slices_Max_int.f l0).bind fun t212 => ((dom_room.f t211 t212).bind fun bt213 => (dom_Of.l0 k l0 (l0.length : Int) 0 bt213.1 bt213.2.1 bt213.2.2.1 bt213.2.2.2.1 bt213.2.2.2.2))) = some (r1, r2, r3, r4, r5, r6) := H
    have A10 := Aside0.mk A100
    clear A100
    replace H := Option.bind_eq_some_iff.mp H
    obtain ⟨t212, A110, H⟩ := H
    replace H : ((dom_room.f t211 t212).bind fun bt213 => (dom_Of.l0 k l0 (l0.length : Int) 0 bt213.1 bt213.2.1 bt213.2.2.1 bt213.2.2.2.1 bt213.2.2.2.2)) = some (r1, r2, r3, r4, r5, r6) := H
    have A11 := Aside0.mk A110
    clear A110
    replace H := Option.bind_eq_some_iff.mp H
    obtain ⟨⟨t213, t214, t217, t218, t219⟩, A120, H⟩ := H
    replace H : (dom_Of.l0 k l0 (l0.length : Int) 0 t213 t214 t217 t218 t219) = some (r1, r2, r3, r4, r5, r6) := H
    have A12 := Aside0.mk A120
    clear A120
    have H' := Aside0.mk H
    clear H
    go_enter Tryz.func35, Tryz.ntmps35
    go_wp2_with (first | ((with_reducible refine gate_dst (N := 2) rfl ?_); refine bxe_ (N := 2) (cs := #[.int .i64 0, .slice none 0 0, .int .i64 0, .int .i64 0, .int .i64 0]) (t := 61) ?_; intro gb207 hg w13 hbox hb; have BK207 := Aside0.mk (hbox); have GW207 := Aside0.mk (by rw [hg]; exact (below_size bel_) : w.heap.size ≤ gb207); have GE207 := GW207; replace HB := Aside0.mk (below_step bel_ hb); clear hb hbox hg) | ((with_reducible refine gate_callee (f := 71) rfl ?_); refine goesL_ (some 14) rfl rfl Tryz.func71 (by kernel_rfl) rfl #[.slice A0 l0.length c0, .func (.func 72) #[] #[]] rfl ar_ ?_; (with_reducible refine (slices_ContainsFunc_int_int_71_at_dom_Of_1.calls k _ _ l0 false _ ?_ ?_ A5.out).mono ?_); exact ca_ ((Kd.C_below HR0.out HB.out)); exact HC0.out; rintro e w' ⟨rfl, ⟨nd, rfl⟩⟩; refine ⟨_, rfl, ?_⟩; (try (rw [drewN_self w13]; generalize hq_ : World.drewN w13 _ = w13; replace BK207 : Aside0 (w13.heap[gb207]? = some (.cells #[.int .i64 0, .slice none 0 0, .int .i64 0, .int .i64 0, .int .i64 0] 61 (0, 0))) := ⟨by rw [← hq_]; exact (bk_ BK207.out)⟩; replace HB : Aside0 (Below w.heap.size w w13) := ⟨by rw [← hq_]; exact bel_⟩; clear hq_)); (try (obtain ⟨_, _, _, _, _, _, _, _, _, _⟩ := cel5_ BK207.out))) | ((with_reducible refine gate_callee (f := 73) rfl ?_); refine goesL_ (some 18) rfl rfl Tryz.func73 (by kernel_rfl) rfl #[.slice A0 l0.length c0] rfl ar_ ?_; (with_reducible refine (slices_Max_int.calls _ _ l0 t209 _ ?_ ?_ A7.out).mono ?_); exact ca_ ((Kd.C_below HR0.out HB.out)); exact HC0.out; rintro e w' ⟨rfl, ⟨nd, rfl⟩⟩; refine ⟨_, rfl, ?_⟩; (try (rw [drewN_self w13]; generalize hq_ : World.drewN w13 _ = w13; replace BK207 : Aside0 (w13.heap[gb207]? = some (.cells #[.int .i64 0, .slice none 0 0, .int .i64 0, .int .i64 0, .int .i64 0] 61 (0, 0))) := ⟨by rw [← hq_]; exact (bk_ BK207.out)⟩; replace HB : Aside0 (Below w.heap.size w w13) := ⟨by rw [← hq_]; exact bel_⟩; clear hq_)); (try (obtain ⟨_, _, _, _, _, _, _, _, _, _⟩ := cel5_ BK207.out))) | ((with_reducible refine gate_callee (f := 74) rfl ?_); refine goesL_ (some 20) rfl rfl Tryz.func74 (by kernel_rfl) rfl #[.slice A0 l0.length c0] rfl ar_ ?_; (with_reducible refine (slices_Min_int.calls _ _ l0 t210 _ ?_ ?_ A8.out).mono ?_); exact ca_ ((Kd.C_below HR0.out HB.out)); exact HC0.out; rintro e w' ⟨rfl, ⟨nd, rfl⟩⟩; refine ⟨_, rfl, ?_⟩; (try (rw [drewN_self w13]; generalize hq_ : World.drewN w13 _ = w13; replace BK207 : Aside0 (w13.heap[gb207]? = some (.cells #[.int .i64 0, .slice none 0 0, .int .i64 0, .int .i64 0, .int .i64 0] 61 (0, 0))) := ⟨by rw [← hq_]; exact (bk_ BK207.out)⟩; replace HB : Aside0 (Below w.heap.size w w13) := ⟨by rw [← hq_]; exact bel_⟩; clear hq_)); (try (obtain ⟨_, _, _, _, _, _, _, _, _, _⟩ := cel5_ BK207.out))) | ((with_reducible refine gate_callee (f := 74) rfl ?_); refine goesL_ (some 25) rfl rfl Tryz.func74 (by kernel_rfl) rfl #[.slice A0 l0.length c0] rfl ar_ ?_; (with_reducible refine (slices_Min_int.calls _ _ l0 t211 _ ?_ ?_ A10.out).mono ?_); exact ca_ ((Kd.C_below HR0.out HB.out)); exact HC0.out; rintro e w' ⟨rfl, ⟨nd, rfl⟩⟩; refine ⟨_, rfl, ?_⟩; (try (rw [drewN_self w13]; generalize hq_ : World.drewN w13 _ = w13; replace BK207 : Aside0 (w13.heap[gb207]? = some (.cells #[.int .i64 0, .slice none 0 0, .int .i64 0, .int .i64 0, .int .i64 0] 61 (0, 0))) := ⟨by rw [← hq_]; exact (bk_ BK207.out)⟩; replace HB : Aside0 (Below w.heap.size w w13) := ⟨by rw [← hq_]; exact bel_⟩; clear hq_)); (try (obtain ⟨_, _, _, _, _, _, _, _, _, _⟩ := cel5_ BK207.out))) | ((with_reducible refine gate_callee (f := 73) rfl ?_); refine goesL_ (some 27) rfl rfl Tryz.func73 (by kernel_rfl) rfl #[.slice A0 l0.length c0] rfl ar_ ?_; (with_reducible refine (slices_Max_int.calls _ _ l0 t212 _ ?_ ?_ A11.out).mono ?_); exact ca_ ((Kd.C_below HR0.out HB.out)); exact HC0.out; rintro e w' ⟨rfl, ⟨nd, rfl⟩⟩; refine ⟨_, rfl, ?_⟩; (try (rw [drewN_self w13]; generalize hq_ : World.drewN w13 _ = w13; replace BK207 : Aside0 (w13.heap[gb207]? = some (.cells #[.int .i64 0, .slice none 0 0, .int .i64 0, .int .i64 0, .int .i64 0] 61 (0, 0))) := ⟨by rw [← hq_]; exact (bk_ BK207.out)⟩; replace HB : Aside0 (Below w.heap.size w w13) := ⟨by rw [← hq_]; exact bel_⟩; clear hq_)); (try (obtain ⟨_, _, _, _, _, _, _, _, _, _⟩ := cel5_ BK207.out))) | ((with_reducible refine gate_callee (f := 75) rfl ?_); refine goesL_ (some 28) rfl rfl Tryz.func75 (by kernel_rfl) rfl #[.int .i64 t211, .int .i64 t212] rfl ar_ ?_; (with_reducible refine (dom_room.calls t211 t212 t213 t214 t217 t218 t219 _ A12.out).mono ?_); rintro e w19 ⟨v215, rfl, ho0, hb⟩; refine ⟨_, rfl, ?_⟩; have HO216 := Aside0.mk (Kd.R_lower (Kd.R_newM (M := fun k_ => (w.heap.size ≤ k_)) ho0 (below_size bel_) (fun k_ h_ => h_)) (below_size bel_)); replace BK207 := Aside0.mk (blk_below (bk_ BK207.out) hb); replace HB := Aside0.mk (below_step bel_ hb); clear hb ho0) | ((with_reducible refine gate_dst (N := 4) rfl ?_); refine bxe_ (N := 4) (cs := #[.int .i64 0, .slice none 0 0, .int .i64 0, .int .i64 0, .int .i64 0]) (t := 61) ?_; intro gb220 hg w20 hbox hb; replace HO216 := Aside0.mk (Kd.R_below (vR_ HO216.out) hb); have BK220 := Aside0.mk (hbox); have GW220 := Aside0.mk (by rw [hg]; exact (below_size bel_) : w.heap.size ≤ gb220); have GE220 := GW220; replace HB := Aside0.mk (below_step bel_ hb); have NB207_220 := Aside0.mk ((by rw [hg]; exact Nat.ne_of_lt (blk_lt (bk_ BK207.out)) : gb207 ≠ gb220)); have NB220_207 := Aside0.mk ((by rw [hg]; exact Nat.ne_of_gt (blk_lt (bk_ BK207.out)) : gb220 ≠ gb207)); replace BK207 := Aside0.mk (blk_below (bk_ BK207.out) hb); clear hb hbox hg; have hnb21 := NB220_207.out; have hnc21 := NB207_220.out; obtain ⟨hcz22_0, hcz22_1, hcz22_2, hcz22_3, hcz22_4, hfz22_0, hfz22_1, hfz22_2, hfz22_3, hfz22_4⟩ := cel5_ BK220.out; obtain ⟨Ao23, co23, eo23⟩ := Kd.R_slice HO216.out; subst eo23))
    go_loopg [31] k (fun kq v31 w' => ∃ (x31_1 : Int) (x221001_1 : List Int) (u221001 : Value), v31 = .int .i64 x31_1 ∧ Aside0 (dom_Of.l0 kq l0 (l0.length : Int) x31_1 t213 x221001_1 t217 t218 t219 = some (r1, r2, r3, r4, r5, r6)) ∧ Aside0 (kq ≤ k) ∧ Aside0 (Kd.R (Kd.int .u64) 86 w' w.heap.size (fun k_ => (w.heap.size ≤ k_)) u221001 x221001_1) ∧ Aside0 (w'.heap[gb207]? = some (.cells #[.int .i64 0, (.slice none 0 0), .int .i64 0, .int .i64 0, .int .i64 0] 61 (0, 0))) ∧ Aside0 (w'.heap[gb220]? = some (.cells #[.int .i64 t213, u221001, .int .i64 t217, .int .i64 t218, .int .i64 t219] 61 (0, 0))) ∧ Aside0 (Below w.heap.size w w'))
    case atStart => exact ⟨(0), (t214), (.slice Ao23 t214.length co23), eq_, H', ⟨Nat.le_refl _⟩, ⟨by refine vR_ ?_; exact Kd.R_mono (Kd.R_far (Kd.R_far (Kd.R_far (Kd.R_far (Kd.R_far (Kd.R_types HO216.out BK220.out (by decide)) (fun _ hk => hk.2) _) (fun _ hk => hk.2) _) (fun _ hk => hk.2) _) (fun _ hk => hk.2) _) (fun _ hk => hk.2) _) (fun _ hk => hk.1.1)⟩, ⟨by refine bk_ ?_; refine blk_far ?_ NB207_220.out _; refine bk_ ?_; refine blk_far ?_ NB207_220.out _; refine bk_ ?_; refine blk_far ?_ NB207_220.out _; refine bk_ ?_; refine blk_far ?_ NB207_220.out _; refine bk_ ?_; refine blk_far ?_ NB207_220.out _; refine bk_ ?_; exact BK207.out⟩, ⟨by refine bk_ ?_; refine blk_put (cs := #[.int .i64 t213, .slice Ao23 t214.length co23, .int .i64 t217, .int .i64 t218, .int .i64 0]) ?_ 4 _ rfl; refine bk_ ?_; refine blk_put (cs := #[.int .i64 t213, .slice Ao23 t214.length co23, .int .i64 t217, .int .i64 0, .int .i64 0]) ?_ 3 _ rfl; refine bk_ ?_; refine blk_put (cs := #[.int .i64 t213, .slice Ao23 t214.length co23, .int .i64 0, .int .i64 0, .int .i64 0]) ?_ 2 _ rfl; refine bk_ ?_; refine blk_put (cs := #[.int .i64 t213, .slice none 0 0, .int .i64 0, .int .i64 0, .int .i64 0]) ?_ 1 _ rfl; refine bk_ ?_; refine blk_put (cs := #[.int .i64 0, .slice none 0 0, .int .i64 0, .int .i64 0, .int .i64 0]) ?_ 0 _ rfl; refine bk_ ?_; exact BK220.out⟩, ⟨bel_⟩⟩
    case round =>
     clear H'
     try clear c2
     try clear c2b0
     try clear c2b1
     try clear c2b2
     try clear p2
     try clear c3
     try clear c6
     try clear p6
     try clear c7
     try clear c9
     try clear c9b0
     try clear c21
     try clear hcz22_0
     try clear hcz22_1
     try clear hcz22_2
     try clear hcz22_3
     try clear hcz22_4
     try clear hcz4_0
     try clear hcz4_1
     try clear hcz4_2
     try clear hcz4_3
     try clear hcz4_4
     try clear hfz22_0
     try clear hfz22_1
     try clear hfz22_2
     try clear hfz22_3
     try clear hfz22_4
     try clear hfz4_0
     try clear hfz4_1
     try clear hfz4_2
     try clear hfz4_3
     try clear hfz4_4
     obtain ⟨x31_1, x221001_1, u221001, rfl, HA, HK1, HO_221001, BK207, BK220, HB⟩ := hrel
     cases gk with
     | zero => exact absurd HA.out (by simp [dom_Of.l0])
     | succ k1 =>
      have H := HA.out
      clear HA
      simp only [dom_Of.l0] at H
      by_cases c24 : x31_1 < (l0.length : Int)
      ·
       rw [if_pos c24] at H
       have c24b0 : decide (x31_1 < (l0.length : Int)) = true := decide_eq_true c24
       clear c24
       by_cases c25 : 0 ≤ x31_1
       ·
        rw [if_pos c25] at H
        have c25b0 : decide (0 ≤ x31_1) = true := decide_eq_true c25
        clear c25
        by_cases c26 : x31_1 < (l0.length : Int)
        ·
         rw [if_pos c26] at H
         have c26b0 : decide (x31_1 < (l0.length : Int)) = true := decide_eq_true c26
         clear c26
         obtain ⟨ji27, hji27⟩ : ∃ j_ : Int, (wrap64 (Int.tdiv (wrap64 ((rd l0 x31_1) - t213)) 64)) = j_ := ⟨_, rfl⟩
         replace H : (if 0 ≤ (ji27) then (if (ji27) < (x221001_1.length : Int) then (if 0 ≤ (Int.tmod (wrap64 ((rd l0 x31_1) - t213)) 64) then (dom_Of.l0 k1 l0 (l0.length : Int) (wrap64 (x31_1 + 1)) t213 (x221001_1.set ((ji27) : Int).toNat (Go.bits .or .u64 (rd x221001_1 (ji27)) (shl .u64 1 (Int.tmod (wrap64 ((rd l0 x31_1) - t213)) 64)))) t217 t218 t219) else (none)) else (none)) else (none)) = some (r1, r2, r3, r4, r5, r6) := by first | (rw [hji27] at H; exact H) | (simp only [hji27] at H ⊢; exact H)
         have hji27w : (IntKind.i64.wrap (Int.tdiv (wrap64 ((rd l0 x31_1) - t213)) 64)) = ji27 := (i64_w _).trans hji27
         by_cases c28 : 0 ≤ (ji27)
         ·
          rw [if_pos c28] at H
          have c28b0 : decide (0 ≤ (ji27)) = true := decide_eq_true c28
          clear c28
          by_cases c29 : (ji27) < (x221001_1.length : Int)
          ·
           rw [if_pos c29] at H
           have c29b0 : decide ((ji27) < (x221001_1.length : Int)) = true := decide_eq_true c29
           clear c29
           obtain ⟨ji30, hji30⟩ : ∃ j_ : Int, (Int.tmod (wrap64 ((rd l0 x31_1) - t213)) 64) = j_ := ⟨_, rfl⟩
           replace H : (if 0 ≤ (ji30) then (dom_Of.l0 k1 l0 (l0.length : Int) (wrap64 (x31_1 + 1)) t213 (x221001_1.set ((ji27) : Int).toNat (Go.bits .or .u64 (rd x221001_1 (ji27)) (shl .u64 1 (ji30)))) t217 t218 t219) else (none)) = some (r1, r2, r3, r4, r5, r6) := by first | (rw [hji30] at H; exact H) | (simp only [hji30] at H ⊢; exact H)
           by_cases c31 : 0 ≤ (ji30)
           ·
            rw [if_pos c31] at H
            have c31b0 := eq_true c31
            have c31b1 : decide (0 ≤ (ji30)) = true := decide_eq_true c31
            clear c31
            obtain ⟨ji32, hji32⟩ : ∃ j_ : Int, (shl .u64 1 (ji30)) = j_ := ⟨_, rfl⟩
            replace H : (dom_Of.l0 k1 l0 (l0.length : Int) (wrap64 (x31_1 + 1)) t213 (x221001_1.set ((ji27) : Int).toNat (Go.bits .or .u64 (rd x221001_1 (ji27)) (ji32))) t217 t218 t219) = some (r1, r2, r3, r4, r5, r6) := by first | (rw [hji32] at H; exact H) | (simp only [hji32] at H ⊢; exact H)
            have hji32_ : (IntKind.u64.wrap (1 * 2 ^ min (ji30).toNat 64)) = ji32 := hji32
            have hji32z : (ji30) ≤ 64 → (IntKind.u64.wrap (1 * 2 ^ (ji30).toNat)) = ji32 := shl_small hji32
            have hji32u : (IntKind.u64.wrap (2 ^ min (ji30).toNat 64)) = ji32 := by have h_ := hji32_; rw [Int.one_mul] at h_; exact h_
            have hji32v : (ji30) ≤ 64 → (IntKind.u64.wrap (2 ^ (ji30).toNat)) = ji32 := fun hle_ => by have h_ := hji32z hle_; rw [Int.one_mul] at h_; exact h_
            obtain ⟨y223, hy223⟩ : ∃ y_ : List Int, y_ = (x221001_1.set ((ji27) : Int).toNat (Go.bits .or .u64 (rd x221001_1 (ji27)) (ji32))) := ⟨_, rfl⟩
            replace H : (dom_Of.l0 k1 l0 (l0.length : Int) (wrap64 (x31_1 + 1)) t213 y223 t217 t218 t219) = some (r1, r2, r3, r4, r5, r6) := by first | (rw [hy223]; with_reducible exact H) | (have H2_ := (Option.bind_some _ _).symm.trans H; rw [hy223]; with_reducible exact H2_) | (have H2_ := (Option.bind_some _ _).symm.trans H; with_reducible exact H2_) | with_reducible exact H | (rw [hy223]; exact H) | exact H
            have Ny223 := Aside0.mk hy223
            clear hy223
            have H' := Aside0.mk H
            clear H
            have p221 : 0 ≤ (x31_1 : Int) := dq_
            have q221 : x31_1 < (l0.length : Int) := dq_
            obtain ⟨ad221, e221, hx221_0⟩ := Kd.at_int HR0.out x31_1 p221 q221
            cases e221
            replace hx221_0 := (HB.out.cell (World.block_lt_of_cell? w _ hx221_0)).trans hx221_0
            replace p221 := eq_true p221
            replace q221 := eq_true q221
            try go_wp2
            replace HO_221001 := Aside0.mk (Kd.R_drew HO_221001.out)
            replace BK207 := Aside0.mk (blk_drew BK207.out)
            replace BK220 := Aside0.mk (blk_drew BK220.out)
            replace HB := Aside0.mk (below_drew1 HB.out)
            obtain ⟨Ao35, co35, eo35⟩ := Kd.R_slice HO_221001.out
            (first | subst eo35 | (injection eo35 with f1_ f2_ f3_; have f4_ := f1_.symm; have f5_ := f3_.symm; clear f1_ f2_ f3_; subst f4_; subst f5_))
            have p222 : 0 ≤ ((ji27) : Int) := dq_
            have q222 : (ji27) < (x221001_1.length : Int) := dq_
            obtain ⟨ad222, e222, hx222_0⟩ := Kd.at_int (Kd.R_reads' HO_221001.out).2.2 (ji27) p222 q222
            cases e222
            replace p222 := eq_true p222
            replace q222 := eq_true q222
            have p33 : 0 ≤ ((ji27) : Int) := dq_
            have q33 : ((ji27) : Int) < ((x221001_1.length : Int) : Int) := dq_
            obtain ⟨go33, co33, eo33, gb33, gl33, cl33, HG33⟩ := Kd.R_form HO_221001.out (by omega)
            (first | cases eo33 | (injection eo33 with ea_ en_ ec_; (first | subst ea_ | (injection ea_ with ea_; subst ea_)); subst ec_; clear en_))
            have GB33 := Aside0.mk gb33
            have GG33 := Aside0.mk HG33
            clear gb33 gl33 HG33
            (first | simp only [add_plain] at hx222_0 | skip)
            obtain ⟨hx33_0, hf33_0⟩ := Kd.R_celln 0 HO_221001.out ((ji27) : Int) p33 q33
            replace p33 := eq_true p33
            replace q33 := eq_true q33
            have HP36 := Kd.R_putn HO_221001.out ((ji27) : Int) (Go.bits .or .u64 (rd x221001_1 (ji27)) (ji32))
            rw [← Ny223.out] at HP36
            have HQ36 := Aside0.mk HP36
            clear HP36
            refine start_ (n := 18) (S := fun w' => w'.cell? ⟨gb220, 0, none⟩ = some (.int .i64 t213) ∧ w'.cell? ⟨gb220, 1, none⟩ = some (.slice (some ⟨go33, 0, none⟩) x221001_1.length co35) ∧ w'.cell? ⟨gb220, 2, none⟩ = some (.int .i64 t217) ∧ w'.cell? ⟨gb220, 3, none⟩ = some (.int .i64 t218) ∧ w'.cell? ⟨gb220, 4, none⟩ = some (.int .i64 t219) ∧ w'.cell? ⟨go33, ((ji27)).toNat, none⟩ = some (.int .u64 (rd x221001_1 (ji27)))) (ds := [17]) #[false, false, false, false, false, false, false, false, false, false, false, false, false, false, false, false, false, false] (by kernel_rfl) rfl rfl ⟨(blk_cell BK220.out 0).trans rfl, (blk_cell BK220.out 1).trans rfl, (blk_cell BK220.out 2).trans rfl, (blk_cell BK220.out 3).trans rfl, (blk_cell BK220.out 4).trans rfl, hx222_0⟩ (fun hHeld => ?_); refine with_tabW dom_Of.tab11 dom_Of.bits11 (fun HT_ HW_ => ?_)
            generalize wr.drew = w34 at HO_221001 BK207 BK220 HB GG33 HQ36 hf33_0 hx222_0 hx33_0 hHeld ⊢
            refine pur_ (i := 0) (N := some 35) #[true, false, false, false, false, false, false, false, false, false, false, false, false, false, false, false, false, false] (any_of HT_.out (by kernel_rfl)) ?_
            refine pur_ (i := 2) (N := some 37) #[true, false, true, false, false, false, false, false, false, false, false, false, false, false, false, false, false, false] (any_of HT_.out (by kernel_rfl)) ?_
            refine pur_ (i := 3) (N := some 38) #[true, false, true, true, false, false, false, false, false, false, false, false, false, false, false, false, false, false] (any_of HT_.out (by kernel_rfl)) ?_
            refine pur_ (i := 9) (N := some 44) #[true, false, true, true, false, false, false, false, false, true, false, false, false, false, false, false, false, false] (any_of HT_.out (by kernel_rfl)) ?_
            refine pur_ (i := 10) (N := some 45) #[true, false, true, true, false, false, false, false, false, true, true, false, false, false, false, false, false, false] (any_of HT_.out (by kernel_rfl)) ?_
            refine take_ (i := 1) (N := some 36) (v := ?_) (a' := ?_) #[true, true, true, true, false, false, false, false, false, true, true, false, false, false, false, false, false, false] rfl rfl (take_ofW HT_.out HW_.out (by kernel_rfl)) (fun _ _ _ h => h) (Or.inl ⟨by rfl, ?_⟩) hHeld ?_ ?_
            rotate_left
            ·
             rintro w' ⟨s0, s1, s2, s3, s4, s5⟩
             go_simp
             with_reducible rfl
            rotate_left
            ·
             simp only [Act.put, List.setIfInBounds_toArray, List.set_cons_zero, List.set_cons_succ, i64_w, i32_w]
             rfl
            refine take_ (i := 4) (N := some 39) (v := ?_) (a' := ?_) #[true, true, true, true, true, false, false, false, false, true, true, false, false, false, false, false, false, false] rfl rfl (take_ofW HT_.out HW_.out (by kernel_rfl)) (fun _ _ _ h => h) (Or.inl ⟨by rfl, ?_⟩) hHeld ?_ ?_
            rotate_left
            ·
             rintro w' ⟨s0, s1, s2, s3, s4, s5⟩
             go_simp
             with_reducible rfl
            rotate_left
            ·
             simp only [Act.put, List.setIfInBounds_toArray, List.set_cons_zero, List.set_cons_succ, i64_w, i32_w]
             rfl
            refine pur_ (i := 5) (N := some 40) #[true, true, true, true, true, true, false, false, false, true, true, false, false, false, false, false, false, false] (any_of HT_.out (by kernel_rfl)) ?_
            refine pur_ (i := 6) (N := some 41) #[true, true, true, true, true, true, true, false, false, true, true, false, false, false, false, false, false, false] (any_of HT_.out (by kernel_rfl)) ?_
            refine pur_ (i := 7) (N := some 42) #[true, true, true, true, true, true, true, true, false, true, true, false, false, false, false, false, false, false] (any_of HT_.out (by kernel_rfl)) ?_
            refine take_ (i := 8) (N := some 43) (v := ?_) (a' := ?_) #[true, true, true, true, true, true, true, true, true, true, true, false, false, false, false, false, false, false] rfl rfl (take_ofW HT_.out HW_.out (by kernel_rfl)) (fun _ _ _ h => h) (Or.inl ⟨by rfl, ?_⟩) hHeld ?_ ?_
            rotate_left
            ·
             rintro w' ⟨s0, s1, s2, s3, s4, s5⟩
             go_simp
             with_reducible rfl
            rotate_left
            ·
             simp only [Act.put, List.setIfInBounds_toArray, List.set_cons_zero, List.set_cons_succ, i64_w, i32_w]
             rfl
            refine take_ (i := 11) (N := some 46) (v := ?_) (a' := ?_) #[true, true, true, true, true, true, true, true, true, true, true, true, false, false, false, false, false, false] rfl rfl (take_ofW HT_.out HW_.out (by kernel_rfl)) (fun _ _ _ h => h) (Or.inl ⟨by rfl, ?_⟩) hHeld ?_ ?_
            rotate_left
            ·
             rintro w' ⟨s0, s1, s2, s3, s4, s5⟩
             go_simp
             with_reducible rfl
            rotate_left
            ·
             simp only [Act.put, List.setIfInBounds_toArray, List.set_cons_zero, List.set_cons_succ, i64_w, i32_w]
             rfl
            refine pur_ (i := 12) (N := some 47) #[true, true, true, true, true, true, true, true, true, true, true, true, true, false, false, false, false, false] (any_of HT_.out (by kernel_rfl)) ?_
            refine pur_ (i := 13) (N := some 48) #[true, true, true, true, true, true, true, true, true, true, true, true, true, true, false, false, false, false] (any_of HT_.out (by kernel_rfl)) ?_
            refine pur_ (i := 14) (N := some 49) #[true, true, true, true, true, true, true, true, true, true, true, true, true, true, true, false, false, false] (any_of HT_.out (by kernel_rfl)) ?_
            refine pur_ (i := 15) (N := some 50) #[true, true, true, true, true, true, true, true, true, true, true, true, true, true, true, true, false, false] (any_of HT_.out (by kernel_rfl)) ?_
            refine pur_ (i := 16) (N := some 51) #[true, true, true, true, true, true, true, true, true, true, true, true, true, true, true, true, true, false] (any_of HT_.out (by kernel_rfl)) ?_
            refine last_ (i := 17) (N := none) #[true, true, true, true, true, true, true, true, true, true, true, true, true, true, true, true, true, true] rfl rfl (one_of HT_.out (by kernel_rfl)) (by decide) (fun K hK => ?_)
            refine skip_ (w1 := ?_) (by rfl) rfl ?_ ?_
            rotate_left
            ·
             go_simp
             rfl
            refine hK.out _ _ ?_
            clear hK K
            refine done_ (done_of HT_.out (by kernel_rfl)) ?_
            try go_wp2
            go_roundg k1
            case measure => have := HK1.out; omega
            case rel => exact ⟨(wrap64 (x31_1 + 1)), (y223), (.slice (some ⟨go33, 0, none⟩) x221001_1.length co35), eq_, H', ⟨by have := HK1.out; omega⟩, ⟨by refine vR_ ?_; exact HQ36.out⟩, ⟨by refine bk_ ?_; refine blk_far ?_ (by have h_ := Kd.R_ne HO_221001.out BK207.out (by decide); intro e_; exact h_ (by rw [e_]; rfl)) _; refine bk_ ?_; exact BK207.out⟩, ⟨by refine bk_ ?_; refine blk_far ?_ (by have h_ := Kd.R_ne HO_221001.out BK220.out (by decide); intro e_; exact h_ (by rw [e_]; rfl)) _; refine bk_ ?_; exact BK220.out⟩, ⟨by repeat (first | (with_reducible first | exact HB.out | apply below_alloc | apply pw_below_drewN | apply below_drew1 | refine below_set ?_ GB33.out | refine below_set ?_ GE207.out | refine below_set ?_ GE220.out) | exact HB.out)⟩⟩
           ·
            rw [if_neg c31] at H
            exact absurd H (by simp)
          ·
           rw [if_neg c29] at H
           exact absurd H (by simp)
         ·
          rw [if_neg c28] at H
          exact absurd H (by simp)
        ·
         rw [if_neg c26] at H
         exact absurd H (by simp)
       ·
        rw [if_neg c25] at H
        exact absurd H (by simp)
      ·
       rw [if_neg c24] at H
       have c24b0 : decide (x31_1 < (l0.length : Int)) = false := decide_eq_false c24
       clear c24
       replace H := Option.bind_eq_some_iff.mp H
       obtain ⟨⟨t224, t225, t228, t229, t230⟩, A370, H⟩ := H
       replace H : (some (t224, t225, t228, t229, t230, 0)) = some (r1, r2, r3, r4, r5, r6) := H
       have A37 := Aside0.mk A370
       clear A370
       simp only [Option.some.injEq, Prod.mk.injEq] at H
       obtain ⟨rfl, rfl, rfl, rfl, rfl, rfl⟩ := H
       have hnb38 := NB220_207.out
       have hnc38 := NB207_220.out
       obtain ⟨_, _, _, _, _, _, _, _, _, _⟩ := cel5_ BK220.out
       obtain ⟨Ao40, co40, eo40⟩ := Kd.R_slice HO_221001.out
       subst eo40
       go_wp2_with (first | ((with_reducible refine gate_callee (f := 76) rfl ?_); refine goesL_ (some 57) rfl rfl Tryz.func76 (by kernel_rfl) rfl #[.int .i64 t213, .slice Ao40 x221001_1.length co40] rfl ar_ ?_; (with_reducible refine (dom_made.calls k1 t213 (fun k_ => some k_ = (.slice Ao40 x221001_1.length co40 : Value).ownBlock) _ _ x221001_1 t224 t225 t228 t229 t230 _ ?_ ?_ A37.out).mono ?_); exact Kd.R_V (Kd.R_tight rfl (Kd.R_types (Kd.R_types (HO_221001.out) BK207.out (by decide)) BK220.out (by decide))); exact ca_ ((Kd.C_below HRtab.out HB.out)); rintro e w41 ⟨v226, rfl, ho0, hb⟩; refine ⟨_, rfl, ?_⟩; have HO227 := Aside0.mk (Kd.V_lower (Kd.V_mono (ok' := fun k_ => (w.heap.size ≤ k_) ∧ k_ ≠ gb207 ∧ k_ ≠ gb220) ho0 (fun k_ hk_ => ⟨Or.elim hk_ (fun hs_ => ((Kd.R_types (Kd.R_types (HO_221001.out) BK207.out (by decide)) BK220.out (by decide)).1 k_ hs_.symm).1.1) (fun hn_ => (Nat.le_trans (below_size bel_) hn_)), Or.elim hk_ (fun hs_ => ((Kd.R_types (Kd.R_types (HO_221001.out) BK207.out (by decide)) BK220.out (by decide)).1 k_ hs_.symm).1.2) (fun hn_ => (Kd.freshB (bk_ BK207.out) k_ hn_)), Or.elim hk_ (fun hs_ => ((Kd.R_types (Kd.R_types (HO_221001.out) BK207.out (by decide)) BK220.out (by decide)).1 k_ hs_.symm).2) (fun hn_ => (Kd.freshB (bk_ BK220.out) k_ hn_))⟩)) (below_size bel_)); replace BK207 := Aside0.mk (blk_below (bk_ BK207.out) hb); replace HB := Aside0.mk (below_step bel_ hb); clear hb ho0; obtain ⟨_, _, _, _, _, _, _, _, _, _⟩ := cel5_ BK207.out; obtain ⟨Ao43, co43, eo43⟩ := Kd.V_slice HO227.out; subst eo43))
       refine bodyPost_ret (results_ct rfl _ _ gb207 61 #[.int .i64 t224, .slice Ao43 t225.length co43, .int .i64 t228, .int .i64 t229, .int .i64 t230] (0, 0) _ rfl (by refine bk_ ?_; refine blk_put (cs := #[.int .i64 t224, .slice Ao43 t225.length co43, .int .i64 t228, .int .i64 t229, .int .i64 0]) ?_ 4 _ rfl; refine bk_ ?_; refine blk_put (cs := #[.int .i64 t224, .slice Ao43 t225.length co43, .int .i64 t228, .int .i64 0, .int .i64 0]) ?_ 3 _ rfl; refine bk_ ?_; refine blk_put (cs := #[.int .i64 t224, .slice Ao43 t225.length co43, .int .i64 0, .int .i64 0, .int .i64 0]) ?_ 2 _ rfl; refine bk_ ?_; refine blk_put (cs := #[.int .i64 t224, .slice none 0 0, .int .i64 0, .int .i64 0, .int .i64 0]) ?_ 1 _ rfl; refine bk_ ?_; refine blk_put (cs := #[.int .i64 0, .slice none 0 0, .int .i64 0, .int .i64 0, .int .i64 0]) ?_ 0 _ rfl; refine bk_ ?_; exact BK207.out) Tryz.underlying61 rfl (by kernel_rfl)) rfl ?_
       exact ⟨_, by first | rfl | (simp [errW_none, errW_some] <;> rfl) | (simp [*, errW_none, errW_some] <;> rfl), by refine vV_ ?_; exact Kd.V_mono (Kd.V_far (Kd.V_far (Kd.V_far (Kd.V_far (Kd.V_far (Kd.V_mono HO227.out (fun k_ hk => (⟨hk, hk.2.1⟩ : _ ∧ k_ ≠ gb207))) (fun _ hk => hk.2) _) (fun _ hk => hk.2) _) (fun _ hk => hk.2) _) (fun _ hk => hk.2) _) (fun _ hk => hk.2) _) (fun _ hk => hk.1.1), bel_⟩

end Go.Proofs.YtiofjnhmogeenaaGreatDoor.XExtFixed
