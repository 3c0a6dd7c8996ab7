-- by xprint.py, a program of this session, over the kit's print
import Derived.Test.YtllnjembdmjljaaDoorXOrderDrawsx0
import Derived.Test.YtllnjembdmjljaaDoorXOrderDrawsx8
namespace Go.Proofs.YtllnjembdmjljaaDoor.XOrderDraws
open Go.RowKit Go.Proofs.YtllnjembdmjljaaDoorW.PrintWords Go.Proofs.YtllnjembdmjljaaDoorW.PrintLast Go.Proofs.YtllnjembdmjljaaDoorW.PrintMore
attribute [local go_sem] max2_int min2_int max_two min_two max_three min_three max_four min_four   -- for this text's walks alone
set_option linter.unusedVariables false
set_option linter.unusedSimpArgs false

/-! ### order_Order_Value: function 15 -/
def order_Order_Value.f (a0_0 : Int) (a0_1 : Bool) (a0_2 : Bool) (a0_3 : Bool) (l0_4 : List (S95)) (l0_5 : List (List Int)) (a0_6 : Int) (a1 : Int) (a2_0 : Int) (l2_1 : List Int) (a2_2 : Int) (a2_3 : Int) (a2_4 : Int) : Option (Int) := (order_Order_of.f a0_0 a0_1 a0_2 a0_3 l0_4 l0_5 a0_6 a1).bind fun t271 => (if t271 = true then (if a0_2 = true then (none) else (if a0_3 = true then (none) else ((dom_Dom_Min.f a2_0 l2_1 a2_2 a2_3 a2_4).bind fun t272 => (some t272)))) else (none))
def order_Order_Value.T2 : Bool × List (List Nat × List Nat) := (true, [([], []), ([0], [0]), ([1], [1]), ([2], [2]), ([3, 2], [2, 3]), ([4, 2], [2, 4]), ([5, 2], [2, 5]), ([6, 2], [2, 6]), ([2, 7], [2, 7]), ([8, 2], [8]), ([9], [9]), ([10, 9], [9, 10]), ([11, 9], [9, 11]), ([12, 9], [9, 12]), ([9, 13], [9, 13]), ([14, 9], [14]), ([15], [15]), ([15], [15]), ([17, 15], [15, 17]), ([18, 15], [15, 18]), ([19, 15], [15, 19]), ([16, 20, 15, 15], [15, 16, 20]), ([15, 21], [15, 21]), ([22, 21], [22])])
def order_Order_Value.B2 : List Nat := [0, 1, 3, 7, 15, 31, 63, 127, 255, 511, 1023, 2047, 4095, 8191, 16383, 32767, 65535, 65535, 196607, 458751, 983039, 2097151, 4194303, 8388607]
theorem order_Order_Value.tab2 : rtab .any (opsOf Tryd.f15 2) = order_Order_Value.T2 := by kernel_rfl
theorem order_Order_Value.bits2 : waitsOk order_Order_Value.T2.2 order_Order_Value.B2 = true := by kernel_rfl
set_option maxHeartbeats 8000000 in
set_option maxRecDepth 100000 in
theorem order_Order_Value.calls (G0 : Nat) (a0_0 : Int) (a0_1 : Bool) (a0_2 : Bool) (a0_3 : Bool) (A0_4 : Option Addr) (c0_4 : Nat) (l0_4 : List (S95)) (A0_5 : Option Addr) (c0_5 : Nat) (l0_5 : List (List Int)) (a0_6 : Int) (a1 : Int) (a2_0 : Int) (A2_1 : Option Addr) (c2_1 : Nat) (l2_1 : List Int) (a2_2 : Int) (a2_3 : Int) (a2_4 : Int) (r : Int) (w : World) (hbx0 : w.heap[G0]? = some (.cells #[.int .i64 a0_0, .bool a0_1, .bool a0_2, .bool a0_3, .slice A0_4 l0_4.length c0_4, .slice A0_5 l0_5.length c0_5, .int .i64 a0_6] 89 (0, 0))) (hr0_4 : Kd.C k95 w A0_4 l0_4.length l0_4) (hc0_4 : l0_4.length ≤ c0_4) (hr0_5 : Kd.C (Kd.slice 3 (Kd.int .i64)) w A0_5 l0_5.length l0_5) (hc0_5 : l0_5.length ≤ c0_5) (hr2_1 : Kd.C (Kd.int .u64) w A2_1 l2_1.length l2_1) (hc2_1 : l2_1.length ≤ c2_1) (h : order_Order_Value.f a0_0 a0_1 a0_2 a0_3 l0_4 l0_5 a0_6 a1 a2_0 l2_1 a2_2 a2_3 a2_4 = some r) :
    Calls Tryd.prog 15 #[.pointer (some ⟨G0, 0, none⟩), .int .i64 a1, .agg #[.int .i64 a2_0, .slice A2_1 l2_1.length c2_1, .int .i64 a2_2, .int .i64 a2_3, .int .i64 a2_4]] w fun e w' => e = .returned (.int .i64 r) ∧ Below w.heap.size w w' := by
  have hu89 := Tryd.underlying89
  have hu56 := Tryd.underlying56
  have BKG0 := Aside0.mk hbx0
  clear hbx0
  have HR0_4 := Aside0.mk hr0_4
  have HC0_4 := Aside0.mk hc0_4
  clear hr0_4 hc0_4
  have HR0_5 := Aside0.mk hr0_5
  have HC0_5 := Aside0.mk hc0_5
  clear hr0_5 hc0_5
  have HR2_1 := Aside0.mk hr2_1
  have HC2_1 := Aside0.mk hc2_1
  clear hr2_1 hc2_1
  have HB := Aside0.mk (Below.refl w.heap.size w)
  have H : ((order_Order_of.f a0_0 a0_1 a0_2 a0_3 l0_4 l0_5 a0_6 a1).bind fun t271 => (if t271 = true then (if a0_2 = true then (none) else (if a0_3 = true then (none) else ((dom_Dom_Min.f a2_0 l2_1 a2_2 a2_3 a2_4).bind fun t272 => (some t272)))) else (none))) = some r := h
  clear h
  replace H := Option.bind_eq_some_iff.mp H
  obtain ⟨t271, A40, H⟩ := H
  replace H : (if t271 = true then (if a0_2 = true then (none) else (if a0_3 = true then (none) else ((dom_Dom_Min.f a2_0 l2_1 a2_2 a2_3 a2_4).bind fun t272 => (some t272)))) else (none)) = some r := H
  have A4 := Aside0.mk A40
  clear A40
  by_cases c5 : t271 = true
  · subst c5
    have H1 : (if a0_2 = true then (none) else (if a0_3 = true then (none) else ((dom_Dom_Min.f a2_0 l2_1 a2_2 a2_3 a2_4).bind fun t272 => (some t272)))) = some r := by rw [if_pos rfl] at H; exact H
    clear H
    have H := H1
    clear H1
    by_cases c6 : a0_2 = true
    · subst c6
      have H1 : (none) = some r := by rw [if_pos rfl] at H; exact H
      clear H
      have H := H1
      clear H1
      exact absurd H (by simp)
    · replace c6 := Bool.eq_false_iff.mpr c6
      subst c6
      have H1 : (if a0_3 = true then (none) else ((dom_Dom_Min.f a2_0 l2_1 a2_2 a2_3 a2_4).bind fun t272 => (some t272))) = some r := by rw [if_neg (show ¬ (false = true) by decide)] at H; exact H
      clear H
      have H := H1
      clear H1
      by_cases c7 : a0_3 = true
      · subst c7
        have H1 : (none) = some r := by rw [if_pos rfl] at H; exact H
        clear H
        have H := H1
        clear H1
        exact absurd H (by simp)
      · replace c7 := Bool.eq_false_iff.mpr c7
        subst c7
        have H1 : ((dom_Dom_Min.f a2_0 l2_1 a2_2 a2_3 a2_4).bind fun t272 => (some t272)) = some r := by rw [if_neg (show ¬ (false = true) by decide)] at H; exact H
        clear H
        have H := H1
        clear H1
        replace H := Option.bind_eq_some_iff.mp H
        obtain ⟨t272, A80, H⟩ := H
        replace H : (some t272) = some r := H
        have A8 := Aside0.mk A80
        clear A80
        obtain rfl := Option.some.inj H
        go_enter Tryd.func15, Tryd.ntmps15
        try go_wp2_with (first | ((with_reducible refine gate_dst (N := 5) rfl ?_); refine box_event ?hg (N := 5) ?hd (cs := #[.int .i64 a2_0, .slice A2_1 l2_1.length c2_1, .int .i64 a2_2, .int .i64 a2_3, .int .i64 a2_4]) (t := 56) ?hr ?_; (case hd => rfl); (case hg => rfl); (case hr => first | (go_simp; done) | (go_simp; rfl)); intro gb270 hg w10 hbox hb; have n0_ := Aside0.mk (blk_below (g := G0) (o := .cells #[.int .i64 a0_0, .bool a0_1, .bool false, .bool false, .slice A0_4 l0_4.length c0_4, .slice A0_5 l0_5.length c0_5, .int .i64 a0_6] 89 (0, 0)) (by (with_reducible repeat (first | refine blk_drewN ?_ _ | refine blk_drew ?_ | refine blk_alloc ?_ _)); exact BKG0.out) hb); have n1_ := Aside0.mk (below_step (by repeat (first | (with_reducible first | exact HB.out | apply below_alloc | apply pw_below_drewN | apply below_drew1) | exact HB.out)) hb); have n2_ := Aside0.mk (hbox); have n3_ := Aside0.mk ((by rw [hg]; exact (below_size (by repeat (first | (with_reducible first | exact HB.out | apply below_alloc | apply pw_below_drewN | apply below_drew1) | exact HB.out))) : w.heap.size ≤ gb270)); have n4_ := Aside0.mk ((by rw [hg]; exact (below_size (by repeat (first | (with_reducible first | exact HB.out | apply below_alloc | apply pw_below_drewN | apply below_drew1) | exact HB.out))) : w.heap.size ≤ gb270)); have n5_ := Aside0.mk ((by rw [hg]; exact Nat.ne_of_lt (blk_lt (g := G0) (o := .cells #[.int .i64 a0_0, .bool a0_1, .bool false, .bool false, .slice A0_4 l0_4.length c0_4, .slice A0_5 l0_5.length c0_5, .int .i64 a0_6] 89 (0, 0)) (by (with_reducible repeat (first | refine blk_drewN ?_ _ | refine blk_drew ?_ | refine blk_alloc ?_ _)); exact BKG0.out)) : G0 ≠ gb270)); have n6_ := Aside0.mk ((by rw [hg]; exact Nat.ne_of_gt (blk_lt (g := G0) (o := .cells #[.int .i64 a0_0, .bool a0_1, .bool false, .bool false, .slice A0_4 l0_4.length c0_4, .slice A0_5 l0_5.length c0_5, .int .i64 a0_6] 89 (0, 0)) (by (with_reducible repeat (first | refine blk_drewN ?_ _ | refine blk_drew ?_ | refine blk_alloc ?_ _)); exact BKG0.out)) : gb270 ≠ G0)); clear BKG0; clear HB; have BKG0 := n0_; have HB := n1_; have BK270 := n2_; have GW270 := n3_; have GE270 := n4_; have NBG0_270 := n5_; have NB270_G0 := n6_; clear n0_ n1_ n2_ n3_ n4_ n5_ n6_; clear hb hbox hg; have hnb11 := NBG0_270.out; have hnc11 := NB270_G0.out; have hcz12_0 : w10.cell? ⟨G0, 0, none⟩ = some (.int .i64 a0_0) := (blk_cell BKG0.out 0).trans rfl; have hcz12_1 : w10.cell? ⟨G0, 1, none⟩ = some (.bool a0_1) := (blk_cell BKG0.out 1).trans rfl; have hcz12_2 : w10.cell? ⟨G0, 2, none⟩ = some (.bool false) := (blk_cell BKG0.out 2).trans rfl; have hcz12_3 : w10.cell? ⟨G0, 3, none⟩ = some (.bool false) := (blk_cell BKG0.out 3).trans rfl; have hcz12_4 : w10.cell? ⟨G0, 4, none⟩ = some (.slice A0_4 l0_4.length c0_4) := (blk_cell BKG0.out 4).trans rfl; have hcz12_5 : w10.cell? ⟨G0, 5, none⟩ = some (.slice A0_5 l0_5.length c0_5) := (blk_cell BKG0.out 5).trans rfl; have hcz12_6 : w10.cell? ⟨G0, 6, none⟩ = some (.int .i64 a0_6) := (blk_cell BKG0.out 6).trans rfl; have hfz12_0 := blk_frozen BKG0.out 0; have hfz12_1 := blk_frozen BKG0.out 1; have hfz12_2 := blk_frozen BKG0.out 2; have hfz12_3 := blk_frozen BKG0.out 3; have hfz12_4 := blk_frozen BKG0.out 4; have hfz12_5 := blk_frozen BKG0.out 5; have hfz12_6 := blk_frozen BKG0.out 6) | ((with_reducible refine gate_callee (f := 36) rfl ?_); refine goesL_ (some 10) rfl rfl Tryd.func36 (by kernel_rfl) rfl #[.pointer (some ⟨G0, 0, none⟩), .int .i64 a1] rfl (by (try simp only [List.map_toArray, List.map_cons, List.map_nil]); first | done | rfl | (simp only [List.length_drop, List.length_take]; rfl)) ?_; (with_reducible refine (order_Order_of.calls G0 a0_0 a0_1 false false _ _ l0_4 _ _ l0_5 a0_6 a1 _ (by (with_reducible repeat (first | refine blk_drewN ?_ _ | refine blk_drew ?_ | refine blk_alloc ?_ _)); exact BKG0.out) ?side1 A4.out).mono ?_); (case side1 => repeat (first | exact (Kd.C_below HR0_4.out HB.out) | (with_reducible refine Kd.C_alloc ?_ _) | (with_reducible refine Kd.C_drewN ?_ _) | (with_reducible refine Kd.C_drew ?_))); rintro e w13 ⟨AD36, rfl, hb⟩; refine ⟨_, rfl, ?_⟩; have n0_ := Aside0.mk (blk_below (g := G0) (o := .cells #[.int .i64 a0_0, .bool a0_1, .bool false, .bool false, .slice A0_4 l0_4.length c0_4, .slice A0_5 l0_5.length c0_5, .int .i64 a0_6] 89 (0, 0)) (by (with_reducible repeat (first | refine blk_drewN ?_ _ | refine blk_drew ?_ | refine blk_alloc ?_ _)); exact BKG0.out) hb); have n1_ := Aside0.mk (blk_below (g := gb270) (o := .cells #[.int .i64 a2_0, .slice A2_1 l2_1.length c2_1, .int .i64 a2_2, .int .i64 a2_3, .int .i64 a2_4] 56 (0, 0)) (by (with_reducible repeat (first | refine blk_drewN ?_ _ | refine blk_drew ?_ | refine blk_alloc ?_ _)); exact BK270.out) hb); have n2_ := Aside0.mk (below_step (by repeat (first | (with_reducible first | exact HB.out | apply below_alloc | apply pw_below_drewN | apply below_drew1 | refine below_set ?_ GE270.out) | exact HB.out)) hb); clear BKG0; clear BK270; clear HB; have BKG0 := n0_; have BK270 := n1_; have HB := n2_; clear n0_ n1_ n2_; (try clear hb); (try clear hb2); (try clear hk); (try clear hi)))
        have n0_ := Aside0.mk (blk_drew BKG0.out)
        have n1_ := Aside0.mk (blk_drew BK270.out)
        have n2_ := Aside0.mk (below_drew1 HB.out)
        clear BKG0
        clear BK270
        clear HB
        have BKG0 := n0_
        have BK270 := n1_
        have HB := n2_
        clear n0_ n1_ n2_
        refine start_ (n := 24) (S := fun w' => w'.cell? ⟨G0, 0, none⟩ = some (.int .i64 a0_0) ∧ w'.cell? ⟨G0, 1, none⟩ = some (.bool a0_1) ∧ w'.cell? ⟨G0, 2, none⟩ = some (.bool false) ∧ w'.cell? ⟨G0, 3, none⟩ = some (.bool false) ∧ w'.cell? ⟨G0, 4, none⟩ = some (.slice A0_4 l0_4.length c0_4) ∧ w'.cell? ⟨G0, 5, none⟩ = some (.slice A0_5 l0_5.length c0_5) ∧ w'.cell? ⟨G0, 6, none⟩ = some (.int .i64 a0_6)) (ds := []) #[false, false, false, false, false, false, false, false, false, false, false, false, false, false, false, false, false, false, false, false, false, false, false, false] (by kernel_rfl) rfl rfl ⟨(blk_cell BKG0.out 0).trans rfl, (blk_cell BKG0.out 1).trans rfl, (blk_cell BKG0.out 2).trans rfl, (blk_cell BKG0.out 3).trans rfl, (blk_cell BKG0.out 4).trans rfl, (blk_cell BKG0.out 5).trans rfl, (blk_cell BKG0.out 6).trans rfl⟩ (fun hHeld => ?_); refine with_tabW order_Order_Value.tab2 order_Order_Value.bits2 (fun HT_ HW_ => ?_)
        generalize w13.drew = w14 at BKG0 BK270 HB hHeld ⊢
        refine pure_ (i := 0) (N := some 12) (v := ?_) (a' := ?_) #[true, false, false, false, false, false, false, false, false, false, false, false, false, false, false, false, false, false, false, false, false, false, false, false] rfl rfl (any_of HT_.out (by kernel_rfl)) (fun _ _ _ h => h) (Or.inl ⟨by rfl, ?_⟩) ?_ ?_
        rotate_left
        · intro w'
          go_simp
          with_reducible rfl
        rotate_left
        · simp only [Act.put, List.setIfInBounds_toArray, List.set_cons_zero, List.set_cons_succ, i64_w, i32_w]
          rfl
        refine pure_ (i := 1) (N := some 13) (v := ?_) (a' := ?_) #[true, true, false, false, false, false, false, false, false, false, false, false, false, false, false, false, false, false, false, false, false, false, false, false] rfl rfl (any_of HT_.out (by kernel_rfl)) (fun _ _ _ h => h) (Or.inl ⟨by rfl, ?_⟩) ?_ ?_
        rotate_left
        · intro w'
          go_simp
          with_reducible rfl
        rotate_left
        · simp only [Act.put, List.setIfInBounds_toArray, List.set_cons_zero, List.set_cons_succ, i64_w, i32_w]
          rfl
        refine pure_ (i := 2) (N := some 14) (v := ?_) (a' := ?_) #[true, true, true, false, false, false, false, false, false, false, false, false, false, false, false, false, false, false, false, false, false, false, false, false] rfl rfl (any_of HT_.out (by kernel_rfl)) (fun _ _ _ h => h) (Or.inl ⟨by rfl, ?_⟩) ?_ ?_
        rotate_left
        · intro w'
          go_simp
          with_reducible rfl
        rotate_left
        · simp only [Act.put, List.setIfInBounds_toArray, List.set_cons_zero, List.set_cons_succ, i64_w, i32_w]
          rfl
        refine pure_ (i := 3) (N := some 15) (v := ?_) (a' := ?_) #[true, true, true, true, false, false, false, false, false, false, false, false, false, false, false, false, false, false, false, false, false, false, false, false] rfl rfl (any_of HT_.out (by kernel_rfl)) (fun _ _ _ h => h) (Or.inl ⟨by rfl, ?_⟩) ?_ ?_
        rotate_left
        · intro w'
          go_simp
          with_reducible rfl
        rotate_left
        · simp only [Act.put, List.setIfInBounds_toArray, List.set_cons_zero, List.set_cons_succ, i64_w, i32_w]
          rfl
        refine pure_ (i := 4) (N := some 16) (v := ?_) (a' := ?_) #[true, true, true, true, true, false, false, false, false, false, false, false, false, false, false, false, false, false, false, false, false, false, false, false] rfl rfl (any_of HT_.out (by kernel_rfl)) (fun _ _ _ h => h) (Or.inl ⟨by rfl, ?_⟩) ?_ ?_
        rotate_left
        · intro w'
          go_simp
          with_reducible rfl
        rotate_left
        · simp only [Act.put, List.setIfInBounds_toArray, List.set_cons_zero, List.set_cons_succ, i64_w, i32_w]
          rfl
        refine pure_ (i := 5) (N := some 17) (v := ?_) (a' := ?_) #[true, true, true, true, true, true, false, false, false, false, false, false, false, false, false, false, false, false, false, false, false, false, false, false] rfl rfl (any_of HT_.out (by kernel_rfl)) (fun _ _ _ h => h) (Or.inl ⟨by rfl, ?_⟩) ?_ ?_
        rotate_left
        · intro w'
          go_simp
          with_reducible rfl
        rotate_left
        · simp only [Act.put, List.setIfInBounds_toArray, List.set_cons_zero, List.set_cons_succ, i64_w, i32_w]
          rfl
        refine pure_ (i := 6) (N := some 18) (v := ?_) (a' := ?_) #[true, true, true, true, true, true, true, false, false, false, false, false, false, false, false, false, false, false, false, false, false, false, false, false] rfl rfl (any_of HT_.out (by kernel_rfl)) (fun _ _ _ h => h) (Or.inl ⟨by rfl, ?_⟩) ?_ ?_
        rotate_left
        · intro w'
          go_simp
          with_reducible rfl
        rotate_left
        · simp only [Act.put, List.setIfInBounds_toArray, List.set_cons_zero, List.set_cons_succ, i64_w, i32_w]
          rfl
        refine take_ (i := 7) (N := some 19) (v := ?_) (a' := ?_) #[true, true, true, true, true, true, true, true, false, false, false, false, false, false, false, false, false, false, false, false, false, false, false, false] rfl rfl (take_ofW HT_.out HW_.out (by kernel_rfl)) (fun _ _ _ h => h) (Or.inl ⟨by rfl, ?_⟩) hHeld ?_ ?_
        rotate_left
        · rintro w' ⟨s0, s1, s2, s3, s4, s5, s6⟩
          go_simp
          with_reducible rfl
        rotate_left
        · simp only [Act.put, List.setIfInBounds_toArray, List.set_cons_zero, List.set_cons_succ, i64_w, i32_w]
          rfl
        refine pure_ (i := 8) (N := some 20) (v := ?_) (a' := ?_) #[true, true, true, true, true, true, true, true, true, false, false, false, false, false, false, false, false, false, false, false, false, false, false, false] rfl rfl (any_of HT_.out (by kernel_rfl)) (fun _ _ _ h => h) (Or.inl ⟨by rfl, ?_⟩) ?_ ?_
        rotate_left
        · intro w'
          go_simp
          with_reducible rfl
        rotate_left
        · simp only [Act.put, List.setIfInBounds_toArray, List.set_cons_zero, List.set_cons_succ, i64_w, i32_w]
          rfl
        refine pure_ (i := 9) (N := some 21) (v := ?_) (a' := ?_) #[true, true, true, true, true, true, true, true, true, true, false, false, false, false, false, false, false, false, false, false, false, false, false, false] rfl rfl (any_of HT_.out (by kernel_rfl)) (fun _ _ _ h => h) (Or.inl ⟨by rfl, ?_⟩) ?_ ?_
        rotate_left
        · intro w'
          go_simp
          with_reducible rfl
        rotate_left
        · simp only [Act.put, List.setIfInBounds_toArray, List.set_cons_zero, List.set_cons_succ, i64_w, i32_w]
          rfl
        refine pure_ (i := 10) (N := some 22) (v := undef) (a' := ?_) #[true, true, true, true, true, true, true, true, true, true, true, false, false, false, false, false, false, false, false, false, false, false, false, false] rfl rfl (any_of HT_.out (by kernel_rfl)) (fun _ _ _ h => h) (Or.inr ⟨by rfl, rfl⟩) ?_ ?_
        rotate_left
        · simp only [Act.put, List.setIfInBounds_toArray, List.set_cons_zero, List.set_cons_succ, i64_w, i32_w]
          rfl
        refine pure_ (i := 11) (N := some 23) (v := undef) (a' := ?_) #[true, true, true, true, true, true, true, true, true, true, true, true, false, false, false, false, false, false, false, false, false, false, false, false] rfl rfl (any_of HT_.out (by kernel_rfl)) (fun _ _ _ h => h) (Or.inr ⟨by rfl, rfl⟩) ?_ ?_
        rotate_left
        · simp only [Act.put, List.setIfInBounds_toArray, List.set_cons_zero, List.set_cons_succ, i64_w, i32_w]
          rfl
        refine pure_ (i := 12) (N := some 24) (v := undef) (a' := ?_) #[true, true, true, true, true, true, true, true, true, true, true, true, true, false, false, false, false, false, false, false, false, false, false, false] rfl rfl (any_of HT_.out (by kernel_rfl)) (fun _ _ _ h => h) (Or.inr ⟨by rfl, rfl⟩) ?_ ?_
        rotate_left
        · simp only [Act.put, List.setIfInBounds_toArray, List.set_cons_zero, List.set_cons_succ, i64_w, i32_w]
          rfl
        refine pure_ (i := 13) (N := some 25) (v := undef) (a' := ?_) #[true, true, true, true, true, true, true, true, true, true, true, true, true, true, false, false, false, false, false, false, false, false, false, false] rfl rfl (any_of HT_.out (by kernel_rfl)) (fun _ _ _ h => h) (Or.inr ⟨by rfl, rfl⟩) ?_ ?_
        rotate_left
        · simp only [Act.put, List.setIfInBounds_toArray, List.set_cons_zero, List.set_cons_succ, i64_w, i32_w]
          rfl
        refine pure_ (i := 14) (N := some 26) (v := ?_) (a' := ?_) #[true, true, true, true, true, true, true, true, true, true, true, true, true, true, true, false, false, false, false, false, false, false, false, false] rfl rfl (any_of HT_.out (by kernel_rfl)) (fun _ _ _ h => h) (Or.inl ⟨by rfl, ?_⟩) ?_ ?_
        rotate_left
        · intro w'
          go_simp
          with_reducible rfl
        rotate_left
        · simp only [Act.put, List.setIfInBounds_toArray, List.set_cons_zero, List.set_cons_succ, i64_w, i32_w]
          rfl
        refine pure_ (i := 15) (N := some 27) (v := ?_) (a' := ?_) #[true, true, true, true, true, true, true, true, true, true, true, true, true, true, true, true, false, false, false, false, false, false, false, false] rfl rfl (any_of HT_.out (by kernel_rfl)) (fun _ _ _ h => h) (Or.inl ⟨by rfl, ?_⟩) ?_ ?_
        rotate_left
        · intro w'
          go_simp
          with_reducible rfl
        rotate_left
        · simp only [Act.put, List.setIfInBounds_toArray, List.set_cons_zero, List.set_cons_succ, i64_w, i32_w]
          rfl
        refine pure_ (i := 16) (N := some 28) (v := undef) (a' := ?_) #[true, true, true, true, true, true, true, true, true, true, true, true, true, true, true, true, true, false, false, false, false, false, false, false] rfl rfl (any_of HT_.out (by kernel_rfl)) (fun _ _ _ h => h) (Or.inr ⟨by rfl, rfl⟩) ?_ ?_
        rotate_left
        · simp only [Act.put, List.setIfInBounds_toArray, List.set_cons_zero, List.set_cons_succ, i64_w, i32_w]
          rfl
        refine pure_ (i := 17) (N := some 29) (v := undef) (a' := ?_) #[true, true, true, true, true, true, true, true, true, true, true, true, true, true, true, true, true, true, false, false, false, false, false, false] rfl rfl (any_of HT_.out (by kernel_rfl)) (fun _ _ _ h => h) (Or.inr ⟨by rfl, rfl⟩) ?_ ?_
        rotate_left
        · simp only [Act.put, List.setIfInBounds_toArray, List.set_cons_zero, List.set_cons_succ, i64_w, i32_w]
          rfl
        refine pure_ (i := 18) (N := some 30) (v := undef) (a' := ?_) #[true, true, true, true, true, true, true, true, true, true, true, true, true, true, true, true, true, true, true, false, false, false, false, false] rfl rfl (any_of HT_.out (by kernel_rfl)) (fun _ _ _ h => h) (Or.inr ⟨by rfl, rfl⟩) ?_ ?_
        rotate_left
        · simp only [Act.put, List.setIfInBounds_toArray, List.set_cons_zero, List.set_cons_succ, i64_w, i32_w]
          rfl
        refine pure_ (i := 19) (N := some 31) (v := undef) (a' := ?_) #[true, true, true, true, true, true, true, true, true, true, true, true, true, true, true, true, true, true, true, true, false, false, false, false] rfl rfl (any_of HT_.out (by kernel_rfl)) (fun _ _ _ h => h) (Or.inr ⟨by rfl, rfl⟩) ?_ ?_
        rotate_left
        · simp only [Act.put, List.setIfInBounds_toArray, List.set_cons_zero, List.set_cons_succ, i64_w, i32_w]
          rfl
        refine pure_ (i := 20) (N := some 32) (v := undef) (a' := ?_) #[true, true, true, true, true, true, true, true, true, true, true, true, true, true, true, true, true, true, true, true, true, false, false, false] rfl rfl (any_of HT_.out (by kernel_rfl)) (fun _ _ _ h => h) (Or.inr ⟨by rfl, rfl⟩) ?_ ?_
        rotate_left
        · simp only [Act.put, List.setIfInBounds_toArray, List.set_cons_zero, List.set_cons_succ, i64_w, i32_w]
          rfl
        refine pure_ (i := 21) (N := some 33) (v := undef) (a' := ?_) #[true, true, true, true, true, true, true, true, true, true, true, true, true, true, true, true, true, true, true, true, true, true, false, false] rfl rfl (any_of HT_.out (by kernel_rfl)) (fun _ _ _ h => h) (Or.inr ⟨by rfl, rfl⟩) ?_ ?_
        rotate_left
        · simp only [Act.put, List.setIfInBounds_toArray, List.set_cons_zero, List.set_cons_succ, i64_w, i32_w]
          rfl
        refine pure_ (i := 22) (N := some 34) (v := ?_) (a' := ?_) #[true, true, true, true, true, true, true, true, true, true, true, true, true, true, true, true, true, true, true, true, true, true, true, false] rfl rfl (any_of HT_.out (by kernel_rfl)) (fun _ _ _ h => h) (Or.inl ⟨by rfl, ?_⟩) ?_ ?_
        rotate_left
        · intro w'
          go_simp
          with_reducible rfl
        rotate_left
        · simp only [Act.put, List.setIfInBounds_toArray, List.set_cons_zero, List.set_cons_succ, i64_w, i32_w]
          rfl
        refine pure_ (i := 23) (N := some 11) (v := ?_) (a' := ?_) #[true, true, true, true, true, true, true, true, true, true, true, true, true, true, true, true, true, true, true, true, true, true, true, true] rfl rfl (any_of HT_.out (by kernel_rfl)) (fun _ _ _ h => h) (Or.inl ⟨by rfl, ?_⟩) ?_ ?_
        rotate_left
        · intro w'
          go_simp
          with_reducible rfl
        rotate_left
        · simp only [Act.put, List.setIfInBounds_toArray, List.set_cons_zero, List.set_cons_succ, i64_w, i32_w]
          rfl
        refine done_ (done_of HT_.out (by kernel_rfl)) ?_
        have hcz15_0 : w14.cell? ⟨G0, 0, none⟩ = some (.int .i64 a0_0) := (blk_cell BKG0.out 0).trans rfl
        have hcz15_1 : w14.cell? ⟨G0, 1, none⟩ = some (.bool a0_1) := (blk_cell BKG0.out 1).trans rfl
        have hcz15_2 : w14.cell? ⟨G0, 2, none⟩ = some (.bool false) := (blk_cell BKG0.out 2).trans rfl
        have hcz15_3 : w14.cell? ⟨G0, 3, none⟩ = some (.bool false) := (blk_cell BKG0.out 3).trans rfl
        have hcz15_4 : w14.cell? ⟨G0, 4, none⟩ = some (.slice A0_4 l0_4.length c0_4) := (blk_cell BKG0.out 4).trans rfl
        have hcz15_5 : w14.cell? ⟨G0, 5, none⟩ = some (.slice A0_5 l0_5.length c0_5) := (blk_cell BKG0.out 5).trans rfl
        have hcz15_6 : w14.cell? ⟨G0, 6, none⟩ = some (.int .i64 a0_6) := (blk_cell BKG0.out 6).trans rfl
        have hfz15_0 := blk_frozen BKG0.out 0
        have hfz15_1 := blk_frozen BKG0.out 1
        have hfz15_2 := blk_frozen BKG0.out 2
        have hfz15_3 := blk_frozen BKG0.out 3
        have hfz15_4 := blk_frozen BKG0.out 4
        have hfz15_5 := blk_frozen BKG0.out 5
        have hfz15_6 := blk_frozen BKG0.out 6
        have hcz16_0 : w14.cell? ⟨gb270, 0, none⟩ = some (.int .i64 a2_0) := (blk_cell BK270.out 0).trans rfl
        have hcz16_1 : w14.cell? ⟨gb270, 1, none⟩ = some (.slice A2_1 l2_1.length c2_1) := (blk_cell BK270.out 1).trans rfl
        have hcz16_2 : w14.cell? ⟨gb270, 2, none⟩ = some (.int .i64 a2_2) := (blk_cell BK270.out 2).trans rfl
        have hcz16_3 : w14.cell? ⟨gb270, 3, none⟩ = some (.int .i64 a2_3) := (blk_cell BK270.out 3).trans rfl
        have hcz16_4 : w14.cell? ⟨gb270, 4, none⟩ = some (.int .i64 a2_4) := (blk_cell BK270.out 4).trans rfl
        have hfz16_0 := blk_frozen BK270.out 0
        have hfz16_1 := blk_frozen BK270.out 1
        have hfz16_2 := blk_frozen BK270.out 2
        have hfz16_3 := blk_frozen BK270.out 3
        have hfz16_4 := blk_frozen BK270.out 4
        try go_wp2_with (first | ((with_reducible refine gate_callee (f := 38) rfl ?_); refine goesL_ (some 52) rfl rfl Tryd.func38 (by kernel_rfl) rfl #[.agg #[.int .i64 a2_0, .slice A2_1 l2_1.length c2_1, .int .i64 a2_2, .int .i64 a2_3, .int .i64 a2_4]] rfl (by (try simp only [List.map_toArray, List.map_cons, List.map_nil]); first | done | rfl | (simp only [List.length_drop, List.length_take]; rfl)) ?_; (with_reducible refine (dom_Dom_Min.calls a2_0 _ _ l2_1 a2_2 a2_3 a2_4 t272 _ ?side1 ?side2 A8.out).mono ?_); (case side1 => repeat (first | exact (Kd.C_below HR2_1.out HB.out) | (with_reducible refine Kd.C_alloc ?_ _) | (with_reducible refine Kd.C_drewN ?_ _) | (with_reducible refine Kd.C_drew ?_))); (case side2 => exact HC2_1.out); rintro e w17 ⟨rfl, hb⟩; refine ⟨_, rfl, ?_⟩; have n0_ := Aside0.mk (blk_below (g := G0) (o := .cells #[.int .i64 a0_0, .bool a0_1, .bool false, .bool false, .slice A0_4 l0_4.length c0_4, .slice A0_5 l0_5.length c0_5, .int .i64 a0_6] 89 (0, 0)) (by (with_reducible repeat (first | refine blk_drewN ?_ _ | refine blk_drew ?_ | refine blk_alloc ?_ _)); exact BKG0.out) hb); have n1_ := Aside0.mk (blk_below (g := gb270) (o := .cells #[.int .i64 a2_0, .slice A2_1 l2_1.length c2_1, .int .i64 a2_2, .int .i64 a2_3, .int .i64 a2_4] 56 (0, 0)) (by (with_reducible repeat (first | refine blk_drewN ?_ _ | refine blk_drew ?_ | refine blk_alloc ?_ _)); exact BK270.out) hb); have n2_ := Aside0.mk (below_step (by repeat (first | (with_reducible first | exact HB.out | apply below_alloc | apply pw_below_drewN | apply below_drew1 | refine below_set ?_ GE270.out) | exact HB.out)) hb); clear BKG0; clear BK270; clear HB; have BKG0 := n0_; have BK270 := n1_; have HB := n2_; clear n0_ n1_ n2_; (try clear hb); (try clear hb2); (try clear hk); (try clear hi)))
        go_ret
        exact ⟨by first | rfl | (simp [errW_none, errW_some] <;> rfl) | (simp [*, errW_none, errW_some] <;> rfl), by repeat (first | (with_reducible first | exact HB.out | apply below_alloc | apply pw_below_drewN | apply below_drew1 | refine below_set ?_ GE270.out) | exact HB.out)⟩
  · replace c5 := Bool.eq_false_iff.mpr c5
    subst c5
    have H1 : (none) = some r := by rw [if_neg (show ¬ (false = true) by decide)] at H; exact H
    clear H
    have H := H1
    clear H1
    exact absurd H (by simp)

/-! ### order_New, of no constraints: function 20 -/
def order_New.T3 : Bool × List (List Nat × List Nat) := (true, [([], []), ([], []), ([1, 1], [1]), ([0, 2], [0, 2]), ([3], [3]), ([4, 0, 1, 2, 3, 4], [4])])
def order_New.B3 : List Nat := [0, 0, 2, 7, 15, 31]
theorem order_New.tab3 : rtab .any (opsOf Tryd.f20 3) = order_New.T3 := by kernel_rfl
theorem order_New.bits3 : waitsOk order_New.T3.2 order_New.B3 = true := by kernel_rfl
def u95 : S95 := ⟨1, 1, 1, 0, 0, 0, false⟩
/-- The row behind i rounds. -/
def newRow (n i : Nat) : List S95 := List.replicate i u95 ++ List.replicate (n - i) z95
theorem newRow_zero (n : Nat) : newRow n 0 = List.replicate n z95 := rfl
theorem newRow_full (n : Nat) : newRow n n = List.replicate n u95 := by unfold newRow; simp
theorem newRow_length {n i : Nat} (h : i ≤ n) : (newRow n i).length = n := by unfold newRow; simp; omega
theorem newRow_set {n i : Nat} (h : i < n) : (newRow n i).set i u95 = newRow n (i + 1) := by
  unfold newRow
  rw [List.set_append_right _ _ (by simp), List.length_replicate, Nat.sub_self]
  obtain ⟨m, hm⟩ : ∃ m, n - i = m + 1 := ⟨n - i - 1, by omega⟩
  rw [hm, show n - (i + 1) = m by omega, List.replicate_succ, List.set_cons_zero, List.replicate_succ', List.append_assoc]
  rfl
set_option maxHeartbeats 8000000 in
set_option maxRecDepth 100000 in
theorem order_New.good (a0_0 : Int) (a0_1 : Bool) (a0_2 : Bool) (a0_3 : Bool) (n : Nat) (w : World) (h0 : 0 ≤ a0_0) (h6 : a0_0 < 6) (hn : n ≤ 256) :
    Calls Tryd.prog 20 #[.agg #[.int .i64 a0_0, .bool a0_1, .bool a0_2, .bool a0_3], .int .i64 n, .slice none 0 0] w fun e w' => ∃ (g : Nat) (A : Option Addr) (c : Nat), e = .returned (.tuple #[.pointer (some ⟨g, 0, none⟩), .int .i64 0]) ∧ w.heap.size ≤ g ∧ w'.heap[g]? = some (.cells #[.int .i64 a0_0, .bool a0_1, .bool a0_2, .bool a0_3, .slice A n c, .slice none 0 0, .int .i64 (-1)] 89 (0, 0)) ∧ Kd.R k95 95 w' w.heap.size (fun k_ => k_ ≠ g) (.slice A n c) (List.replicate n u95) ∧ Below w.heap.size w w' := by
  have hu67 := Tryd.underlying67
  have hu89 := Tryd.underlying89
  have hu95 := Tryd.underlying95
  have HB := Aside0.mk (Below.refl w.heap.size w)
  have e0 : decide (a0_0 < 0) = false := decide_eq_false (by omega)
  have e1 : decide (6 ≤ a0_0) = false := decide_eq_false (by omega)
  have e2 : decide ((n : Int) < 0) = false := decide_eq_false (by omega)
  have e3 : decide (256 < (n : Int)) = false := decide_eq_false (by omega)
  have Hn := Aside0.mk hn
  clear h0 h6 hn
  go_enter Tryd.func20, Tryd.ntmps20
  go_upto_region 1 with (first | ((with_reducible refine gate_dst (N := 3) rfl ?_); refine box_event ?hg (N := 3) ?hd (cs := #[.int .i64 a0_0, .bool a0_1, .bool a0_2, .bool a0_3]) (t := 67) ?hr ?_; (case hd => rfl); (case hg => rfl); (case hr => first | (go_simp; done) | (go_simp; rfl)); intro gb273 hg w5 hbox hb; have n0_ := Aside0.mk (below_step HB.out hb); clear HB; have HB := n0_; clear n0_; have BK273 := Aside0.mk hbox; clear hb hbox hg) | ((with_reducible refine gate_dst (N := 4) rfl ?_); refine box_event ?hg (N := 4) ?hd (cs := #[.int .i64 n]) (t := 3) ?hr ?_; (case hd => rfl); (case hg => rfl); (case hr => first | (go_simp; done) | (go_simp; rfl)); intro gb274 hg w6 hbox hb; have n0_ := Aside0.mk (below_step HB.out hb); have n1_ := Aside0.mk (blk_below BK273.out hb); clear HB BK273; have HB := n0_; have BK273 := n1_; clear n0_ n1_; have BK274 := Aside0.mk hbox; clear hb hbox hg))
  have hcz_0 : w6.cell? ⟨gb273, 0, none⟩ = some (.int .i64 a0_0) := (blk_cell BK273.out 0).trans rfl
  have hfz_0 := blk_frozen BK273.out 0
  have hcz_1 : w6.cell? ⟨gb274, 0, none⟩ = some (.int .i64 n) := (blk_cell BK274.out 0).trans rfl
  have hfz_1 := blk_frozen BK274.out 0
  go_wp2
  refine start_ (n := 6) (S := fun w' => w'.cell? ⟨gb273, 0, none⟩ = some (.int .i64 a0_0) ∧ w'.cell? ⟨gb273, 1, none⟩ = some (.bool a0_1) ∧ w'.cell? ⟨gb273, 2, none⟩ = some (.bool a0_2) ∧ w'.cell? ⟨gb273, 3, none⟩ = some (.bool a0_3) ∧ w'.cell? ⟨gb274, 0, none⟩ = some (.int .i64 n)) (ds := []) #[false, false, false, false, false, false] (by kernel_rfl) rfl rfl ⟨(blk_cell BK273.out 0).trans rfl, (blk_cell BK273.out 1).trans rfl, (blk_cell BK273.out 2).trans rfl, (blk_cell BK273.out 3).trans rfl, (blk_cell BK274.out 0).trans rfl⟩ (fun hHeld => ?_); refine with_tabW order_New.tab3 order_New.bits3 (fun HT_ HW_ => ?_)
  have n0_ := Aside0.mk (blk_drew BK273.out)
  have n1_ := Aside0.mk (blk_drew BK274.out)
  have n2_ := Aside0.mk (below_drew1 HB.out)
  refine take_ (i := 0) (N := some 29) (v := ?_) (a' := ?_) #[true, false, false, false, false, false] rfl rfl (take_ofW HT_.out HW_.out (by kernel_rfl)) (fun _ _ _ h => h) (Or.inl ⟨by rfl, ?_⟩) hHeld ?_ ?_
  rotate_left
  · rintro w' ⟨s0, s1, s2, s3, s4⟩
    go_simp
    with_reducible rfl
  rotate_left
  · simp only [Act.put, List.setIfInBounds_toArray, List.set_cons_zero, List.set_cons_succ, i64_w, i32_w]
    rfl
  refine take_ (i := 1) (N := some 30) (v := ?_) (a' := ?_) #[true, true, false, false, false, false] rfl rfl (take_ofW HT_.out HW_.out (by kernel_rfl)) (fun _ _ _ h => h) (Or.inl ⟨by rfl, ?_⟩) hHeld ?_ ?_
  rotate_left
  · rintro w' ⟨s0, s1, s2, s3, s4⟩
    go_simp
    with_reducible rfl
  rotate_left
  · simp only [Act.put, List.setIfInBounds_toArray, List.set_cons_zero, List.set_cons_succ, i64_w, i32_w]
    rfl
  refine one_ (i := 2) (N := some 31) #[true, true, true, false, false, false] rfl rfl (one_of HT_.out (by kernel_rfl)) (by decide) (fun K hK => ?_)
  refine Kd.R_make_step k95 _ 95 rfl (N := 31) rfl 87 _ _ rfl (n : Int) rfl rfl Tryd.underlying87 (.agg #[(.int .i64 0), (.int .i64 0), (.int .i64 0), (.int .i64 0), (.int .i64 0), (.int .i64 0), (.bool false)]) 56 info95 rfl (by decide) (by omega) z95 (ok := fun _ => True) (okp := fun _ => True) (k95_mkM _ _ _ z95) (fun _ hk => hk) trivial (by omega) (by have := Hn.out; rw [Int.toNat_natCast]; omega) (Below.refl _ _) (Nat.le_refl _) ?_
  have LW := Aside0.mk (below_size (below_drew1 HB.out))
  intro v277 w33 ho34 hb hg_ hnew_
  clear hg_ hnew_
  rw [Int.toNat_natCast] at ho34
  obtain ⟨Ao35, co35, eo35⟩ := Kd.R_slice ho34
  rw [List.length_replicate] at eo35
  subst eo35
  have m0_ := Aside0.mk (blk_below n0_.out hb)
  have m1_ := Aside0.mk (blk_below n1_.out hb)
  have m2_ := Aside0.mk (below_step n2_.out hb)
  clear HB BK273 BK274 n0_ n1_ n2_
  have HB := m2_
  have BK273 := m0_
  have BK274 := m1_
  clear m0_ m1_ m2_
  have HO := Aside0.mk (Kd.R_lower ho34 LW.out)
  clear ho34 hb
  refine hK.out _ _ ⟨(blk_cell BK273.out 0).trans rfl, (blk_cell BK273.out 1).trans rfl, (blk_cell BK273.out 2).trans rfl, (blk_cell BK273.out 3).trans rfl, (blk_cell BK274.out 0).trans rfl⟩ (fun hHeld => ?_)
  clear hK K
  refine norm_ (a' := ?_) ?_ ?_
  rotate_left
  · show Act.put _ (some 31) _ = _
    simp only [Act.put, List.setIfInBounds_toArray, List.set_cons_zero, List.set_cons_succ, i64_w, i32_w]
    rfl
  refine pure_ (i := 3) (N := some 32) (v := ?_) (a' := ?_) #[true, true, true, true, false, false] rfl rfl (any_of HT_.out (by kernel_rfl)) (fun _ _ _ h => h) (Or.inl ⟨by rfl, ?_⟩) ?_ ?_
  rotate_left
  · intro w'
    go_simp
    with_reducible rfl
  rotate_left
  · simp only [Act.put, List.setIfInBounds_toArray, List.set_cons_zero, List.set_cons_succ, i64_w, i32_w]
    rfl
  refine one_ (i := 4) (N := some 33) #[true, true, true, true, true, false] rfl rfl (one_of HT_.out (by kernel_rfl)) (by decide) (fun K hK => ?_)
  refine box_step ?hg (N := 33) ?hd (cs := #[.int .i64 a0_0, .bool a0_1, .bool a0_2, .bool a0_3, .slice Ao35 n co35, .slice none 0 0, .int .i64 (-1)]) (t := 89) ?hr ?_; (case hd => rfl); (case hg => rfl); (case hr => first | (go_simp; done) | (go_simp; rfl))
  intro gO hg w34 hbox hb
  have m0_ := Aside0.mk (blk_below BK273.out hb)
  have m1_ := Aside0.mk (blk_below BK274.out hb)
  have m2_ := Aside0.mk (below_step HB.out hb)
  have m3_ := Aside0.mk (Kd.R_below (Kd.R_mono (Kd.R_elderB HO.out gO (Nat.le_of_eq hg.symm)) (fun _ hk => hk.2)) hb)
  have GE := Aside0.mk (by rw [hg]; exact below_size HB.out : w.heap.size ≤ gO)
  clear HB BK273 BK274 HO
  have HB := m2_
  have BK273 := m0_
  have BK274 := m1_
  have HO := m3_
  have BKO := Aside0.mk hbox
  clear m0_ m1_ m2_ m3_ hb hbox hg
  refine hK.out _ _ ⟨(blk_cell BK273.out 0).trans rfl, (blk_cell BK273.out 1).trans rfl, (blk_cell BK273.out 2).trans rfl, (blk_cell BK273.out 3).trans rfl, (blk_cell BK274.out 0).trans rfl⟩ (fun hHeld => ?_)
  clear hK K
  refine norm_ (a' := ?_) ?_ ?_
  rotate_left
  · show Act.put _ (some 33) _ = _
    simp only [Act.put, List.setIfInBounds_toArray, List.set_cons_zero, List.set_cons_succ, i64_w, i32_w]
    rfl
  refine pure_ (i := 5) (N := some 8) (v := ?_) (a' := ?_) #[true, true, true, true, true, true] rfl rfl (any_of HT_.out (by kernel_rfl)) (fun _ _ _ h => h) (Or.inl ⟨by rfl, ?_⟩) ?_ ?_
  rotate_left
  · intro w'
    go_simp
    with_reducible rfl
  rotate_left
  · simp only [Act.put, List.setIfInBounds_toArray, List.set_cons_zero, List.set_cons_succ, i64_w, i32_w]
    rfl
  refine done_ (done_of HT_.out (by kernel_rfl)) ?_
  clear hHeld hcz_0 hcz_1 hfz_0 hfz_1 HT_ HW_ e0 e1 e2 e3 BK273 BK274 LW
  have hcz_1 : w34.cell? ⟨gO, 4, none⟩ = some (.slice Ao35 n co35) := (blk_cell BKO.out 4).trans rfl
  have hfz_0 := blk_frozen BKO.out 4
  go_wp2
  clear hcz_1 hfz_0
  go_loopg [39] n (fun kq v39 w' => ∃ i : Nat, v39 = .int .i64 (i : Int) ∧ Aside0 (kq + i = n) ∧ Aside0 (Kd.R k95 95 w' w.heap.size (fun k_ => k_ ≠ gO) (.slice Ao35 n co35) (newRow n i)) ∧ Aside0 (w'.heap[gO]? = some (.cells #[.int .i64 a0_0, .bool a0_1, .bool a0_2, .bool a0_3, .slice Ao35 n co35, .slice none 0 0, .int .i64 (-1)] 89 (0, 0))) ∧ Aside0 (Below w.heap.size w w'))
  case atStart => exact ⟨0, rfl, ⟨by omega⟩, ⟨HO.out⟩, ⟨BKO.out⟩, ⟨HB.out⟩⟩
  case round =>
    clear HO BKO HB
    obtain ⟨i, rfl, HI, HO, BKO, HB⟩ := hrel
    by_cases hlt : i < n
    · have c36b0 : decide ((i : Int) < (n : Int)) = true := decide_eq_true (by omega)
      have c36b1 : decide (i < n) = true := decide_eq_true hlt
      have HLt := Aside0.mk hlt
      have hcz_0 : wr.cell? ⟨gO, 4, none⟩ = some (.slice Ao35 n co35) := (blk_cell BKO.out 4).trans rfl
      have hfz_0 := blk_frozen BKO.out 4
      have p39 : 0 ≤ (i : Int) := by omega
      have q39 : (i : Int) < ((n : Nat) : Int) := by omega
      clear hlt
      obtain ⟨go39, co39, eo39, gb39, gl39, cl39, HG39⟩ := Kd.R_form HO.out (by rw [newRow_length (Nat.le_of_lt HLt.out)]; have := HLt.out; omega)
      (first | cases eo39 | (injection eo39 with ea_ en_ ec_; (first | subst ea_ | (injection ea_ with ea_; subst ea_)); subst ec_; clear en_))
      have GB39 := Aside0.mk gb39
      clear gb39 gl39 HG39
      obtain ⟨ce39, hcl39, hM39, hcc39, hfr39⟩ := Kd.R_elem HO.out z95 (i : Int) p39 q39
      obtain rfl := k95_openM hM39
      have HP40 := Kd.R_seg HO.out (i : Int) p39 q39 (seg := [.int .i64 1, .int .i64 1, .int .i64 1, .int .i64 0, .int .i64 0, .int .i64 0, .bool false]) (j := 0) hcl39 hcc39 (show 7 ≤ 7 from by decide) (x' := u95) (k95_mkM _ _ _ u95) (fun _ hk => hk)
      have hx39_0 : wr.cell? ⟨go39, i * 7, none⟩ = some (.int .i64 ((rd_T95 (newRow n i) i).f0)) := hcc39 0 _ rfl
      have hf39_0 : wr.frozen? ⟨go39, i * 7, none⟩ = false := hfr39 0
      have hx39_1 : wr.cell? ⟨go39, i * 7 + 1, none⟩ = some (.int .i64 ((rd_T95 (newRow n i) i).f1)) := hcc39 1 _ rfl
      have hf39_1 : wr.frozen? ⟨go39, i * 7 + 1, none⟩ = false := hfr39 1
      have hx39_2 : wr.cell? ⟨go39, i * 7 + 2, none⟩ = some (.int .i64 ((rd_T95 (newRow n i) i).f2)) := hcc39 2 _ rfl
      have hf39_2 : wr.frozen? ⟨go39, i * 7 + 2, none⟩ = false := hfr39 2
      have hx39_3 : wr.cell? ⟨go39, i * 7 + 3, none⟩ = some (.int .i64 ((rd_T95 (newRow n i) i).f3)) := hcc39 3 _ rfl
      have hf39_3 : wr.frozen? ⟨go39, i * 7 + 3, none⟩ = false := hfr39 3
      have hx39_4 : wr.cell? ⟨go39, i * 7 + 4, none⟩ = some (.int .i64 ((rd_T95 (newRow n i) i).f4)) := hcc39 4 _ rfl
      have hf39_4 : wr.frozen? ⟨go39, i * 7 + 4, none⟩ = false := hfr39 4
      have hx39_5 : wr.cell? ⟨go39, i * 7 + 5, none⟩ = some (.int .i64 ((rd_T95 (newRow n i) i).f5)) := hcc39 5 _ rfl
      have hf39_5 : wr.frozen? ⟨go39, i * 7 + 5, none⟩ = false := hfr39 5
      have hx39_6 : wr.cell? ⟨go39, i * 7 + 6, none⟩ = some (.bool ((rd_T95 (newRow n i) i).f6)) := hcc39 6 _ rfl
      have hf39_6 : wr.frozen? ⟨go39, i * 7 + 6, none⟩ = false := hfr39 6
      clear hcl39 hM39 hcc39 hfr39 q39
      have qt39 : (i < n) = True := eq_true HLt.out
      have b39 : (i : Int) ≤ 300 := by have := Hn.out; have := HLt.out; omega
      go_wp2_with (first | ((with_reducible refine gate_store (t := 95) (p := 48) rfl ?_); refine store_event (t := 95) (p := 48) (v := ?vo_w41) (w1 := (((((((wr.setCell ⟨go39, i * 7, none⟩ (.int .i64 1)).setCell ⟨go39, i * 7 + 1, none⟩ (.int .i64 1)).setCell ⟨go39, i * 7 + 2, none⟩ (.int .i64 1)).setCell ⟨go39, i * 7 + 3, none⟩ (.int .i64 0)).setCell ⟨go39, i * 7 + 4, none⟩ (.int .i64 0)).setCell ⟨go39, i * 7 + 5, none⟩ (.int .i64 0)).setCell ⟨go39, i * 7 + 6, none⟩ (.bool false))) ?hg ?ho ?hn ?hr ?_; (case ho => rfl); (case hg => rfl); (case hn => rfl); (case hr => first | (go_simp; done) | (go_simp; rfl)); intro w41 hw; have hg : wr.grownBy w41 (some go39) := (by rw [hw]; exact HP40.2); have hp_ : Kd.R k95 95 w41 w.heap.size (fun k_ => k_ ≠ gO) (.slice (some ⟨go39, 0, none⟩) n co35) (newRow n (i + 1)) := (by rw [hw, ← newRow_set HLt.out]; exact HP40.1); clear HP40; have m1_ := Aside0.mk (blk_grown BKO.out hg (Kd.R_ne HO.out BKO.out (by decide))); have m2_ := Aside0.mk ((by rw [hw]; exact below_set (below_set (below_set (below_set (below_set (below_set (below_set (HB.out) GB39.out) GB39.out) GB39.out) GB39.out) GB39.out) GB39.out) GB39.out : Below w.heap.size w w41)); have m3_ := Aside0.mk hp_; clear HO BKO HB; have HO := m3_; have BKO := m1_; have HB := m2_; clear m1_ m2_ m3_; clear hg hw hp_))
      go_roundg (n - (i + 1))
      case measure => have := HI.out; have := HLt.out; omega
      case rel => exact ⟨i + 1, by go_num, ⟨by have := HI.out; have := HLt.out; omega⟩, ⟨HO.out⟩, ⟨BKO.out⟩, ⟨HB.out⟩⟩
    · have c36b0 : decide ((i : Int) < (n : Int)) = false := decide_eq_false (by omega)
      have c36b1 : decide (i < n) = false := decide_eq_false hlt
      have HN := Aside0.mk (show i = n by have := HI.out; omega)
      clear hlt
      go_wp2
      go_loopg [52] 0 (fun kq v52 w' => v52 = .int .i64 0 ∧ Aside0 (Kd.R k95 95 w' w.heap.size (fun k_ => k_ ≠ gO) (.slice Ao35 n co35) (List.replicate n u95)) ∧ Aside0 (w'.heap[gO]? = some (.cells #[.int .i64 a0_0, .bool a0_1, .bool a0_2, .bool a0_3, .slice Ao35 n co35, .slice none 0 0, .int .i64 (-1)] 89 (0, 0))) ∧ Aside0 (Below w.heap.size w w'))
      case atStart => exact ⟨rfl, ⟨by have h_ := HO.out; rw [HN.out, newRow_full] at h_; exact h_⟩, ⟨BKO.out⟩, ⟨HB.out⟩⟩
      case round =>
        clear HO BKO HB
        obtain ⟨rfl, HO, BKO, HB⟩ := hrel
        go_wp2
        go_ret2
        exact ⟨gO, Ao35, co35, rfl, GE.out, BKO.out, HO.out, HB.out⟩
set_option maxHeartbeats 8000000 in
set_option maxRecDepth 100000 in
theorem order_New.bad (w : World) :
    Calls Tryd.prog 20 #[.agg #[.int .i64 6, .bool false, .bool false, .bool false], .int .i64 4, .slice none 0 0] w fun e w' => e = .returned (.tuple #[.pointer none, .int .i64 2]) ∧ Below w.heap.size w w' := by
  have hu67 := Tryd.underlying67
  have HB := Aside0.mk (Below.refl w.heap.size w)
  go_enter Tryd.func20, Tryd.ntmps20
  go_upto_region 1 with (first | ((with_reducible refine gate_dst (N := 3) rfl ?_); refine box_event ?hg (N := 3) ?hd (cs := #[.int .i64 6, .bool false, .bool false, .bool false]) (t := 67) ?hr ?_; (case hd => rfl); (case hg => rfl); (case hr => first | (go_simp; done) | (go_simp; rfl)); intro gb273 hg w5 hbox hb; have n0_ := Aside0.mk (below_step HB.out hb); clear HB; have HB := n0_; clear n0_; have BK273 := Aside0.mk hbox; clear hb hbox hg) | ((with_reducible refine gate_dst (N := 4) rfl ?_); refine box_event ?hg (N := 4) ?hd (cs := #[.int .i64 4]) (t := 3) ?hr ?_; (case hd => rfl); (case hg => rfl); (case hr => first | (go_simp; done) | (go_simp; rfl)); intro gb274 hg w6 hbox hb; have n0_ := Aside0.mk (below_step HB.out hb); have n1_ := Aside0.mk (blk_below BK273.out hb); clear HB BK273; have HB := n0_; have BK273 := n1_; clear n0_ n1_; clear hb hbox hg))
  have hcz_0 : w6.cell? ⟨gb273, 0, none⟩ = some (.int .i64 6) := (blk_cell BK273.out 0).trans rfl
  have hfz_0 := blk_frozen BK273.out 0
  go_wp2
  go_ret2
  exact ⟨by first | rfl | (simp [errW_none, errW_some] <;> rfl), HB.out⟩

end Go.Proofs.YtllnjembdmjljaaDoor.XOrderDraws
