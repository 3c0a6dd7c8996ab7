-- by xprint.py, a program of this session, over the kit's print
import Derived.Test.YtllnjembdmjljaaDoorXOrderDrawsx0
import Derived.Test.YtllnjembdmjljaaDoorXOrderDrawsx1
import Derived.Test.YtllnjembdmjljaaDoorXOrderDrawsx6
import Derived.Test.YtllnjembdmjljaaDoorXOrderDrawsx7
namespace Go.Proofs.YtllnjembdmjljaaDoor.XOrderDraws
open Go.RowKit Go.Proofs.YtllnjembdmjljaaDoorW.PrintWords Go.Proofs.YtllnjembdmjljaaDoorW.PrintLast Go.Proofs.YtllnjembdmjljaaDoorW.PrintMore
attribute [local go_sem] max2_int min2_int max_two min_two max_three min_three max_four min_four   -- for this text's walks alone
set_option linter.unusedVariables false
set_option linter.unusedSimpArgs false

theorem Left.lt {w : World} {g : Nat} {l : List Int} (h : Left w g l) : g < w.heap.size := by
  obtain ⟨A, c, hb, _⟩ := h
  exact blk_lt hb
theorem Left.below {w W : World} {g : Nat} {l : List Int} (h : Left w g l) (hb : Below w.heap.size w W) : Left W g l := by
  obtain ⟨A, c, h1, h2, h3, h4⟩ := h
  exact ⟨A, c, (hb.block g (blk_lt h1)).trans h1, h2, Kd.C_below h3 hb, h4⟩

/-! ### order_Order_Choose: function 13 -/
mutual
def order_Order_Choose.l0 : Nat → List (S56) → List Int → List Int → List (S56) → Int → Int → Int → Bool → Bool → Bool → List (S95) → List (List Int) → Int → Option (Int × Bool)
  | 0, _, _, _, _, _, _, _, _, _, _, _, _, _ => none
  | k + 1, x1, x2, x8, x51, x52, x53, x252000, x252001, x252002, x252003, x252004, x252005, x252006 => if x53 < x52 then (if 0 ≤ x53 then (if x53 < (x51.length : Int) then ((dom_Dom_Size.f ((rd_T56 x51 x53).f0) ((rd_T56 x51 x53).f1) ((rd_T56 x51 x53).f2) ((rd_T56 x51 x53).f3) ((rd_T56 x51 x53).f4)).bind fun t256 => (if t256 < 2 then (order_Order_Choose.l0 k x1 x2 x8 x51 x52 (wrap64 (x53 + 1)) x252000 x252001 x252002 x252003 x252004 x252005 x252006) else (if (x8.length : Int) > 0 then (if 0 < (x8.length : Int) then ((order_Order_compare.f x252000 x252001 x252002 x252003 x252004 x252005 x252006 x53 (rd x8 0) x1).bind fun t258 => (order_Order_Choose.j1 k x1 x2 x8 x53 t258 x51 x52 x53 x252000 x252001 x252002 x252003 x252004 x252005 x252006)) else (none)) else (order_Order_Choose.j1 k x1 x2 x8 x53 0 x51 x52 x53 x252000 x252001 x252002 x252003 x252004 x252005 x252006)))) else (none)) else (none)) else (if (x8.length : Int) = 0 then (none) else ((order_Draws_Next.f x2 (x8.length : Int)).bind fun t252 => (if 0 ≤ t252 then (if t252 < (x8.length : Int) then (some (rd x8 t252, true)) else (none)) else (none))))
def order_Order_Choose.j1 : Nat → List (S56) → List Int → List Int → Int → Int → List (S56) → Int → Int → Int → Bool → Bool → Bool → List (S95) → List (List Int) → Int → Option (Int × Bool)
  | 0, _, _, _, _, _, _, _, _, _, _, _, _, _, _, _ => none
  | k + 1, x1, x2, x8, x9, x11, x51, x52, x53, x252000, x252001, x252002, x252003, x252004, x252005, x252006 => if x11 < 0 then (if x11 ≤ 0 then (if ([] : List Int).length < 17592186044416 then (order_Order_Choose.l0 k x1 x2 (([] : List Int) ++ [x9]) x51 x52 (wrap64 (x53 + 1)) x252000 x252001 x252002 x252003 x252004 x252005 x252006) else (none)) else (order_Order_Choose.l0 k x1 x2 ([] : List Int) x51 x52 (wrap64 (x53 + 1)) x252000 x252001 x252002 x252003 x252004 x252005 x252006)) else (if x11 ≤ 0 then (if x8.length < 17592186044416 then (order_Order_Choose.l0 k x1 x2 (x8 ++ [x9]) x51 x52 (wrap64 (x53 + 1)) x252000 x252001 x252002 x252003 x252004 x252005 x252006) else (none)) else (order_Order_Choose.l0 k x1 x2 x8 x51 x52 (wrap64 (x53 + 1)) x252000 x252001 x252002 x252003 x252004 x252005 x252006))
end
def order_Order_Choose.f (k : Nat) (a0_0 : Int) (a0_1 : Bool) (a0_2 : Bool) (a0_3 : Bool) (l0_4 : List (S95)) (l0_5 : List (List Int)) (a0_6 : Int) (l1 : List (S56)) (l2 : List Int) : Option (Int × Bool) := if (l1.length : Int) = (l0_4.length : Int) then (if a0_1 = true then (none) else (order_Order_Choose.l0 k l1 l2 ([] : List Int) l1 (l1.length : Int) 0 a0_0 a0_1 a0_2 a0_3 l0_4 l0_5 a0_6)) else (none)
theorem order_Order_Choose.mono_l : ∀ k, (∀ y0 y1 y2 y3 y4 y5 y6 y7 y8 y9 y10 y11 y12, LeO (order_Order_Choose.l0 k y0 y1 y2 y3 y4 y5 y6 y7 y8 y9 y10 y11 y12) (order_Order_Choose.l0 (k + 1) y0 y1 y2 y3 y4 y5 y6 y7 y8 y9 y10 y11 y12)) ∧ (∀ y0 y1 y2 y3 y4 y5 y6 y7 y8 y9 y10 y11 y12 y13 y14, LeO (order_Order_Choose.j1 k y0 y1 y2 y3 y4 y5 y6 y7 y8 y9 y10 y11 y12 y13 y14) (order_Order_Choose.j1 (k + 1) y0 y1 y2 y3 y4 y5 y6 y7 y8 y9 y10 y11 y12 y13 y14))
  | 0 => ⟨fun _ _ _ _ _ _ _ _ _ _ _ _ _ r h => by simp [order_Order_Choose.l0] at h, fun _ _ _ _ _ _ _ _ _ _ _ _ _ _ _ r h => by simp [order_Order_Choose.j1] at h⟩
  | k + 1 => by
    obtain ⟨ih0, ih1⟩ := order_Order_Choose.mono_l k
    refine ⟨?_, ?_⟩
    · intro y0 y1 y2 y3 y4 y5 y6 y7 y8 y9 y10 y11 y12
      unfold order_Order_Choose.l0
      repeat' first
      | (with_reducible exact ih0 _ _ _ _ _ _ _ _ _ _ _ _ _)
      | (with_reducible exact ih1 _ _ _ _ _ _ _ _ _ _ _ _ _ _ _)
      | (with_reducible exact LeO.refl _)
      | (with_reducible exact LeO.none _)
      | (with_reducible refine LeO.ite ?_ ?_)
      | (with_reducible refine LeO.bind ?_ (fun _ => ?_))
      | exact ih0 _ _ _ _ _ _ _ _ _ _ _ _ _
      | exact ih1 _ _ _ _ _ _ _ _ _ _ _ _ _ _ _
      | exact LeO.none _
      | refine LeO.ite ?_ ?_
      | refine LeO.bind ?_ (fun _ => ?_)
    · intro y0 y1 y2 y3 y4 y5 y6 y7 y8 y9 y10 y11 y12 y13 y14
      unfold order_Order_Choose.j1
      repeat' first
      | (with_reducible exact ih0 _ _ _ _ _ _ _ _ _ _ _ _ _)
      | (with_reducible exact ih1 _ _ _ _ _ _ _ _ _ _ _ _ _ _ _)
      | (with_reducible exact LeO.refl _)
      | (with_reducible exact LeO.none _)
      | (with_reducible refine LeO.ite ?_ ?_)
      | (with_reducible refine LeO.bind ?_ (fun _ => ?_))
      | exact ih0 _ _ _ _ _ _ _ _ _ _ _ _ _
      | exact ih1 _ _ _ _ _ _ _ _ _ _ _ _ _ _ _
      | exact LeO.none _
      | refine LeO.ite ?_ ?_
      | refine LeO.bind ?_ (fun _ => ?_)
theorem order_Order_Choose.mono : ∀ a0 a1 a2 a3 a4 a5 a6 a7 a8 k, LeO (order_Order_Choose.f k a0 a1 a2 a3 a4 a5 a6 a7 a8) (order_Order_Choose.f (k + 1) a0 a1 a2 a3 a4 a5 a6 a7 a8) := by
  intro a0 a1 a2 a3 a4 a5 a6 a7 a8 k
  obtain ⟨ih0, ih1⟩ := order_Order_Choose.mono_l k
  unfold order_Order_Choose.f
  repeat' first
      | (with_reducible exact ih0 _ _ _ _ _ _ _ _ _ _ _ _ _)
      | (with_reducible exact ih1 _ _ _ _ _ _ _ _ _ _ _ _ _ _ _)
      | (with_reducible exact LeO.refl _)
      | (with_reducible exact LeO.none _)
      | (with_reducible refine LeO.ite ?_ ?_)
      | (with_reducible refine LeO.bind ?_ (fun _ => ?_))
      | exact ih0 _ _ _ _ _ _ _ _ _ _ _ _ _
      | exact ih1 _ _ _ _ _ _ _ _ _ _ _ _ _ _ _
      | exact LeO.none _
      | refine LeO.ite ?_ ?_
      | refine LeO.bind ?_ (fun _ => ?_)
set_option maxHeartbeats 8000000 in
set_option maxRecDepth 100000 in
theorem order_Order_Choose.calls (G0 : Nat) (k : Nat) (a0_0 : Int) (a0_1 : Bool) (a0_2 : Bool) (a0_3 : Bool) (A0_4 : Option Addr) (c0_4 : Nat) (l0_4 : List (S95)) (A0_5 : Option Addr) (c0_5 : Nat) (l0_5 : List (List Int)) (a0_6 : Int) (A1 : Option Addr) (c1 : Nat) (l1 : List (S56)) (GD : Nat) (l2 : List Int) (r1 : Int) (r2 : Bool) (w : World) (hbx0 : w.heap[G0]? = some (.cells #[.int .i64 a0_0, .bool a0_1, .bool a0_2, .bool a0_3, .slice A0_4 l0_4.length c0_4, .slice A0_5 l0_5.length c0_5, .int .i64 a0_6] 89 (0, 0))) (hr0_4 : Kd.C k95 w A0_4 l0_4.length l0_4) (hc0_4 : l0_4.length ≤ c0_4) (hr0_5 : Kd.C (Kd.slice 3 (Kd.int .i64)) w A0_5 l0_5.length l0_5) (hc0_5 : l0_5.length ≤ c0_5) (hr1 : Kd.C k56 w A1 l1.length l1) (hc1 : l1.length ≤ c1) (hL2 : Left w GD l2) (h : order_Order_Choose.f k a0_0 a0_1 a0_2 a0_3 l0_4 l0_5 a0_6 l1 l2 = some (r1, r2)) :
    Calls Tryd.prog 13 #[.pointer (some ⟨G0, 0, none⟩), .slice A1 l1.length c1, .pointer (some ⟨GD, 0, none⟩)] w fun e w' => e = .returned (.tuple #[.int .i64 r1, .bool r2]) ∧ Still w w' GD := by
  have hu89 := Tryd.underlying89
  have hu56 := Tryd.underlying56
  have BKG0 := Aside0.mk hbx0
  clear hbx0
  have HR0_4 := Aside0.mk hr0_4
  have HC0_4 := Aside0.mk hc0_4
  clear hr0_4 hc0_4
  have HR0_5 := Aside0.mk hr0_5
  have HC0_5 := Aside0.mk hc0_5
  clear hr0_5 hc0_5
  have HR1 := Aside0.mk hr1
  have HC1 := Aside0.mk hc1
  clear hr1 hc1
  have GLT := Aside0.mk hL2.lt
  have HL2 := Aside0.mk hL2
  clear hL2
  have HB := Aside0.mk (Below.refl w.heap.size w)
  have H : (if (l1.length : Int) = (l0_4.length : Int) then (if a0_1 = true then (none) else (order_Order_Choose.l0 k l1 l2 ([] : List Int) l1 (l1.length : Int) 0 a0_0 a0_1 a0_2 a0_3 l0_4 l0_5 a0_6)) else (none)) = some (r1, r2) := h
  clear h
  by_cases c4 : (l1.length : Int) = (l0_4.length : Int)
  · rw [if_pos c4] at H
    have c4b0 : ((l1.length : Int) == (l0_4.length : Int)) = true := beq_iff_eq.mpr c4
    have c4b1 : ((l1.length : Int) != (l0_4.length : Int)) = false := bne_eq_false_iff_eq.mpr c4
    have c4b2 : (l1.length == l0_4.length) = true := by first | simpa using c4 | (simp at c4 ⊢; omega)
    clear c4
    by_cases c5 : a0_1 = true
    · subst c5
      have H1 : (none) = some (r1, r2) := by rw [if_pos rfl] at H; exact H
      clear H
      have H := H1
      clear H1
      exact absurd H (by simp)
    · replace c5 := Bool.eq_false_iff.mpr c5
      subst c5
      have H1 : (order_Order_Choose.l0 k l1 l2 ([] : List Int) l1 (l1.length : Int) 0 a0_0 false a0_2 a0_3 l0_4 l0_5 a0_6) = some (r1, r2) := by rw [if_neg (show ¬ (false = true) by decide)] at H; exact H
      clear H
      have H := H1
      clear H1
      have H' := Aside0.mk H
      clear H
      have hcz7_0 : w.cell? ⟨G0, 0, none⟩ = some (.int .i64 a0_0) := (blk_cell BKG0.out 0).trans rfl
      have hcz7_1 : w.cell? ⟨G0, 1, none⟩ = some (.bool false) := (blk_cell BKG0.out 1).trans rfl
      have hcz7_2 : w.cell? ⟨G0, 2, none⟩ = some (.bool a0_2) := (blk_cell BKG0.out 2).trans rfl
      have hcz7_3 : w.cell? ⟨G0, 3, none⟩ = some (.bool a0_3) := (blk_cell BKG0.out 3).trans rfl
      have hcz7_4 : w.cell? ⟨G0, 4, none⟩ = some (.slice A0_4 l0_4.length c0_4) := (blk_cell BKG0.out 4).trans rfl
      have hcz7_5 : w.cell? ⟨G0, 5, none⟩ = some (.slice A0_5 l0_5.length c0_5) := (blk_cell BKG0.out 5).trans rfl
      have hcz7_6 : w.cell? ⟨G0, 6, none⟩ = some (.int .i64 a0_6) := (blk_cell BKG0.out 6).trans rfl
      have hfz7_0 := blk_frozen BKG0.out 0
      have hfz7_1 := blk_frozen BKG0.out 1
      have hfz7_2 := blk_frozen BKG0.out 2
      have hfz7_3 := blk_frozen BKG0.out 3
      have hfz7_4 := blk_frozen BKG0.out 4
      have hfz7_5 := blk_frozen BKG0.out 5
      have hfz7_6 := blk_frozen BKG0.out 6
      go_enter Tryd.func13, Tryd.ntmps13
      go_wp2
      go_loopg [8, 53] k (fun kq v8 v53 w' => ∃ (x8_1 : List Int) (x53_1 : Int), v53 = .int .i64 x53_1 ∧ Aside0 (order_Order_Choose.l0 kq l1 l2 x8_1 l1 (l1.length : Int) x53_1 a0_0 false a0_2 a0_3 l0_4 l0_5 a0_6 = some (r1, r2)) ∧ Aside0 (kq ≤ k) ∧ Aside0 (Kd.R (Kd.int .i64) 3 w' w.heap.size (fun _ => True) v8 x8_1) ∧ Aside0 (w'.heap[G0]? = some (.cells #[.int .i64 a0_0, .bool false, .bool a0_2, .bool a0_3, (.slice A0_4 l0_4.length c0_4), (.slice A0_5 l0_5.length c0_5), .int .i64 a0_6] 89 (0, 0))) ∧ Aside0 (Below w.heap.size w w'))
      case atStart => exact ⟨(([] : List Int)), (0), (by first | rfl | (simp; done) | (simp [*]; done)), H', ⟨Nat.le_refl _⟩, ⟨by first | exact Kd.R_nil _ _ _ _ _ | exact Kd.N_nil _ _ _ _ _ | exact Kd.V_nil _ _ _ _ _ | exact Kd.Q_nil _ _ _ _ _ | exact Kd.S_nil _ _ _ _ _⟩, ⟨by (with_reducible repeat (first | refine blk_drewN ?_ _ | refine blk_drew ?_ | refine blk_alloc ?_ _)); exact BKG0.out⟩, ⟨by repeat (first | (with_reducible first | exact HB.out | apply below_alloc | apply pw_below_drewN | apply below_drew1) | exact HB.out)⟩⟩
      case round =>
        clear H'
        try clear c1
        try clear c2
        try clear p2
        try clear c4
        try clear c4b0
        try clear c4b1
        try clear c4b2
        try clear c5
        try clear hcz7_0
        try clear hcz7_1
        try clear hcz7_2
        try clear hcz7_3
        try clear hcz7_4
        try clear hcz7_5
        try clear hcz7_6
        try clear hfz7_0
        try clear hfz7_1
        try clear hfz7_2
        try clear hfz7_3
        try clear hfz7_4
        try clear hfz7_5
        try clear hfz7_6
        obtain ⟨x8_1, x53_1, rfl, HA, HK1, HO_8, BKG0, HB⟩ := hrel
        cases gk with
        | zero => exact absurd HA.out (by simp [order_Order_Choose.l0])
        | succ k1 =>
          have H := HA.out
          clear HA
          simp only [order_Order_Choose.l0] at H
          by_cases c8 : x53_1 < (l1.length : Int)
          · rw [if_pos c8] at H
            have c8b0 : decide (x53_1 < (l1.length : Int)) = true := decide_eq_true c8
            clear c8
            by_cases c9 : 0 ≤ x53_1
            · rw [if_pos c9] at H
              have c9b0 : decide (0 ≤ x53_1) = true := decide_eq_true c9
              clear c9
              by_cases c10 : x53_1 < (l1.length : Int)
              · rw [if_pos c10] at H
                have c10b0 : decide (x53_1 < (l1.length : Int)) = true := decide_eq_true c10
                clear c10
                replace H := Option.bind_eq_some_iff.mp H
                obtain ⟨t256, A110, H⟩ := H
                replace H : (if t256 < 2 then (order_Order_Choose.l0 k1 l1 l2 x8_1 l1 (l1.length : Int) (wrap64 (x53_1 + 1)) a0_0 false a0_2 a0_3 l0_4 l0_5 a0_6) else (if (x8_1.length : Int) > 0 then (if 0 < (x8_1.length : Int) then ((order_Order_compare.f a0_0 false a0_2 a0_3 l0_4 l0_5 a0_6 x53_1 (rd x8_1 0) l1).bind fun t258 => (order_Order_Choose.j1 k1 l1 l2 x8_1 x53_1 t258 l1 (l1.length : Int) x53_1 a0_0 false a0_2 a0_3 l0_4 l0_5 a0_6)) else (none)) else (order_Order_Choose.j1 k1 l1 l2 x8_1 x53_1 0 l1 (l1.length : Int) x53_1 a0_0 false a0_2 a0_3 l0_4 l0_5 a0_6))) = some (r1, r2) := H
                have A11 := Aside0.mk A110
                clear A110
                by_cases c12 : t256 < 2
                · rw [if_pos c12] at H
                  have c12b0 : decide (t256 < 2) = true := decide_eq_true c12
                  clear c12
                  have H' := Aside0.mk H
                  clear H
                  have p254 : 0 ≤ (x53_1 : Int) := of_decide_eq_true (by first | (with_reducible assumption) | assumption)
                  have q254 : x53_1 < (l1.length : Int) := of_decide_eq_true (by first | (with_reducible assumption) | assumption)
                  obtain ⟨ad254, A254_1, c254_1, e254, hx254_0, hx254_1, hx254_2, hx254_3, hx254_4, hl254_1, hi254_1⟩ := at_T56 HR1.out x53_1 p254 q254
                  cases e254
                  replace hx254_0 := (HB.out.cell (World.block_lt_of_cell? w _ hx254_0)).trans hx254_0
                  replace hx254_1 := (HB.out.cell (World.block_lt_of_cell? w _ hx254_1)).trans hx254_1
                  replace hx254_2 := (HB.out.cell (World.block_lt_of_cell? w _ hx254_2)).trans hx254_2
                  replace hx254_3 := (HB.out.cell (World.block_lt_of_cell? w _ hx254_3)).trans hx254_3
                  replace hx254_4 := (HB.out.cell (World.block_lt_of_cell? w _ hx254_4)).trans hx254_4
                  have HR254_1 := Aside0.mk hi254_1
                  have HC254_1 := Aside0.mk hl254_1
                  clear hi254_1 hl254_1
                  replace p254 := eq_true p254
                  replace q254 := eq_true q254
                  go_wp2_with (first | ((with_reducible refine gate_dst (N := 10) rfl ?_); refine box_event ?hg (N := 10) ?hd (cs := #[.int .i64 0, .slice none 0 0, .int .i64 0, .int .i64 0, .int .i64 0]) (t := 56) ?hr ?_; (case hd => rfl); (case hg => rfl); (case hr => first | (go_simp; done) | (go_simp; rfl)); intro gb255 hg w13 hbox hb; have n0_ := Aside0.mk (Kd.R_below (by (with_reducible repeat (first | apply Kd.R_alloc | apply Kd.R_drewN | apply Kd.R_drew)); exact HO_8.out) hb); have n1_ := Aside0.mk (blk_below (g := G0) (o := .cells #[.int .i64 a0_0, .bool false, .bool a0_2, .bool a0_3, .slice A0_4 l0_4.length c0_4, .slice A0_5 l0_5.length c0_5, .int .i64 a0_6] 89 (0, 0)) (by (with_reducible repeat (first | refine blk_drewN ?_ _ | refine blk_drew ?_ | refine blk_alloc ?_ _)); exact BKG0.out) hb); have n2_ := Aside0.mk (below_step (by repeat (first | (with_reducible first | exact HB.out | apply below_alloc | apply pw_below_drewN | apply below_drew1) | exact HB.out)) hb); have n3_ := Aside0.mk (hbox); have n4_ := Aside0.mk ((by rw [hg]; exact (below_size (by repeat (first | (with_reducible first | exact HB.out | apply below_alloc | apply pw_below_drewN | apply below_drew1) | exact HB.out))) : w.heap.size ≤ gb255)); have n5_ := Aside0.mk ((by rw [hg]; exact (below_size (by repeat (first | (with_reducible first | exact HB.out | apply below_alloc | apply pw_below_drewN | apply below_drew1) | exact HB.out))) : w.heap.size ≤ gb255)); have n6_ := Aside0.mk ((by rw [hg]; exact Nat.ne_of_lt (blk_lt (g := G0) (o := .cells #[.int .i64 a0_0, .bool false, .bool a0_2, .bool a0_3, .slice A0_4 l0_4.length c0_4, .slice A0_5 l0_5.length c0_5, .int .i64 a0_6] 89 (0, 0)) (by (with_reducible repeat (first | refine blk_drewN ?_ _ | refine blk_drew ?_ | refine blk_alloc ?_ _)); exact BKG0.out)) : G0 ≠ gb255)); have n7_ := Aside0.mk ((by rw [hg]; exact Nat.ne_of_gt (blk_lt (g := G0) (o := .cells #[.int .i64 a0_0, .bool false, .bool a0_2, .bool a0_3, .slice A0_4 l0_4.length c0_4, .slice A0_5 l0_5.length c0_5, .int .i64 a0_6] 89 (0, 0)) (by (with_reducible repeat (first | refine blk_drewN ?_ _ | refine blk_drew ?_ | refine blk_alloc ?_ _)); exact BKG0.out)) : gb255 ≠ G0)); clear HO_8; clear BKG0; clear HB; have HO_8 := n0_; have BKG0 := n1_; have HB := n2_; have BK255 := n3_; have GW255 := n4_; have GE255 := n5_; have NBG0_255 := n6_; have NB255_G0 := n7_; clear n0_ n1_ n2_ n3_ n4_ n5_ n6_ n7_; clear hb hbox hg; have hnb14 := NB255_G0.out; have hnc14 := NBG0_255.out; have hcz15_0 : w13.cell? ⟨gb255, 0, none⟩ = some (.int .i64 0) := (blk_cell BK255.out 0).trans rfl; have hcz15_1 : w13.cell? ⟨gb255, 1, none⟩ = some (.slice none 0 0) := (blk_cell BK255.out 1).trans rfl; have hcz15_2 : w13.cell? ⟨gb255, 2, none⟩ = some (.int .i64 0) := (blk_cell BK255.out 2).trans rfl; have hcz15_3 : w13.cell? ⟨gb255, 3, none⟩ = some (.int .i64 0) := (blk_cell BK255.out 3).trans rfl; have hcz15_4 : w13.cell? ⟨gb255, 4, none⟩ = some (.int .i64 0) := (blk_cell BK255.out 4).trans rfl; have hfz15_0 := blk_frozen BK255.out 0; have hfz15_1 := blk_frozen BK255.out 1; have hfz15_2 := blk_frozen BK255.out 2; have hfz15_3 := blk_frozen BK255.out 3; have hfz15_4 := blk_frozen BK255.out 4) | ((with_reducible refine gate_callee (f := 19) rfl ?_); refine goesL_ (some 59) rfl rfl Tryd.func19 (by kernel_rfl) rfl #[.agg #[.int .i64 ((rd_T56 l1 x53_1).f0), .slice A254_1 ((rd_T56 l1 x53_1).f1).length c254_1, .int .i64 ((rd_T56 l1 x53_1).f2), .int .i64 ((rd_T56 l1 x53_1).f3), .int .i64 ((rd_T56 l1 x53_1).f4)]] rfl (by (try simp only [List.map_toArray, List.map_cons, List.map_nil]); first | done | rfl | (simp only [List.length_drop, List.length_take]; rfl)) ?_; (with_reducible refine (dom_Dom_Size.calls ((rd_T56 l1 x53_1).f0) _ _ ((rd_T56 l1 x53_1).f1) ((rd_T56 l1 x53_1).f2) ((rd_T56 l1 x53_1).f3) ((rd_T56 l1 x53_1).f4) t256 _ ?side1 ?side2 A11.out).mono ?_); (case side1 => exact Kd.C_below HR254_1.out (by repeat (first | (with_reducible first | exact HB.out | apply below_alloc | apply pw_below_drewN | apply below_drew1 | refine below_set ?_ GE255.out) | exact HB.out))); (case side2 => exact HC254_1.out); rintro e w16 ⟨rfl, hb⟩; refine ⟨_, rfl, ?_⟩; have n0_ := Aside0.mk (Kd.R_below (by (with_reducible repeat (first | apply Kd.R_alloc | apply Kd.R_drewN | apply Kd.R_drew)); exact (Kd.R_mono (Kd.R_far (p := ⟨gb255, 4, none⟩) (Kd.R_far (p := ⟨gb255, 3, none⟩) (Kd.R_far (p := ⟨gb255, 2, none⟩) (Kd.R_far (p := ⟨gb255, 1, none⟩) (Kd.R_far (p := ⟨gb255, 0, none⟩) (Kd.R_types HO_8.out BK255.out (by decide)) (fun _ hk => hk.2) (.int .i64 ((rd_T56 l1 x53_1).f0))) (fun _ hk => hk.2) (.slice A254_1 ((rd_T56 l1 x53_1).f1).length c254_1)) (fun _ hk => hk.2) (.int .i64 ((rd_T56 l1 x53_1).f2))) (fun _ hk => hk.2) (.int .i64 ((rd_T56 l1 x53_1).f3))) (fun _ hk => hk.2) (.int .i64 ((rd_T56 l1 x53_1).f4))) (fun _ h_ => h_.1))) hb); have n1_ := Aside0.mk (blk_below (g := G0) (o := .cells #[.int .i64 a0_0, .bool false, .bool a0_2, .bool a0_3, .slice A0_4 l0_4.length c0_4, .slice A0_5 l0_5.length c0_5, .int .i64 a0_6] 89 (0, 0)) (by (with_reducible repeat (first | refine blk_drewN ?_ _ | refine blk_drew ?_ | refine blk_alloc ?_ _)); refine blk_far ?_ NBG0_255.out _; (with_reducible repeat (first | refine blk_drewN ?_ _ | refine blk_drew ?_ | refine blk_alloc ?_ _)); refine blk_far ?_ NBG0_255.out _; (with_reducible repeat (first | refine blk_drewN ?_ _ | refine blk_drew ?_ | refine blk_alloc ?_ _)); refine blk_far ?_ NBG0_255.out _; (with_reducible repeat (first | refine blk_drewN ?_ _ | refine blk_drew ?_ | refine blk_alloc ?_ _)); refine blk_far ?_ NBG0_255.out _; (with_reducible repeat (first | refine blk_drewN ?_ _ | refine blk_drew ?_ | refine blk_alloc ?_ _)); refine blk_far ?_ NBG0_255.out _; (with_reducible repeat (first | refine blk_drewN ?_ _ | refine blk_drew ?_ | refine blk_alloc ?_ _)); exact BKG0.out) hb); have n2_ := Aside0.mk (blk_below (g := gb255) (o := .cells #[.int .i64 ((rd_T56 l1 x53_1).f0), .slice A254_1 ((rd_T56 l1 x53_1).f1).length c254_1, .int .i64 ((rd_T56 l1 x53_1).f2), .int .i64 ((rd_T56 l1 x53_1).f3), .int .i64 ((rd_T56 l1 x53_1).f4)] 56 (0, 0)) (by (with_reducible repeat (first | refine blk_drewN ?_ _ | refine blk_drew ?_ | refine blk_alloc ?_ _)); refine blk_put (cs := #[.int .i64 ((rd_T56 l1 x53_1).f0), .slice A254_1 ((rd_T56 l1 x53_1).f1).length c254_1, .int .i64 ((rd_T56 l1 x53_1).f2), .int .i64 ((rd_T56 l1 x53_1).f3), .int .i64 0]) ?_ 4 _ rfl; (with_reducible repeat (first | refine blk_drewN ?_ _ | refine blk_drew ?_ | refine blk_alloc ?_ _)); refine blk_put (cs := #[.int .i64 ((rd_T56 l1 x53_1).f0), .slice A254_1 ((rd_T56 l1 x53_1).f1).length c254_1, .int .i64 ((rd_T56 l1 x53_1).f2), .int .i64 0, .int .i64 0]) ?_ 3 _ rfl; (with_reducible repeat (first | refine blk_drewN ?_ _ | refine blk_drew ?_ | refine blk_alloc ?_ _)); refine blk_put (cs := #[.int .i64 ((rd_T56 l1 x53_1).f0), .slice A254_1 ((rd_T56 l1 x53_1).f1).length c254_1, .int .i64 0, .int .i64 0, .int .i64 0]) ?_ 2 _ rfl; (with_reducible repeat (first | refine blk_drewN ?_ _ | refine blk_drew ?_ | refine blk_alloc ?_ _)); refine blk_put (cs := #[.int .i64 ((rd_T56 l1 x53_1).f0), .slice none 0 0, .int .i64 0, .int .i64 0, .int .i64 0]) ?_ 1 _ rfl; (with_reducible repeat (first | refine blk_drewN ?_ _ | refine blk_drew ?_ | refine blk_alloc ?_ _)); refine blk_put (cs := #[.int .i64 0, .slice none 0 0, .int .i64 0, .int .i64 0, .int .i64 0]) ?_ 0 _ rfl; (with_reducible repeat (first | refine blk_drewN ?_ _ | refine blk_drew ?_ | refine blk_alloc ?_ _)); exact BK255.out) hb); have n3_ := Aside0.mk (below_step (by repeat (first | (with_reducible first | exact HB.out | apply below_alloc | apply pw_below_drewN | apply below_drew1 | refine below_set ?_ GE255.out) | exact HB.out)) hb); clear HO_8; clear BKG0; clear BK255; clear HB; have HO_8 := n0_; have BKG0 := n1_; have BK255 := n2_; have HB := n3_; clear n0_ n1_ n2_ n3_; (try clear hb); (try clear hb2); (try clear hk); (try clear hi)))
                  go_roundg k1
                  case measure => have := HK1.out; omega
                  case rel => exact ⟨(x8_1), (wrap64 (x53_1 + 1)), (by first | rfl | (simp; done) | (simp [*]; done)), H', ⟨by have := HK1.out; omega⟩, ⟨by (with_reducible repeat (first | apply Kd.R_alloc | apply Kd.R_drewN | apply Kd.R_drew)); exact HO_8.out⟩, ⟨by (with_reducible repeat (first | refine blk_drewN ?_ _ | refine blk_drew ?_ | refine blk_alloc ?_ _)); exact BKG0.out⟩, ⟨by repeat (first | (with_reducible first | exact HB.out | apply below_alloc | apply pw_below_drewN | apply below_drew1 | refine below_set ?_ GE255.out) | exact HB.out)⟩⟩
                · rw [if_neg c12] at H
                  have c12b0 : decide (t256 < 2) = false := decide_eq_false c12
                  clear c12
                  have HC17 := Aside0.mk H
                  clear H
                  have p254 : 0 ≤ (x53_1 : Int) := of_decide_eq_true (by first | (with_reducible assumption) | assumption)
                  have q254 : x53_1 < (l1.length : Int) := of_decide_eq_true (by first | (with_reducible assumption) | assumption)
                  obtain ⟨ad254, A254_1, c254_1, e254, hx254_0, hx254_1, hx254_2, hx254_3, hx254_4, hl254_1, hi254_1⟩ := at_T56 HR1.out x53_1 p254 q254
                  cases e254
                  replace hx254_0 := (HB.out.cell (World.block_lt_of_cell? w _ hx254_0)).trans hx254_0
                  replace hx254_1 := (HB.out.cell (World.block_lt_of_cell? w _ hx254_1)).trans hx254_1
                  replace hx254_2 := (HB.out.cell (World.block_lt_of_cell? w _ hx254_2)).trans hx254_2
                  replace hx254_3 := (HB.out.cell (World.block_lt_of_cell? w _ hx254_3)).trans hx254_3
                  replace hx254_4 := (HB.out.cell (World.block_lt_of_cell? w _ hx254_4)).trans hx254_4
                  have HR254_1 := Aside0.mk hi254_1
                  have HC254_1 := Aside0.mk hl254_1
                  clear hi254_1 hl254_1
                  replace p254 := eq_true p254
                  replace q254 := eq_true q254
                  go_upto_if 63 with (first | ((with_reducible refine gate_dst (N := 10) rfl ?_); refine box_event ?hg (N := 10) ?hd (cs := #[.int .i64 0, .slice none 0 0, .int .i64 0, .int .i64 0, .int .i64 0]) (t := 56) ?hr ?_; (case hd => rfl); (case hg => rfl); (case hr => first | (go_simp; done) | (go_simp; rfl)); intro gb255 hg w18 hbox hb; have n0_ := Aside0.mk (Kd.R_below (by (with_reducible repeat (first | apply Kd.R_alloc | apply Kd.R_drewN | apply Kd.R_drew)); exact HO_8.out) hb); have n1_ := Aside0.mk (blk_below (g := G0) (o := .cells #[.int .i64 a0_0, .bool false, .bool a0_2, .bool a0_3, .slice A0_4 l0_4.length c0_4, .slice A0_5 l0_5.length c0_5, .int .i64 a0_6] 89 (0, 0)) (by (with_reducible repeat (first | refine blk_drewN ?_ _ | refine blk_drew ?_ | refine blk_alloc ?_ _)); exact BKG0.out) hb); have n2_ := Aside0.mk (below_step (by repeat (first | (with_reducible first | exact HB.out | apply below_alloc | apply pw_below_drewN | apply below_drew1) | exact HB.out)) hb); have n3_ := Aside0.mk (hbox); have n4_ := Aside0.mk ((by rw [hg]; exact (below_size (by repeat (first | (with_reducible first | exact HB.out | apply below_alloc | apply pw_below_drewN | apply below_drew1) | exact HB.out))) : w.heap.size ≤ gb255)); have n5_ := Aside0.mk ((by rw [hg]; exact (below_size (by repeat (first | (with_reducible first | exact HB.out | apply below_alloc | apply pw_below_drewN | apply below_drew1) | exact HB.out))) : w.heap.size ≤ gb255)); have n6_ := Aside0.mk ((by rw [hg]; exact Nat.ne_of_lt (blk_lt (g := G0) (o := .cells #[.int .i64 a0_0, .bool false, .bool a0_2, .bool a0_3, .slice A0_4 l0_4.length c0_4, .slice A0_5 l0_5.length c0_5, .int .i64 a0_6] 89 (0, 0)) (by (with_reducible repeat (first | refine blk_drewN ?_ _ | refine blk_drew ?_ | refine blk_alloc ?_ _)); exact BKG0.out)) : G0 ≠ gb255)); have n7_ := Aside0.mk ((by rw [hg]; exact Nat.ne_of_gt (blk_lt (g := G0) (o := .cells #[.int .i64 a0_0, .bool false, .bool a0_2, .bool a0_3, .slice A0_4 l0_4.length c0_4, .slice A0_5 l0_5.length c0_5, .int .i64 a0_6] 89 (0, 0)) (by (with_reducible repeat (first | refine blk_drewN ?_ _ | refine blk_drew ?_ | refine blk_alloc ?_ _)); exact BKG0.out)) : gb255 ≠ G0)); clear HO_8; clear BKG0; clear HB; have HO_8 := n0_; have BKG0 := n1_; have HB := n2_; have BK255 := n3_; have GW255 := n4_; have GE255 := n5_; have NBG0_255 := n6_; have NB255_G0 := n7_; clear n0_ n1_ n2_ n3_ n4_ n5_ n6_ n7_; clear hb hbox hg; have hnb19 := NB255_G0.out; have hnc19 := NBG0_255.out; have hcz20_0 : w18.cell? ⟨gb255, 0, none⟩ = some (.int .i64 0) := (blk_cell BK255.out 0).trans rfl; have hcz20_1 : w18.cell? ⟨gb255, 1, none⟩ = some (.slice none 0 0) := (blk_cell BK255.out 1).trans rfl; have hcz20_2 : w18.cell? ⟨gb255, 2, none⟩ = some (.int .i64 0) := (blk_cell BK255.out 2).trans rfl; have hcz20_3 : w18.cell? ⟨gb255, 3, none⟩ = some (.int .i64 0) := (blk_cell BK255.out 3).trans rfl; have hcz20_4 : w18.cell? ⟨gb255, 4, none⟩ = some (.int .i64 0) := (blk_cell BK255.out 4).trans rfl; have hfz20_0 := blk_frozen BK255.out 0; have hfz20_1 := blk_frozen BK255.out 1; have hfz20_2 := blk_frozen BK255.out 2; have hfz20_3 := blk_frozen BK255.out 3; have hfz20_4 := blk_frozen BK255.out 4) | ((with_reducible refine gate_callee (f := 19) rfl ?_); refine goesL_ (some 59) rfl rfl Tryd.func19 (by kernel_rfl) rfl #[.agg #[.int .i64 ((rd_T56 l1 x53_1).f0), .slice A254_1 ((rd_T56 l1 x53_1).f1).length c254_1, .int .i64 ((rd_T56 l1 x53_1).f2), .int .i64 ((rd_T56 l1 x53_1).f3), .int .i64 ((rd_T56 l1 x53_1).f4)]] rfl (by (try simp only [List.map_toArray, List.map_cons, List.map_nil]); first | done | rfl | (simp only [List.length_drop, List.length_take]; rfl)) ?_; (with_reducible refine (dom_Dom_Size.calls ((rd_T56 l1 x53_1).f0) _ _ ((rd_T56 l1 x53_1).f1) ((rd_T56 l1 x53_1).f2) ((rd_T56 l1 x53_1).f3) ((rd_T56 l1 x53_1).f4) t256 _ ?side1 ?side2 A11.out).mono ?_); (case side1 => exact Kd.C_below HR254_1.out (by repeat (first | (with_reducible first | exact HB.out | apply below_alloc | apply pw_below_drewN | apply below_drew1 | refine below_set ?_ GE255.out) | exact HB.out))); (case side2 => exact HC254_1.out); rintro e w21 ⟨rfl, hb⟩; refine ⟨_, rfl, ?_⟩; have n0_ := Aside0.mk (Kd.R_below (by (with_reducible repeat (first | apply Kd.R_alloc | apply Kd.R_drewN | apply Kd.R_drew)); exact (Kd.R_mono (Kd.R_far (p := ⟨gb255, 4, none⟩) (Kd.R_far (p := ⟨gb255, 3, none⟩) (Kd.R_far (p := ⟨gb255, 2, none⟩) (Kd.R_far (p := ⟨gb255, 1, none⟩) (Kd.R_far (p := ⟨gb255, 0, none⟩) (Kd.R_types HO_8.out BK255.out (by decide)) (fun _ hk => hk.2) (.int .i64 ((rd_T56 l1 x53_1).f0))) (fun _ hk => hk.2) (.slice A254_1 ((rd_T56 l1 x53_1).f1).length c254_1)) (fun _ hk => hk.2) (.int .i64 ((rd_T56 l1 x53_1).f2))) (fun _ hk => hk.2) (.int .i64 ((rd_T56 l1 x53_1).f3))) (fun _ hk => hk.2) (.int .i64 ((rd_T56 l1 x53_1).f4))) (fun _ h_ => h_.1))) hb); have n1_ := Aside0.mk (blk_below (g := G0) (o := .cells #[.int .i64 a0_0, .bool false, .bool a0_2, .bool a0_3, .slice A0_4 l0_4.length c0_4, .slice A0_5 l0_5.length c0_5, .int .i64 a0_6] 89 (0, 0)) (by (with_reducible repeat (first | refine blk_drewN ?_ _ | refine blk_drew ?_ | refine blk_alloc ?_ _)); refine blk_far ?_ NBG0_255.out _; (with_reducible repeat (first | refine blk_drewN ?_ _ | refine blk_drew ?_ | refine blk_alloc ?_ _)); refine blk_far ?_ NBG0_255.out _; (with_reducible repeat (first | refine blk_drewN ?_ _ | refine blk_drew ?_ | refine blk_alloc ?_ _)); refine blk_far ?_ NBG0_255.out _; (with_reducible repeat (first | refine blk_drewN ?_ _ | refine blk_drew ?_ | refine blk_alloc ?_ _)); refine blk_far ?_ NBG0_255.out _; (with_reducible repeat (first | refine blk_drewN ?_ _ | refine blk_drew ?_ | refine blk_alloc ?_ _)); refine blk_far ?_ NBG0_255.out _; (with_reducible repeat (first | refine blk_drewN ?_ _ | refine blk_drew ?_ | refine blk_alloc ?_ _)); exact BKG0.out) hb); have n2_ := Aside0.mk (blk_below (g := gb255) (o := .cells #[.int .i64 ((rd_T56 l1 x53_1).f0), .slice A254_1 ((rd_T56 l1 x53_1).f1).length c254_1, .int .i64 ((rd_T56 l1 x53_1).f2), .int .i64 ((rd_T56 l1 x53_1).f3), .int .i64 ((rd_T56 l1 x53_1).f4)] 56 (0, 0)) (by (with_reducible repeat (first | refine blk_drewN ?_ _ | refine blk_drew ?_ | refine blk_alloc ?_ _)); refine blk_put (cs := #[.int .i64 ((rd_T56 l1 x53_1).f0), .slice A254_1 ((rd_T56 l1 x53_1).f1).length c254_1, .int .i64 ((rd_T56 l1 x53_1).f2), .int .i64 ((rd_T56 l1 x53_1).f3), .int .i64 0]) ?_ 4 _ rfl; (with_reducible repeat (first | refine blk_drewN ?_ _ | refine blk_drew ?_ | refine blk_alloc ?_ _)); refine blk_put (cs := #[.int .i64 ((rd_T56 l1 x53_1).f0), .slice A254_1 ((rd_T56 l1 x53_1).f1).length c254_1, .int .i64 ((rd_T56 l1 x53_1).f2), .int .i64 0, .int .i64 0]) ?_ 3 _ rfl; (with_reducible repeat (first | refine blk_drewN ?_ _ | refine blk_drew ?_ | refine blk_alloc ?_ _)); refine blk_put (cs := #[.int .i64 ((rd_T56 l1 x53_1).f0), .slice A254_1 ((rd_T56 l1 x53_1).f1).length c254_1, .int .i64 0, .int .i64 0, .int .i64 0]) ?_ 2 _ rfl; (with_reducible repeat (first | refine blk_drewN ?_ _ | refine blk_drew ?_ | refine blk_alloc ?_ _)); refine blk_put (cs := #[.int .i64 ((rd_T56 l1 x53_1).f0), .slice none 0 0, .int .i64 0, .int .i64 0, .int .i64 0]) ?_ 1 _ rfl; (with_reducible repeat (first | refine blk_drewN ?_ _ | refine blk_drew ?_ | refine blk_alloc ?_ _)); refine blk_put (cs := #[.int .i64 0, .slice none 0 0, .int .i64 0, .int .i64 0, .int .i64 0]) ?_ 0 _ rfl; (with_reducible repeat (first | refine blk_drewN ?_ _ | refine blk_drew ?_ | refine blk_alloc ?_ _)); exact BK255.out) hb); have n3_ := Aside0.mk (below_step (by repeat (first | (with_reducible first | exact HB.out | apply below_alloc | apply pw_below_drewN | apply below_drew1 | refine below_set ?_ GE255.out) | exact HB.out)) hb); clear HO_8; clear BKG0; clear BK255; clear HB; have HO_8 := n0_; have BKG0 := n1_; have BK255 := n2_; have HB := n3_; clear n0_ n1_ n2_ n3_; (try clear hb); (try clear hb2); (try clear hk); (try clear hi); obtain ⟨Ao22, co22, eo22⟩ := Kd.R_slice HO_8.out; subst eo22))
                  (try simp only [Act.put, List.setIfInBounds_toArray, List.set_cons_zero, List.set_cons_succ])
                  go_cut [11] (fun v11 wc => ∃ (kq : Nat) (x11_16 : Int), v11 = .int .i64 x11_16 ∧ Aside0 (order_Order_Choose.j1 kq l1 l2 x8_1 x53_1 x11_16 l1 (l1.length : Int) x53_1 a0_0 false a0_2 a0_3 l0_4 l0_5 a0_6 = some (r1, r2)) ∧ Aside0 (kq ≤ k1) ∧ Aside0 (Kd.R (Kd.int .i64) 3 wc w.heap.size (fun _ => True) (.slice Ao22 x8_1.length co22) x8_1) ∧ Aside0 (wc.heap[G0]? = some (.cells #[.int .i64 a0_0, .bool false, .bool a0_2, .bool a0_3, (.slice A0_4 l0_4.length c0_4), (.slice A0_5 l0_5.length c0_5), .int .i64 a0_6] 89 (0, 0))) ∧ Aside0 (wc.heap[gb255]? = some (.cells #[.int .i64 ((rd_T56 l1 x53_1).f0), (.slice A254_1 ((rd_T56 l1 x53_1).f1).length c254_1), .int .i64 ((rd_T56 l1 x53_1).f2), .int .i64 ((rd_T56 l1 x53_1).f3), .int .i64 ((rd_T56 l1 x53_1).f4)] 56 (0, 0))) ∧ Aside0 (Below w.heap.size w wc))
                  case first =>
                    have H := HC17.out
                    clear HC17
                    by_cases c23 : (x8_1.length : Int) > 0
                    · rw [if_pos c23] at H
                      have c23b0 : decide (0 < (x8_1.length : Int)) = true := decide_eq_true c23
                      have c23b1 : decide (0 < x8_1.length) = true := decide_eq_true (by omega)
                      clear c23
                      (first | rw [c23b0] | rw [c23b1] | (simp only [i64_w, i32_w]; rw [c23b0]) | skip)
                      by_cases c24 : 0 < (x8_1.length : Int)
                      · rw [if_pos c24] at H
                        have c24b0 : decide (0 < (x8_1.length : Int)) = true := decide_eq_true c24
                        have c24b1 : decide (0 < x8_1.length) = true := decide_eq_true (by omega)
                        clear c24
                        replace H := Option.bind_eq_some_iff.mp H
                        obtain ⟨t258, A250, H⟩ := H
                        replace H : (order_Order_Choose.j1 k1 l1 l2 x8_1 x53_1 t258 l1 (l1.length : Int) x53_1 a0_0 false a0_2 a0_3 l0_4 l0_5 a0_6) = some (r1, r2) := H
                        have A25 := Aside0.mk A250
                        clear A250
                        have H' := Aside0.mk H
                        clear H
                        have hnb26 := NBG0_255.out
                        have hnc26 := NB255_G0.out
                        have hcz27_0 : w21.cell? ⟨G0, 0, none⟩ = some (.int .i64 a0_0) := (blk_cell BKG0.out 0).trans rfl
                        have hcz27_1 : w21.cell? ⟨G0, 1, none⟩ = some (.bool false) := (blk_cell BKG0.out 1).trans rfl
                        have hcz27_2 : w21.cell? ⟨G0, 2, none⟩ = some (.bool a0_2) := (blk_cell BKG0.out 2).trans rfl
                        have hcz27_3 : w21.cell? ⟨G0, 3, none⟩ = some (.bool a0_3) := (blk_cell BKG0.out 3).trans rfl
                        have hcz27_4 : w21.cell? ⟨G0, 4, none⟩ = some (.slice A0_4 l0_4.length c0_4) := (blk_cell BKG0.out 4).trans rfl
                        have hcz27_5 : w21.cell? ⟨G0, 5, none⟩ = some (.slice A0_5 l0_5.length c0_5) := (blk_cell BKG0.out 5).trans rfl
                        have hcz27_6 : w21.cell? ⟨G0, 6, none⟩ = some (.int .i64 a0_6) := (blk_cell BKG0.out 6).trans rfl
                        have hfz27_0 := blk_frozen BKG0.out 0
                        have hfz27_1 := blk_frozen BKG0.out 1
                        have hfz27_2 := blk_frozen BKG0.out 2
                        have hfz27_3 := blk_frozen BKG0.out 3
                        have hfz27_4 := blk_frozen BKG0.out 4
                        have hfz27_5 := blk_frozen BKG0.out 5
                        have hfz27_6 := blk_frozen BKG0.out 6
                        have p257 : 0 ≤ (0 : Int) := (by omega)
                        have q257 : 0 < (x8_1.length : Int) := of_decide_eq_true (by first | (with_reducible assumption) | assumption)
                        obtain ⟨ad257, e257, hx257_0⟩ := Kd.at_int (Kd.R_reads' HO_8.out).2.2 0 p257 q257
                        cases e257
                        have qi257 : (0 < x8_1.length) = True := eq_true (by omega)
                        (try rw [show ((0 : Int)).toNat = 0 from rfl] at hx257_0)
                        (try rw [Addr.add_zero'] at hx257_0)
                        replace p257 := eq_true p257
                        replace q257 := eq_true q257
                        go_wp2_with (first | ((with_reducible refine gate_callee (f := 34) rfl ?_); refine goesL_ (some 70) rfl rfl Tryd.func34 (by kernel_rfl) rfl #[.pointer (some ⟨G0, 0, none⟩), .int .i64 x53_1, .int .i64 (rd x8_1 0), .slice (some ad254) l1.length c1] rfl (by (try simp only [List.map_toArray, List.map_cons, List.map_nil]); first | done | rfl | (simp only [List.length_drop, List.length_take]; rfl)) ?_; (with_reducible refine (order_Order_compare.calls G0 a0_0 false a0_2 a0_3 _ _ l0_4 _ _ l0_5 a0_6 x53_1 (rd x8_1 0) _ _ l1 t258 _ (by (with_reducible repeat (first | refine blk_drewN ?_ _ | refine blk_drew ?_ | refine blk_alloc ?_ _)); exact BKG0.out) ?side1 ?side2 ?side3 ?side4 ?side5 ?side6 A25.out).mono ?_); (case side1 => repeat (first | exact (Kd.C_below HR0_4.out HB.out) | (with_reducible refine Kd.C_alloc ?_ _) | (with_reducible refine Kd.C_drewN ?_ _) | (with_reducible refine Kd.C_drew ?_))); (case side2 => exact HC0_4.out); (case side3 => repeat (first | exact (Kd.C_below HR0_5.out HB.out) | (with_reducible refine Kd.C_alloc ?_ _) | (with_reducible refine Kd.C_drewN ?_ _) | (with_reducible refine Kd.C_drew ?_))); (case side4 => exact HC0_5.out); (case side5 => repeat (first | exact (Kd.C_below HR1.out HB.out) | (with_reducible refine Kd.C_alloc ?_ _) | (with_reducible refine Kd.C_drewN ?_ _) | (with_reducible refine Kd.C_drew ?_))); (case side6 => exact HC1.out); rintro e w28 ⟨rfl, hb⟩; refine ⟨_, rfl, ?_⟩; have n0_ := Aside0.mk (Kd.R_below (by (with_reducible repeat (first | apply Kd.R_alloc | apply Kd.R_drewN | apply Kd.R_drew)); exact HO_8.out) hb); have n1_ := Aside0.mk (blk_below (g := G0) (o := .cells #[.int .i64 a0_0, .bool false, .bool a0_2, .bool a0_3, .slice A0_4 l0_4.length c0_4, .slice A0_5 l0_5.length c0_5, .int .i64 a0_6] 89 (0, 0)) (by (with_reducible repeat (first | refine blk_drewN ?_ _ | refine blk_drew ?_ | refine blk_alloc ?_ _)); exact BKG0.out) hb); have n2_ := Aside0.mk (blk_below (g := gb255) (o := .cells #[.int .i64 ((rd_T56 l1 x53_1).f0), .slice A254_1 ((rd_T56 l1 x53_1).f1).length c254_1, .int .i64 ((rd_T56 l1 x53_1).f2), .int .i64 ((rd_T56 l1 x53_1).f3), .int .i64 ((rd_T56 l1 x53_1).f4)] 56 (0, 0)) (by (with_reducible repeat (first | refine blk_drewN ?_ _ | refine blk_drew ?_ | refine blk_alloc ?_ _)); exact BK255.out) hb); have n3_ := Aside0.mk (below_step (by repeat (first | (with_reducible first | exact HB.out | apply below_alloc | apply pw_below_drewN | apply below_drew1 | refine below_set ?_ GE255.out) | exact HB.out)) hb); clear HO_8; clear BKG0; clear BK255; clear HB; have HO_8 := n0_; have BKG0 := n1_; have BK255 := n2_; have HB := n3_; clear n0_ n1_ n2_ n3_; (try clear hb); (try clear hb2); (try clear hk); (try clear hi)))
                        go_meet
                        case rel => exact ⟨_, (t258), (by first | rfl | (simp; done) | (simp [*]; done)), H', ⟨by have := HK1.out; first | omega | exact Nat.le_refl _⟩, ⟨by (with_reducible repeat (first | apply Kd.R_alloc | apply Kd.R_drewN | apply Kd.R_drew)); exact HO_8.out⟩, ⟨by (with_reducible repeat (first | refine blk_drewN ?_ _ | refine blk_drew ?_ | refine blk_alloc ?_ _)); exact BKG0.out⟩, ⟨by (with_reducible repeat (first | refine blk_drewN ?_ _ | refine blk_drew ?_ | refine blk_alloc ?_ _)); exact BK255.out⟩, ⟨by repeat (first | (with_reducible first | exact HB.out | apply below_alloc | apply pw_below_drewN | apply below_drew1 | refine below_set ?_ GE255.out) | exact HB.out)⟩⟩
                      · rw [if_neg c24] at H
                        exact absurd H (by simp)
                    · rw [if_neg c23] at H
                      have c23b0 : decide (0 < (x8_1.length : Int)) = false := decide_eq_false c23
                      have c23b1 : decide (0 < x8_1.length) = false := decide_eq_false (by omega)
                      clear c23
                      (first | rw [c23b0] | rw [c23b1] | (simp only [i64_w, i32_w]; rw [c23b0]) | skip)
                      have H' := Aside0.mk H
                      clear H
                      go_wp2
                      go_meet
                      case rel => exact ⟨_, (0), (by first | rfl | (simp; done) | (simp [*]; done)), H', ⟨by have := HK1.out; first | omega | exact Nat.le_refl _⟩, ⟨by (with_reducible repeat (first | apply Kd.R_alloc | apply Kd.R_drewN | apply Kd.R_drew)); exact HO_8.out⟩, ⟨by (with_reducible repeat (first | refine blk_drewN ?_ _ | refine blk_drew ?_ | refine blk_alloc ?_ _)); exact BKG0.out⟩, ⟨by (with_reducible repeat (first | refine blk_drewN ?_ _ | refine blk_drew ?_ | refine blk_alloc ?_ _)); exact BK255.out⟩, ⟨by repeat (first | (with_reducible first | exact HB.out | apply below_alloc | apply pw_below_drewN | apply below_drew1 | refine below_set ?_ GE255.out) | exact HB.out)⟩⟩
                  case rest =>
                    clear HC17
                    try clear c1
                    try clear c2
                    try clear p2
                    try clear q2
                    try clear hx2
                    try clear qi2
                    try clear c3
                    try clear c4
                    try clear c4b0
                    try clear c4b1
                    try clear c4b2
                    try clear c5
                    try clear p6
                    try clear c8
                    try clear c8b0
                    try clear c9
                    try clear c9b0
                    try clear c10
                    try clear c10b0
                    try clear c12
                    try clear c12b0
                    try clear c13
                    try clear c14
                    try clear c19
                    try clear c23
                    try clear c23b0
                    try clear c23b1
                    try clear c24
                    try clear c24b0
                    try clear c24b1
                    try clear c25
                    try clear p25
                    try clear q25
                    try clear hx25
                    try clear qi25
                    try clear c26
                    try clear hcz15_0
                    try clear hcz15_1
                    try clear hcz15_2
                    try clear hcz15_3
                    try clear hcz15_4
                    try clear hcz20_0
                    try clear hcz20_1
                    try clear hcz20_2
                    try clear hcz20_3
                    try clear hcz20_4
                    try clear hcz27_0
                    try clear hcz27_1
                    try clear hcz27_2
                    try clear hcz27_3
                    try clear hcz27_4
                    try clear hcz27_5
                    try clear hcz27_6
                    try clear hcz7_0
                    try clear hcz7_1
                    try clear hcz7_2
                    try clear hcz7_3
                    try clear hcz7_4
                    try clear hcz7_5
                    try clear hcz7_6
                    try clear hfz15_0
                    try clear hfz15_1
                    try clear hfz15_2
                    try clear hfz15_3
                    try clear hfz15_4
                    try clear hfz20_0
                    try clear hfz20_1
                    try clear hfz20_2
                    try clear hfz20_3
                    try clear hfz20_4
                    try clear hfz27_0
                    try clear hfz27_1
                    try clear hfz27_2
                    try clear hfz27_3
                    try clear hfz27_4
                    try clear hfz27_5
                    try clear hfz27_6
                    try clear hfz7_0
                    try clear hfz7_1
                    try clear hfz7_2
                    try clear hfz7_3
                    try clear hfz7_4
                    try clear hfz7_5
                    try clear hfz7_6
                    try clear hx254_0
                    try clear hx254_1
                    try clear hx254_2
                    try clear hx254_3
                    try clear hx254_4
                    try clear hx257_0
                    try clear p2
                    try clear p254
                    try clear p257
                    try clear q254
                    try clear q257
                    obtain ⟨kq, x11_16, rfl, HA, HJ16, HO_8, BKG0, BK255, HB⟩ := hcut
                    cases kq with
                    | zero => exact absurd HA.out (by simp [order_Order_Choose.j1])
                    | succ kj16 =>
                      have H := HA.out
                      clear HA
                      simp only [order_Order_Choose.j1] at H
                      by_cases c29 : x11_16 < 0
                      · rw [if_pos c29] at H
                        have c29b0 : decide (x11_16 < 0) = true := decide_eq_true c29
                        clear c29
                        by_cases c30 : x11_16 ≤ 0
                        · rw [if_pos c30] at H
                          have c30b0 : decide (x11_16 ≤ 0) = true := decide_eq_true c30
                          clear c30
                          by_cases c31 : ([] : List Int).length < 17592186044416
                          · rw [if_pos c31] at H
                            have LMc31 := Aside0.mk c31
                            clear c31
                            obtain ⟨y259, hy259⟩ : ∃ y_ : List Int, y_ = (([] : List Int) ++ [x53_1]) := ⟨_, rfl⟩
                            replace H : (order_Order_Choose.l0 kj16 l1 l2 y259 l1 (l1.length : Int) (wrap64 (x53_1 + 1)) a0_0 false a0_2 a0_3 l0_4 l0_5 a0_6) = some (r1, r2) := by first | (rw [hy259]; with_reducible exact H) | (have H2_ := (Option.bind_some _ _).symm.trans H; rw [hy259]; with_reducible exact H2_) | (have H2_ := (Option.bind_some _ _).symm.trans H; with_reducible exact H2_) | with_reducible exact H | (rw [hy259]; exact H) | exact H
                            have Ny259 := Aside0.mk hy259
                            clear hy259
                            have H' := Aside0.mk H
                            clear H
                            go_wp2_with (first | ((with_reducible refine gate_builtin (b := .append) (xs := #[.tmp 75, .tmp 77]) rfl ?_); at_builtin; refine Kd.R_append (Kd.int .i64) (w0 := w) w.heap.size rfl (.tmp 75) (.tmp 77) 23 3 (.int .i64 0) 8 rfl Tryd.underlying23 info3 rfl (by decide) (by omega) (.slice none 0 0) ([] : List Int) x53_1 [.int .i64 x53_1] (fun k_ => some k_ ≠ (.slice Ao22 x8_1.length co22 : Value).ownBlock) (fun _ => False) rfl rfl ?aP (fun _ hk => hk.elim) ?aF ?aO ?aB ?aS ?aL ?_; (case aP => exact rfl); (case aB => exact (by repeat (first | (with_reducible first | exact HB.out | apply below_alloc | apply pw_below_drewN | apply below_drew1 | refine below_set ?_ GE255.out) | exact HB.out))); (case aF => exact (fun k_ hk => Kd.fresh' (Kd.R_lt (by (with_reducible repeat (first | apply Kd.R_alloc | apply Kd.R_drewN | apply Kd.R_drew)); exact HO_8.out)) k_ hk)); (case aO => exact ((Kd.R_nil _ _ _ _ (fun k_ => some k_ ≠ (.slice Ao22 x8_1.length co22 : Value).ownBlock)))); (case aS => exact (below_size (by repeat (first | (with_reducible first | exact HB.out | apply below_alloc | apply pw_below_drewN | apply below_drew1 | refine below_set ?_ GE255.out) | exact HB.out)))); (case aL => have := LMc31.out; omega); intro v260 w32 ho hb hg hat; rw [← Ny259.out] at ho; have n0_ := Aside0.mk (Kd.R_after (Kd.R_apart_nil (by (with_reducible repeat (first | apply Kd.R_alloc | apply Kd.R_drewN | apply Kd.R_drew)); exact HO_8.out)) hg hat); have n1_ := Aside0.mk (blk_grown (g := G0) (o := .cells #[.int .i64 a0_0, .bool false, .bool a0_2, .bool a0_3, .slice A0_4 l0_4.length c0_4, .slice A0_5 l0_5.length c0_5, .int .i64 a0_6] 89 (0, 0)) (by (with_reducible repeat (first | refine blk_drewN ?_ _ | refine blk_drew ?_ | refine blk_alloc ?_ _)); exact BKG0.out) hg (by simp [Value.ownBlock])); have n2_ := Aside0.mk (blk_grown (g := gb255) (o := .cells #[.int .i64 ((rd_T56 l1 x53_1).f0), .slice A254_1 ((rd_T56 l1 x53_1).f1).length c254_1, .int .i64 ((rd_T56 l1 x53_1).f2), .int .i64 ((rd_T56 l1 x53_1).f3), .int .i64 ((rd_T56 l1 x53_1).f4)] 56 (0, 0)) (by (with_reducible repeat (first | refine blk_drewN ?_ _ | refine blk_drew ?_ | refine blk_alloc ?_ _)); exact BK255.out) hg (by simp [Value.ownBlock])); have n3_ := Aside0.mk (hb); have n4_ := Aside0.mk (ho); clear HO_8; clear BKG0; clear BK255; clear HB; have HO_8 := n0_; have BKG0 := n1_; have BK255 := n2_; have HB := n3_; have HO261 := n4_; clear n0_ n1_ n2_ n3_ n4_; clear ho hb hg hat))
                            go_roundg kj16
                            case measure => have := HK1.out; have := HJ16.out; omega
                            case rel => exact ⟨(y259), (wrap64 (x53_1 + 1)), (by first | rfl | (simp; done) | (simp [*]; done)), H', ⟨by have := HK1.out; have := HJ16.out; omega⟩, ⟨by (with_reducible repeat (first | apply Kd.R_alloc | apply Kd.R_drewN | apply Kd.R_drew)); exact Kd.R_mono HO261.out (fun _ hk => trivial)⟩, ⟨by (with_reducible repeat (first | refine blk_drewN ?_ _ | refine blk_drew ?_ | refine blk_alloc ?_ _)); exact BKG0.out⟩, ⟨by repeat (first | (with_reducible first | exact HB.out | apply below_alloc | apply pw_below_drewN | apply below_drew1 | refine below_set ?_ GE255.out) | exact HB.out)⟩⟩
                          · rw [if_neg c31] at H
                            exact absurd H (by simp)
                        · rw [if_neg c30] at H
                          have c30b0 : decide (x11_16 ≤ 0) = false := decide_eq_false c30
                          clear c30
                          have H' := Aside0.mk H
                          clear H
                          go_wp2
                          go_roundg kj16
                          case measure => have := HK1.out; have := HJ16.out; omega
                          case rel => exact ⟨(([] : List Int)), (wrap64 (x53_1 + 1)), (by first | rfl | (simp; done) | (simp [*]; done)), H', ⟨by have := HK1.out; have := HJ16.out; omega⟩, ⟨by first | exact Kd.R_nil _ _ _ _ _ | exact Kd.N_nil _ _ _ _ _ | exact Kd.V_nil _ _ _ _ _ | exact Kd.Q_nil _ _ _ _ _ | exact Kd.S_nil _ _ _ _ _⟩, ⟨by (with_reducible repeat (first | refine blk_drewN ?_ _ | refine blk_drew ?_ | refine blk_alloc ?_ _)); exact BKG0.out⟩, ⟨by repeat (first | (with_reducible first | exact HB.out | apply below_alloc | apply pw_below_drewN | apply below_drew1 | refine below_set ?_ GE255.out) | exact HB.out)⟩⟩
                      · rw [if_neg c29] at H
                        have c29b0 : decide (x11_16 < 0) = false := decide_eq_false c29
                        clear c29
                        by_cases c33 : x11_16 ≤ 0
                        · rw [if_pos c33] at H
                          have c33b0 : decide (x11_16 ≤ 0) = true := decide_eq_true c33
                          clear c33
                          by_cases c34 : x8_1.length < 17592186044416
                          · rw [if_pos c34] at H
                            have LMc34 := Aside0.mk c34
                            clear c34
                            obtain ⟨y262, hy262⟩ : ∃ y_ : List Int, y_ = (x8_1 ++ [x53_1]) := ⟨_, rfl⟩
                            replace H : (order_Order_Choose.l0 kj16 l1 l2 y262 l1 (l1.length : Int) (wrap64 (x53_1 + 1)) a0_0 false a0_2 a0_3 l0_4 l0_5 a0_6) = some (r1, r2) := by first | (rw [hy262]; with_reducible exact H) | (have H2_ := (Option.bind_some _ _).symm.trans H; rw [hy262]; with_reducible exact H2_) | (have H2_ := (Option.bind_some _ _).symm.trans H; with_reducible exact H2_) | with_reducible exact H | (rw [hy262]; exact H) | exact H
                            have Ny262 := Aside0.mk hy262
                            clear hy262
                            have H' := Aside0.mk H
                            clear H
                            go_wp2_with (first | ((with_reducible refine gate_builtin (b := .append) (xs := #[.tmp 75, .tmp 77]) rfl ?_); at_builtin; refine Kd.R_append (Kd.int .i64) (w0 := w) w.heap.size rfl (.tmp 75) (.tmp 77) 23 3 (.int .i64 0) 8 rfl Tryd.underlying23 info3 rfl (by decide) (by omega) (.slice Ao22 x8_1.length co22) x8_1 x53_1 [.int .i64 x53_1] (fun _ => True) (fun _ => False) rfl rfl ?aP (fun _ hk => hk.elim) ?aF ?aO ?aB ?aS ?aL ?_; (case aP => exact rfl); (case aB => exact (by repeat (first | (with_reducible first | exact HB.out | apply below_alloc | apply pw_below_drewN | apply below_drew1 | refine below_set ?_ GE255.out) | exact HB.out))); (case aF => exact (fun _ _ => trivial)); (case aO => exact (by (with_reducible repeat (first | apply Kd.R_alloc | apply Kd.R_drewN | apply Kd.R_drew)); exact HO_8.out)); (case aS => exact (below_size (by repeat (first | (with_reducible first | exact HB.out | apply below_alloc | apply pw_below_drewN | apply below_drew1 | refine below_set ?_ GE255.out) | exact HB.out)))); (case aL => have := LMc34.out; omega); intro v263 w35 ho hb hg hat; rw [← Ny262.out] at ho; have n0_ := Aside0.mk (blk_grown (g := G0) (o := .cells #[.int .i64 a0_0, .bool false, .bool a0_2, .bool a0_3, .slice A0_4 l0_4.length c0_4, .slice A0_5 l0_5.length c0_5, .int .i64 a0_6] 89 (0, 0)) (by (with_reducible repeat (first | refine blk_drewN ?_ _ | refine blk_drew ?_ | refine blk_alloc ?_ _)); exact BKG0.out) hg (Kd.R_ne HO_8.out BKG0.out (by decide))); have n1_ := Aside0.mk (blk_grown (g := gb255) (o := .cells #[.int .i64 ((rd_T56 l1 x53_1).f0), .slice A254_1 ((rd_T56 l1 x53_1).f1).length c254_1, .int .i64 ((rd_T56 l1 x53_1).f2), .int .i64 ((rd_T56 l1 x53_1).f3), .int .i64 ((rd_T56 l1 x53_1).f4)] 56 (0, 0)) (by (with_reducible repeat (first | refine blk_drewN ?_ _ | refine blk_drew ?_ | refine blk_alloc ?_ _)); exact BK255.out) hg (Kd.R_ne HO_8.out BK255.out (by decide))); have n2_ := Aside0.mk (hb); have n3_ := Aside0.mk (ho); clear BKG0; clear BK255; clear HB; clear HO_8; have BKG0 := n0_; have BK255 := n1_; have HB := n2_; have HO264 := n3_; clear n0_ n1_ n2_ n3_; clear ho hb hg hat))
                            go_roundg kj16
                            case measure => have := HK1.out; have := HJ16.out; omega
                            case rel => exact ⟨(y262), (wrap64 (x53_1 + 1)), (by first | rfl | (simp; done) | (simp [*]; done)), H', ⟨by have := HK1.out; have := HJ16.out; omega⟩, ⟨by (with_reducible repeat (first | apply Kd.R_alloc | apply Kd.R_drewN | apply Kd.R_drew)); exact HO264.out⟩, ⟨by (with_reducible repeat (first | refine blk_drewN ?_ _ | refine blk_drew ?_ | refine blk_alloc ?_ _)); exact BKG0.out⟩, ⟨by repeat (first | (with_reducible first | exact HB.out | apply below_alloc | apply pw_below_drewN | apply below_drew1 | refine below_set ?_ GE255.out) | exact HB.out)⟩⟩
                          · rw [if_neg c34] at H
                            exact absurd H (by simp)
                        · rw [if_neg c33] at H
                          have c33b0 : decide (x11_16 ≤ 0) = false := decide_eq_false c33
                          clear c33
                          have H' := Aside0.mk H
                          clear H
                          go_wp2
                          go_roundg kj16
                          case measure => have := HK1.out; have := HJ16.out; omega
                          case rel => exact ⟨(x8_1), (wrap64 (x53_1 + 1)), (by first | rfl | (simp; done) | (simp [*]; done)), H', ⟨by have := HK1.out; have := HJ16.out; omega⟩, ⟨by (with_reducible repeat (first | apply Kd.R_alloc | apply Kd.R_drewN | apply Kd.R_drew)); exact HO_8.out⟩, ⟨by (with_reducible repeat (first | refine blk_drewN ?_ _ | refine blk_drew ?_ | refine blk_alloc ?_ _)); exact BKG0.out⟩, ⟨by repeat (first | (with_reducible first | exact HB.out | apply below_alloc | apply pw_below_drewN | apply below_drew1 | refine below_set ?_ GE255.out) | exact HB.out)⟩⟩
              · rw [if_neg c10] at H
                exact absurd H (by simp)
            · rw [if_neg c9] at H
              exact absurd H (by simp)
          · rw [if_neg c8] at H
            have c8b0 : decide (x53_1 < (l1.length : Int)) = false := decide_eq_false c8
            clear c8
            by_cases c36 : (x8_1.length : Int) = 0
            · rw [if_pos c36] at H
              exact absurd H (by simp)
            · rw [if_neg c36] at H
              have c36b0 : ((x8_1.length : Int) == 0) = false := beq_eq_false_iff_ne.mpr c36
              have c36b1 : ((x8_1.length : Int) != 0) = true := bne_iff_ne.mpr c36
              have c36b2 : ¬ (x8_1 = []) := fun h_ => c36 (by rw [h_]; rfl)
              replace H := Option.bind_eq_some_iff.mp H
              obtain ⟨t252, A370, H⟩ := H
              replace H : (if 0 ≤ t252 then (if t252 < (x8_1.length : Int) then (some (rd x8_1 t252, true)) else (none)) else (none)) = some (r1, r2) := H
              have A37 := Aside0.mk A370
              clear A370
              by_cases c38 : 0 ≤ t252
              · rw [if_pos c38] at H
                have c38b0 : decide (0 ≤ t252) = true := decide_eq_true c38
                clear c38
                by_cases c39 : t252 < (x8_1.length : Int)
                · rw [if_pos c39] at H
                  have c39b0 : decide (t252 < (x8_1.length : Int)) = true := decide_eq_true c39
                  clear c39
                  simp only [Option.some.injEq, Prod.mk.injEq] at H
                  obtain ⟨rfl, rfl⟩ := H
                  obtain ⟨Ao40, co40, eo40⟩ := Kd.R_slice HO_8.out
                  subst eo40
                  go_wp2_with (first | ((with_reducible refine gate_callee (f := 8) rfl ?_); refine goesL_ (some 87) rfl rfl Tryd.func8 (by kernel_rfl) rfl #[.pointer (some ⟨GD, 0, none⟩), .int .i64 (x8_1.length : Int)] rfl (by (try simp only [List.map_toArray, List.map_cons, List.map_nil]); first | done | rfl | (simp only [List.length_drop, List.length_take]; rfl)) ?_; (with_reducible refine (order_Draws_Next.calls GD l2 (x8_1.length : Int) t252 _ ?side1 A37.out).mono ?_); (case side1 => exact Left.below HL2.out (by repeat (first | (with_reducible first | exact HB.out | apply below_alloc | apply pw_below_drewN | apply below_drew1) | exact HB.out))); rintro e wN ⟨rfl, -, hKN⟩; refine ⟨_, rfl, ?_⟩; have HKN := Aside0.mk (still_from (by repeat (first | (with_reducible first | exact HB.out | apply below_alloc | apply pw_below_drewN | apply below_drew1) | exact HB.out)) hKN); replace HO_8 := Aside0.mk (Kd.R_keep (Kd.R_mono (ok' := fun k_ => k_ ≠ GD) (Kd.R_bound (by (with_reducible repeat (first | apply Kd.R_alloc | apply Kd.R_drewN | apply Kd.R_drew)); exact HO_8.out)) (fun k_ hk => by have := hk.2.1; have := GLT.out; omega)) hKN.2.2.2 (fun _ hk => hk)); clear hKN; have p253 : 0 ≤ (t252 : Int) := of_decide_eq_true (by first | (with_reducible assumption) | assumption); have q253 : t252 < (x8_1.length : Int) := of_decide_eq_true (by first | (with_reducible assumption) | assumption); obtain ⟨ad253, e253, hx253_0⟩ := Kd.at_int (Kd.R_reads' HO_8.out).2.2 t252 p253 q253; cases e253; replace p253 := eq_true p253; replace q253 := eq_true q253))
                  go_ret2
                  exact ⟨by first | rfl | (simp [errW_none, errW_some] <;> rfl) | (simp [*, errW_none, errW_some] <;> rfl), HKN.out⟩
                · rw [if_neg c39] at H
                  exact absurd H (by simp)
              · rw [if_neg c38] at H
                exact absurd H (by simp)
  · rw [if_neg c4] at H
    exact absurd H (by simp)

/-! ### dom_Dom_word: function 46 -/
def dom_Dom_word.f (a0_0 : Int) (l0_1 : List Int) (a0_2 : Int) (a0_3 : Int) (a0_4 : Int) (a1 : Int) : Option (Int) := if a1 < a0_0 then (some 0) else (if (wrap64 (Int.tdiv (wrap64 (a1 - a0_0)) 64)) ≥ (l0_1.length : Int) then (some 0) else (if 0 ≤ (wrap64 (Int.tdiv (wrap64 (a1 - a0_0)) 64)) then (if (wrap64 (Int.tdiv (wrap64 (a1 - a0_0)) 64)) < (l0_1.length : Int) then (some (rd l0_1 (wrap64 (Int.tdiv (wrap64 (a1 - a0_0)) 64)))) else (none)) else (none)))
set_option maxHeartbeats 8000000 in
set_option maxRecDepth 100000 in
theorem dom_Dom_word.calls (a0_0 : Int) (A0_1 : Option Addr) (c0_1 : Nat) (l0_1 : List Int) (a0_2 : Int) (a0_3 : Int) (a0_4 : Int) (a1 : Int) (r : Int) (w : World) (hr0_1 : Kd.C (Kd.int .u64) w A0_1 l0_1.length l0_1) (hc0_1 : l0_1.length ≤ c0_1) (h : dom_Dom_word.f a0_0 l0_1 a0_2 a0_3 a0_4 a1 = some r) :
    Calls Tryd.prog 46 #[.agg #[.int .i64 a0_0, .slice A0_1 l0_1.length c0_1, .int .i64 a0_2, .int .i64 a0_3, .int .i64 a0_4], .int .i64 a1] w fun e w' => e = .returned (.int .u64 r) ∧ Below w.heap.size w w' := by
  have hu56 := Tryd.underlying56
  have HR0_1 := Aside0.mk hr0_1
  have HC0_1 := Aside0.mk hc0_1
  clear hr0_1 hc0_1
  have HB := Aside0.mk (Below.refl w.heap.size w)
  have H : (if a1 < a0_0 then (some 0) else (if (wrap64 (Int.tdiv (wrap64 (a1 - a0_0)) 64)) ≥ (l0_1.length : Int) then (some 0) else (if 0 ≤ (wrap64 (Int.tdiv (wrap64 (a1 - a0_0)) 64)) then (if (wrap64 (Int.tdiv (wrap64 (a1 - a0_0)) 64)) < (l0_1.length : Int) then (some (rd l0_1 (wrap64 (Int.tdiv (wrap64 (a1 - a0_0)) 64)))) else (none)) else (none)))) = some r := h
  clear h
  by_cases c3 : a1 < a0_0
  · rw [if_pos c3] at H
    have c3b0 : decide (a1 < a0_0) = true := decide_eq_true c3
    clear c3
    obtain rfl := Option.some.inj H
    go_enter Tryd.func46, Tryd.ntmps46
    go_wp2_with (first | ((with_reducible refine gate_dst (N := 2) rfl ?_); (try (refine gate_guard (by rfl) ?_; dsimp only)); refine box_event ?hg (N := 2) ?hd (cs := #[.int .i64 a0_0, .slice A0_1 l0_1.length c0_1, .int .i64 a0_2, .int .i64 a0_3, .int .i64 a0_4]) (t := 56) ?hr ?_; (case hd => rfl); (case hg => rfl); (case hr => first | (go_simp; done) | (go_simp; rfl)); intro gb265 hg w4 hbox hb; have n0_ := Aside0.mk (below_step (by repeat (first | (with_reducible first | exact HB.out | apply below_alloc | apply pw_below_drewN | apply below_drew1) | exact HB.out)) hb); have n1_ := Aside0.mk (hbox); have n2_ := Aside0.mk ((by rw [hg]; exact (below_size (by repeat (first | (with_reducible first | exact HB.out | apply below_alloc | apply pw_below_drewN | apply below_drew1) | exact HB.out))) : w.heap.size ≤ gb265)); have n3_ := Aside0.mk ((by rw [hg]; exact (below_size (by repeat (first | (with_reducible first | exact HB.out | apply below_alloc | apply pw_below_drewN | apply below_drew1) | exact HB.out))) : w.heap.size ≤ gb265)); clear HB; have HB := n0_; have BK265 := n1_; have GW265 := n2_; have GE265 := n3_; clear n0_ n1_ n2_ n3_; clear hb hbox hg; have hcz5_0 : w4.cell? ⟨gb265, 0, none⟩ = some (.int .i64 a0_0) := (blk_cell BK265.out 0).trans rfl; have hcz5_1 : w4.cell? ⟨gb265, 1, none⟩ = some (.slice A0_1 l0_1.length c0_1) := (blk_cell BK265.out 1).trans rfl; have hcz5_2 : w4.cell? ⟨gb265, 2, none⟩ = some (.int .i64 a0_2) := (blk_cell BK265.out 2).trans rfl; have hcz5_3 : w4.cell? ⟨gb265, 3, none⟩ = some (.int .i64 a0_3) := (blk_cell BK265.out 3).trans rfl; have hcz5_4 : w4.cell? ⟨gb265, 4, none⟩ = some (.int .i64 a0_4) := (blk_cell BK265.out 4).trans rfl; have hfz5_0 := blk_frozen BK265.out 0; have hfz5_1 := blk_frozen BK265.out 1; have hfz5_2 := blk_frozen BK265.out 2; have hfz5_3 := blk_frozen BK265.out 3; have hfz5_4 := blk_frozen BK265.out 4))
    go_ret
    exact ⟨by first | rfl | (simp [errW_none, errW_some] <;> rfl) | (simp [*, errW_none, errW_some] <;> rfl), by repeat (first | (with_reducible first | exact HB.out | apply below_alloc | apply pw_below_drewN | apply below_drew1 | refine below_set ?_ GE265.out) | exact HB.out)⟩
  · rw [if_neg c3] at H
    have c3b0 : decide (a1 < a0_0) = false := decide_eq_false c3
    clear c3
    by_cases c6 : (wrap64 (Int.tdiv (wrap64 (a1 - a0_0)) 64)) ≥ (l0_1.length : Int)
    · rw [if_pos c6] at H
      have c6b0 : decide ((l0_1.length : Int) ≤ (wrap64 (Int.tdiv (wrap64 (a1 - a0_0)) 64))) = true := decide_eq_true c6
      clear c6
      obtain rfl := Option.some.inj H
      go_enter Tryd.func46, Tryd.ntmps46
      go_wp2_with (first | ((with_reducible refine gate_dst (N := 2) rfl ?_); (try (refine gate_guard (by rfl) ?_; dsimp only)); refine box_event ?hg (N := 2) ?hd (cs := #[.int .i64 a0_0, .slice A0_1 l0_1.length c0_1, .int .i64 a0_2, .int .i64 a0_3, .int .i64 a0_4]) (t := 56) ?hr ?_; (case hd => rfl); (case hg => rfl); (case hr => first | (go_simp; done) | (go_simp; rfl)); intro gb265 hg w7 hbox hb; have n0_ := Aside0.mk (below_step (by repeat (first | (with_reducible first | exact HB.out | apply below_alloc | apply pw_below_drewN | apply below_drew1) | exact HB.out)) hb); have n1_ := Aside0.mk (hbox); have n2_ := Aside0.mk ((by rw [hg]; exact (below_size (by repeat (first | (with_reducible first | exact HB.out | apply below_alloc | apply pw_below_drewN | apply below_drew1) | exact HB.out))) : w.heap.size ≤ gb265)); have n3_ := Aside0.mk ((by rw [hg]; exact (below_size (by repeat (first | (with_reducible first | exact HB.out | apply below_alloc | apply pw_below_drewN | apply below_drew1) | exact HB.out))) : w.heap.size ≤ gb265)); clear HB; have HB := n0_; have BK265 := n1_; have GW265 := n2_; have GE265 := n3_; clear n0_ n1_ n2_ n3_; clear hb hbox hg; have hcz8_0 : w7.cell? ⟨gb265, 0, none⟩ = some (.int .i64 a0_0) := (blk_cell BK265.out 0).trans rfl; have hcz8_1 : w7.cell? ⟨gb265, 1, none⟩ = some (.slice A0_1 l0_1.length c0_1) := (blk_cell BK265.out 1).trans rfl; have hcz8_2 : w7.cell? ⟨gb265, 2, none⟩ = some (.int .i64 a0_2) := (blk_cell BK265.out 2).trans rfl; have hcz8_3 : w7.cell? ⟨gb265, 3, none⟩ = some (.int .i64 a0_3) := (blk_cell BK265.out 3).trans rfl; have hcz8_4 : w7.cell? ⟨gb265, 4, none⟩ = some (.int .i64 a0_4) := (blk_cell BK265.out 4).trans rfl; have hfz8_0 := blk_frozen BK265.out 0; have hfz8_1 := blk_frozen BK265.out 1; have hfz8_2 := blk_frozen BK265.out 2; have hfz8_3 := blk_frozen BK265.out 3; have hfz8_4 := blk_frozen BK265.out 4))
      go_ret
      exact ⟨by first | rfl | (simp [errW_none, errW_some] <;> rfl) | (simp [*, errW_none, errW_some] <;> rfl), by repeat (first | (with_reducible first | exact HB.out | apply below_alloc | apply pw_below_drewN | apply below_drew1 | refine below_set ?_ GE265.out) | exact HB.out)⟩
    · rw [if_neg c6] at H
      have c6b0 : decide ((l0_1.length : Int) ≤ (wrap64 (Int.tdiv (wrap64 (a1 - a0_0)) 64))) = false := decide_eq_false c6
      clear c6
      obtain ⟨ji9, hji9⟩ : ∃ j_ : Int, (wrap64 (Int.tdiv (wrap64 (a1 - a0_0)) 64)) = j_ := ⟨_, rfl⟩
      replace H : (if 0 ≤ (ji9) then (if (ji9) < (l0_1.length : Int) then (some (rd l0_1 (ji9))) else (none)) else (none)) = some r := by first | (rw [hji9] at H; exact H) | (simp only [hji9] at H ⊢; exact H)
      (try rw [hji9] at c6b0)
      have hji9w : (IntKind.i64.wrap (Int.tdiv (wrap64 (a1 - a0_0)) 64)) = ji9 := (i64_w _).trans hji9
      by_cases c10 : 0 ≤ (ji9)
      · rw [if_pos c10] at H
        have c10b0 : decide (0 ≤ (ji9)) = true := decide_eq_true c10
        clear c10
        by_cases c11 : (ji9) < (l0_1.length : Int)
        · rw [if_pos c11] at H
          have c11b0 : decide ((ji9) < (l0_1.length : Int)) = true := decide_eq_true c11
          clear c11
          obtain rfl := Option.some.inj H
          go_enter Tryd.func46, Tryd.ntmps46
          go_wp2_with (first | ((with_reducible refine gate_dst (N := 2) rfl ?_); (try (refine gate_guard (by rfl) ?_; dsimp only)); refine box_event ?hg (N := 2) ?hd (cs := #[.int .i64 a0_0, .slice A0_1 l0_1.length c0_1, .int .i64 a0_2, .int .i64 a0_3, .int .i64 a0_4]) (t := 56) ?hr ?_; (case hd => rfl); (case hg => rfl); (case hr => first | (go_simp; done) | (go_simp; rfl)); intro gb265 hg w12 hbox hb; have n0_ := Aside0.mk (below_step (by repeat (first | (with_reducible first | exact HB.out | apply below_alloc | apply pw_below_drewN | apply below_drew1) | exact HB.out)) hb); have n1_ := Aside0.mk (hbox); have n2_ := Aside0.mk ((by rw [hg]; exact (below_size (by repeat (first | (with_reducible first | exact HB.out | apply below_alloc | apply pw_below_drewN | apply below_drew1) | exact HB.out))) : w.heap.size ≤ gb265)); have n3_ := Aside0.mk ((by rw [hg]; exact (below_size (by repeat (first | (with_reducible first | exact HB.out | apply below_alloc | apply pw_below_drewN | apply below_drew1) | exact HB.out))) : w.heap.size ≤ gb265)); clear HB; have HB := n0_; have BK265 := n1_; have GW265 := n2_; have GE265 := n3_; clear n0_ n1_ n2_ n3_; clear hb hbox hg; have hcz13_0 : w12.cell? ⟨gb265, 0, none⟩ = some (.int .i64 a0_0) := (blk_cell BK265.out 0).trans rfl; have hcz13_1 : w12.cell? ⟨gb265, 1, none⟩ = some (.slice A0_1 l0_1.length c0_1) := (blk_cell BK265.out 1).trans rfl; have hcz13_2 : w12.cell? ⟨gb265, 2, none⟩ = some (.int .i64 a0_2) := (blk_cell BK265.out 2).trans rfl; have hcz13_3 : w12.cell? ⟨gb265, 3, none⟩ = some (.int .i64 a0_3) := (blk_cell BK265.out 3).trans rfl; have hcz13_4 : w12.cell? ⟨gb265, 4, none⟩ = some (.int .i64 a0_4) := (blk_cell BK265.out 4).trans rfl; have hfz13_0 := blk_frozen BK265.out 0; have hfz13_1 := blk_frozen BK265.out 1; have hfz13_2 := blk_frozen BK265.out 2; have hfz13_3 := blk_frozen BK265.out 3; have hfz13_4 := blk_frozen BK265.out 4; have p266 : 0 ≤ ((ji9) : Int) := of_decide_eq_true (by first | (with_reducible assumption) | assumption); have q266 : (ji9) < (l0_1.length : Int) := of_decide_eq_true (by first | (with_reducible assumption) | assumption); obtain ⟨ad266, e266, hx266_0⟩ := Kd.at_int HR0_1.out (ji9) p266 q266; cases e266; replace hx266_0 := (HB.out.cell (World.block_lt_of_cell? w _ hx266_0)).trans hx266_0; replace p266 := eq_true p266; replace q266 := eq_true q266))
          go_ret
          exact ⟨by first | rfl | (simp [errW_none, errW_some] <;> rfl) | (simp only [← hji9]; first | rfl | (simp [errW_none, errW_some] <;> rfl)) | (simp [*, errW_none, errW_some] <;> rfl), by repeat (first | (with_reducible first | exact HB.out | apply below_alloc | apply pw_below_drewN | apply below_drew1 | refine below_set ?_ GE265.out) | exact HB.out)⟩
        · rw [if_neg c11] at H
          exact absurd H (by simp)
      · rw [if_neg c10] at H
        exact absurd H (by simp)

/-! ### order_Order_of: function 36 -/
def order_Order_of.f (a0_0 : Int) (a0_1 : Bool) (a0_2 : Bool) (a0_3 : Bool) (l0_4 : List (S95)) (l0_5 : List (List Int)) (a0_6 : Int) (a1 : Int) : Option (Bool) := if a1 < 0 then (some false) else (if a1 ≥ (l0_4.length : Int) then (none) else (some true))
set_option maxHeartbeats 8000000 in
set_option maxRecDepth 100000 in
theorem order_Order_of.calls (G0 : Nat) (a0_0 : Int) (a0_1 : Bool) (a0_2 : Bool) (a0_3 : Bool) (A0_4 : Option Addr) (c0_4 : Nat) (l0_4 : List (S95)) (A0_5 : Option Addr) (c0_5 : Nat) (l0_5 : List (List Int)) (a0_6 : Int) (a1 : Int) (w : World) (hbx0 : w.heap[G0]? = some (.cells #[.int .i64 a0_0, .bool a0_1, .bool a0_2, .bool a0_3, .slice A0_4 l0_4.length c0_4, .slice A0_5 l0_5.length c0_5, .int .i64 a0_6] 89 (0, 0))) (hr0_4 : Kd.C k95 w A0_4 l0_4.length l0_4) (h : order_Order_of.f a0_0 a0_1 a0_2 a0_3 l0_4 l0_5 a0_6 a1 = some true) :
    Calls Tryd.prog 36 #[.pointer (some ⟨G0, 0, none⟩), .int .i64 a1] w fun e w' => ∃ AD : Addr, e = .returned (.pointer (some AD)) ∧ Below w.heap.size w w' := by
  have hu89 := Tryd.underlying89
  unfold order_Order_of.f at h
  by_cases c3 : a1 < 0
  · rw [if_pos c3] at h
    exact absurd h (by simp)
  rw [if_neg c3] at h
  have c3b0 : decide (a1 < 0) = false := decide_eq_false c3
  by_cases c5 : a1 ≥ (l0_4.length : Int)
  · rw [if_pos c5] at h
    exact absurd h (by simp)
  have c5b0 : decide ((l0_4.length : Int) ≤ a1) = false := decide_eq_false c5
  have p1 : 0 ≤ a1 := by omega
  have q1 : a1 < (l0_4.length : Int) := by omega
  obtain ⟨ad242, e242, -⟩ := at_T95 hr0_4 a1 p1 q1
  cases e242
  have hcz7_0 : w.cell? ⟨G0, 0, none⟩ = some (.int .i64 a0_0) := (blk_cell hbx0 0).trans rfl
  have hcz7_4 : w.cell? ⟨G0, 4, none⟩ = some (.slice (some ad242) l0_4.length c0_4) := (blk_cell hbx0 4).trans rfl
  have hfz7_0 := blk_frozen hbx0 0
  have hfz7_4 := blk_frozen hbx0 4
  replace p1 := eq_true p1
  replace q1 := eq_true q1
  clear h c3 c5 hbx0 hr0_4
  go_enter Tryd.func36, Tryd.ntmps36
  go_wp2
  go_ret
  exact ⟨_, rfl, Below.refl _ _⟩

/-! ### dom_Dom_Min: function 38 -/
def dom_Dom_Min.f (a0_0 : Int) (l0_1 : List Int) (a0_2 : Int) (a0_3 : Int) (a0_4 : Int) : Option (Int) := some a0_2
set_option maxHeartbeats 8000000 in
set_option maxRecDepth 100000 in
theorem dom_Dom_Min.calls (a0_0 : Int) (A0_1 : Option Addr) (c0_1 : Nat) (l0_1 : List Int) (a0_2 : Int) (a0_3 : Int) (a0_4 : Int) (r : Int) (w : World) (hr0_1 : Kd.C (Kd.int .u64) w A0_1 l0_1.length l0_1) (hc0_1 : l0_1.length ≤ c0_1) (h : dom_Dom_Min.f a0_0 l0_1 a0_2 a0_3 a0_4 = some r) :
    Calls Tryd.prog 38 #[.agg #[.int .i64 a0_0, .slice A0_1 l0_1.length c0_1, .int .i64 a0_2, .int .i64 a0_3, .int .i64 a0_4]] w fun e w' => e = .returned (.int .i64 r) ∧ Below w.heap.size w w' := by
  have hu56 := Tryd.underlying56
  have HR0_1 := Aside0.mk hr0_1
  have HC0_1 := Aside0.mk hc0_1
  clear hr0_1 hc0_1
  have HB := Aside0.mk (Below.refl w.heap.size w)
  have H : (some a0_2) = some r := h
  clear h
  obtain rfl := Option.some.inj H
  go_enter Tryd.func38, Tryd.ntmps38
  go_wp2_with (first | ((with_reducible refine gate_dst (N := 1) rfl ?_); refine box_event ?hg (N := 1) ?hd (cs := #[.int .i64 a0_0, .slice A0_1 l0_1.length c0_1, .int .i64 a0_2, .int .i64 a0_3, .int .i64 a0_4]) (t := 56) ?hr ?_; (case hd => rfl); (case hg => rfl); (case hr => first | (go_simp; done) | (go_simp; rfl)); intro gb268 hg w2 hbox hb; have n0_ := Aside0.mk (below_step (by repeat (first | (with_reducible first | exact HB.out | apply below_alloc | apply pw_below_drewN | apply below_drew1) | exact HB.out)) hb); have n1_ := Aside0.mk (hbox); have n2_ := Aside0.mk ((by rw [hg]; exact (below_size (by repeat (first | (with_reducible first | exact HB.out | apply below_alloc | apply pw_below_drewN | apply below_drew1) | exact HB.out))) : w.heap.size ≤ gb268)); have n3_ := Aside0.mk ((by rw [hg]; exact (below_size (by repeat (first | (with_reducible first | exact HB.out | apply below_alloc | apply pw_below_drewN | apply below_drew1) | exact HB.out))) : w.heap.size ≤ gb268)); clear HB; have HB := n0_; have BK268 := n1_; have GW268 := n2_; have GE268 := n3_; clear n0_ n1_ n2_ n3_; clear hb hbox hg; have hcz3_0 : w2.cell? ⟨gb268, 0, none⟩ = some (.int .i64 a0_0) := (blk_cell BK268.out 0).trans rfl; have hcz3_1 : w2.cell? ⟨gb268, 1, none⟩ = some (.slice A0_1 l0_1.length c0_1) := (blk_cell BK268.out 1).trans rfl; have hcz3_2 : w2.cell? ⟨gb268, 2, none⟩ = some (.int .i64 a0_2) := (blk_cell BK268.out 2).trans rfl; have hcz3_3 : w2.cell? ⟨gb268, 3, none⟩ = some (.int .i64 a0_3) := (blk_cell BK268.out 3).trans rfl; have hcz3_4 : w2.cell? ⟨gb268, 4, none⟩ = some (.int .i64 a0_4) := (blk_cell BK268.out 4).trans rfl; have hfz3_0 := blk_frozen BK268.out 0; have hfz3_1 := blk_frozen BK268.out 1; have hfz3_2 := blk_frozen BK268.out 2; have hfz3_3 := blk_frozen BK268.out 3; have hfz3_4 := blk_frozen BK268.out 4))
  go_ret
  exact ⟨by first | rfl | (simp [errW_none, errW_some] <;> rfl) | (simp [*, errW_none, errW_some] <;> rfl), by repeat (first | (with_reducible first | exact HB.out | apply below_alloc | apply pw_below_drewN | apply below_drew1 | refine below_set ?_ GE268.out) | exact HB.out)⟩

end Go.Proofs.YtllnjembdmjljaaDoor.XOrderDraws
