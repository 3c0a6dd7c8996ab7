-- by xprint.py, a program of this session, over the kit's print
import Derived.Test.YtiofjnhmogeenaaGreatDoorXEXSx0
import Derived.Test.YtiofjnhmogeenaaGreatDoorSq
namespace Go.Proofs.YtiofjnhmogeenaaGreatDoor.XExtFixed
open Go.RowKit Go.Proofs.YtiofjnhmogeenaaGreatDoor.Sq Go.Proofs.YtiofjnhmogeenaaGreatDoorW.PrintWords Go.Proofs.YtiofjnhmogeenaaGreatDoorW.PrintLast Go.Proofs.YtiofjnhmogeenaaGreatDoorW.PrintMore
attribute [local go_sem] max2_int min2_int max_two min_two max_three min_three max_four min_four   -- for this text's walks alone
set_option linter.unusedVariables false
set_option linter.unusedSimpArgs false

/-! ### jigsawref09_three: function 48 -/
def jigsawref09_three.f (a0_0 : Int) (l0_1 : List Int) (l0_2 : List Int) (l0_3 : List Int) (l0_4 : List Int) (l0_5 : List Int) (a0_6 : Int) (l0_7 : List (List Int)) (l1 : List Int) : Option (Bool) := if 0 < (l0_1.length : Int) then (if 0 ≤ (rd l0_1 0) then (if (rd l0_1 0) < (l1.length : Int) then (if 1 < (l0_1.length : Int) then (if 0 ≤ (rd l0_1 1) then (if (rd l0_1 1) < (l1.length : Int) then (if a0_0 = 8 then (if (rd l1 (rd l0_1 0)) ≥ 0 then (if (rd l1 (rd l0_1 1)) = (rd l1 (rd l0_1 0)) then (some true) else (if (rd l1 (rd l0_1 0)) < 0 then (some ((rd l1 (rd l0_1 1)) == (wrap64 (-(rd l1 (rd l0_1 0)))))) else (some false))) else (if (rd l1 (rd l0_1 0)) < 0 then (some ((rd l1 (rd l0_1 1)) == (wrap64 (-(rd l1 (rd l0_1 0)))))) else (some false))) else (if a0_0 = 11 then (none) else (if 2 < (l0_1.length : Int) then (if 0 ≤ (rd l0_1 2) then (if (rd l0_1 2) < (l1.length : Int) then (if a0_0 = 5 then (none) else (if a0_0 = 9 then (if (rd l1 (rd l0_1 2)) ≤ (rd l1 (rd l0_1 0)) then (if (rd l1 (rd l0_1 2)) ≤ (rd l1 (rd l0_1 1)) then (if (rd l1 (rd l0_1 2)) = (rd l1 (rd l0_1 0)) then (some true) else (some ((rd l1 (rd l0_1 2)) == (rd l1 (rd l0_1 1))))) else (some false)) else (some false)) else (if a0_0 = 10 then (if (rd l1 (rd l0_1 2)) ≥ (rd l1 (rd l0_1 0)) then (if (rd l1 (rd l0_1 2)) ≥ (rd l1 (rd l0_1 1)) then (if (rd l1 (rd l0_1 2)) = (rd l1 (rd l0_1 0)) then (some true) else (some ((rd l1 (rd l0_1 2)) == (rd l1 (rd l0_1 1))))) else (some false)) else (some false)) else (none)))) else (none)) else (none)) else (none)))) else (none)) else (none)) else (none)) else (none)) else (none)) else (none)
set_option maxHeartbeats 8000000 in
set_option maxRecDepth 100000 in
theorem jigsawref09_three.calls (a0_0 : Int) (A0_1 : Option Addr) (c0_1 : Nat) (l0_1 : List Int) (A0_2 : Option Addr) (c0_2 : Nat) (l0_2 : List Int) (A0_3 : Option Addr) (c0_3 : Nat) (l0_3 : List Int) (A0_4 : Option Addr) (c0_4 : Nat) (l0_4 : List Int) (A0_5 : Option Addr) (c0_5 : Nat) (l0_5 : List Int) (a0_6 : Int) (A0_7 : Option Addr) (c0_7 : Nat) (l0_7 : List (List Int)) (A1 : Option Addr) (c1 : Nat) (l1 : List Int) (r : Bool) (w : World) (hr0_1 : Kd.C (Kd.int .i64) w A0_1 l0_1.length l0_1) (hc0_1 : l0_1.length ≤ c0_1) (hr0_2 : Kd.C (Kd.int .i64) w A0_2 l0_2.length l0_2) (hc0_2 : l0_2.length ≤ c0_2) (hr0_3 : Kd.C (Kd.int .i64) w A0_3 l0_3.length l0_3) (hc0_3 : l0_3.length ≤ c0_3) (hr0_4 : Kd.C (Kd.int .i64) w A0_4 l0_4.length l0_4) (hc0_4 : l0_4.length ≤ c0_4) (hr0_5 : Kd.C (Kd.int .i64) w A0_5 l0_5.length l0_5) (hc0_5 : l0_5.length ≤ c0_5) (hr0_7 : Kd.C (Kd.slice 3 (Kd.int .i64)) w A0_7 l0_7.length l0_7) (hc0_7 : l0_7.length ≤ c0_7) (hr1 : Kd.C (Kd.int .i64) w A1 l1.length l1) (hc1 : l1.length ≤ c1) (h : jigsawref09_three.f a0_0 l0_1 l0_2 l0_3 l0_4 l0_5 a0_6 l0_7 l1 = some r) :
  Calls Tryz.prog 48 #[.agg #[.int .i64 a0_0, .slice A0_1 l0_1.length c0_1, .slice A0_2 l0_2.length c0_2, .slice A0_3 l0_3.length c0_3, .slice A0_4 l0_4.length c0_4, .slice A0_5 l0_5.length c0_5, .int .i64 a0_6, .slice A0_7 l0_7.length c0_7], .slice A1 l1.length c1] w fun e w' => e = .returned (.bool r) ∧ Below w.heap.size w w' := by
 have hu32 := Tryz.underlying32
 have HR0_1 := Aside0.mk hr0_1
 have HC0_1 := Aside0.mk hc0_1
 clear hr0_1 hc0_1
 have HC0_2 := Aside0.mk hc0_2
 clear hr0_2 hc0_2
 have HC0_3 := Aside0.mk hc0_3
 clear hr0_3 hc0_3
 have HC0_4 := Aside0.mk hc0_4
 clear hr0_4 hc0_4
 have HC0_5 := Aside0.mk hc0_5
 clear hr0_5 hc0_5
 have HC0_7 := Aside0.mk hc0_7
 clear hr0_7 hc0_7
 have HR1 := Aside0.mk hr1
 have HC1 := Aside0.mk hc1
 clear hr1 hc1
 have HB := Aside0.mk (Below.refl w.heap.size w)
 have H : (if 0 < (l0_1.length : Int) then (if 0 ≤ (rd l0_1 0) then (if (rd l0_1 0) < (l1.length : Int) then (if 1 < (l0_1.length : Int) then (if 0 ≤ (rd l0_1 1) then (if (rd l0_1 1) < (l1.length : Int) then (if a0_0 = 8 then (if (rd l1 (rd l0_1 0)) ≥ 0 then (if (rd l1 (rd l0_1 1)) = (rd l1 (rd l0_1 0)) then (some true) else (if (rd l1 (rd l0_1 0)) < 0 then (some ((rd l1 (rd l0_1 1)) == (wrap64 (-(rd l1 (rd l0_1 0)))))) else (some false))) else (if (rd l1 (rd l0_1 0)) < 0 then (some ((rd l1 (rd l0_1 1)) == (wrap64 (-(rd l1 (rd l0_1 0)))))) else (some false))) else (if a0_0 = 11 then (none) else (if 2 < (l0_1.length : Int) then (if 0 ≤ (rd l0_1 2) then (if (rd l0_1 2) < (l1.length : Int) then (if a0_0 = 5 then (none) else (if a0_0 = 9 then (if (rd l1 (rd l0_1 2)) ≤ (rd l1 (rd l0_1 0)) then (if (rd l1 (rd l0_1 2)) ≤ (rd l1 (rd l0_1 1)) then (if (rd l1 (rd l0_1 2)) = (rd l1 (rd l0_1 0)) then (some true) else (some ((rd l1 (rd l0_1 2)) == (rd l1 (rd l0_1 1))))) else (some false)) else (some false)) else (if a0_0 = 10 then (if (rd l1 (rd l0_1 2)) ≥ (rd l1 (rd l0_1 0)) then (if (rd l1 (rd l0_1 2)) ≥ (rd l1 (rd l0_1 1)) then (if (rd l1 (rd l0_1 2)) = (rd l1 (rd l0_1 0)) then (some true) else (some ((rd l1 (rd l0_1 2)) == (rd l1 (rd l0_1 1))))) else (some false)) else (some false)) else (none)))) else (none)) else (none)) else (none)))) else (none)) else (none)) else (none)) else (none)) else (none)) else (none)) = some r := h
 clear h
 by_cases c3 : 0 < (l0_1.length : Int)
 ·
  rw [if_pos c3] at H
  have c3b0 : decide (0 < (l0_1.length : Int)) = true := decide_eq_true c3
  have c3b1 : decide (0 < l0_1.length) = true := decide_eq_true (by omega)
  clear c3
  by_cases c4 : 0 ≤ (rd l0_1 0)
  ·
   rw [if_pos c4] at H
   have c4b0 : decide (0 ≤ (rd l0_1 0)) = true := decide_eq_true c4
   clear c4
   by_cases c5 : (rd l0_1 0) < (l1.length : Int)
   ·
    rw [if_pos c5] at H
    have c5b0 : decide ((rd l0_1 0) < (l1.length : Int)) = true := decide_eq_true c5
    clear c5
    by_cases c6 : 1 < (l0_1.length : Int)
    ·
     rw [if_pos c6] at H
     have c6b0 : decide (1 < (l0_1.length : Int)) = true := decide_eq_true c6
     have c6b1 : decide (1 < l0_1.length) = true := decide_eq_true (by omega)
     clear c6
     by_cases c7 : 0 ≤ (rd l0_1 1)
     ·
      rw [if_pos c7] at H
      have c7b0 : decide (0 ≤ (rd l0_1 1)) = true := decide_eq_true c7
      clear c7
      by_cases c8 : (rd l0_1 1) < (l1.length : Int)
      ·
       rw [if_pos c8] at H
       have c8b0 : decide ((rd l0_1 1) < (l1.length : Int)) = true := decide_eq_true c8
       clear c8
       by_cases c9 : a0_0 = 8
       ·
        rw [if_pos c9] at H
        have c9b0 : (a0_0 == 8) = true := beq_iff_eq.mpr c9
        have c9b1 : (a0_0 != 8) = false := bne_eq_false_iff_eq.mpr c9
        clear c9
        by_cases c10 : (rd l1 (rd l0_1 0)) ≥ 0
        ·
         rw [if_pos c10] at H
         have c10b0 : decide (0 ≤ (rd l1 (rd l0_1 0))) = true := decide_eq_true c10
         clear c10
         by_cases c11 : (rd l1 (rd l0_1 1)) = (rd l1 (rd l0_1 0))
         ·
          rw [if_pos c11] at H
          have c11b0 : ((rd l1 (rd l0_1 1)) == (rd l1 (rd l0_1 0))) = true := beq_iff_eq.mpr c11
          have c11b1 : ((rd l1 (rd l0_1 1)) != (rd l1 (rd l0_1 0))) = false := bne_eq_false_iff_eq.mpr c11
          clear c11
          obtain rfl := Option.some.inj H
          go_enter Tryz.func48, Tryz.ntmps48
          go_wp2_with (first | ((with_reducible refine gate_dst (N := 2) rfl ?_); (try (refine gate_guard (by rfl) ?_; dsimp only)); refine bxe_ (N := 2) (cs := #[.int .i64 a0_0, .slice A0_1 l0_1.length c0_1, .slice A0_2 l0_2.length c0_2, .slice A0_3 l0_3.length c0_3, .slice A0_4 l0_4.length c0_4, .slice A0_5 l0_5.length c0_5, .int .i64 a0_6, .slice A0_7 l0_7.length c0_7]) (t := 32) ?_; intro gb432 hg w12 hbox hb; have BK432 := Aside0.mk (hbox); have GW432 := Aside0.mk (by rw [hg]; exact (below_size bel_) : w.heap.size ≤ gb432); have GE432 := GW432; replace HB := Aside0.mk (below_step bel_ hb); clear hb hbox hg; obtain ⟨hcz13_0, hcz13_1, hcz13_2, hcz13_3, hcz13_4, hcz13_5, hcz13_6, hcz13_7, hfz13_0, hfz13_1, hfz13_2, hfz13_3, hfz13_4, hfz13_5, hfz13_6, hfz13_7⟩ := cel8_ BK432.out; have p433 : 0 ≤ (0 : Int) := (by omega); have q433 : 0 < (l0_1.length : Int) := dq_; obtain ⟨ad433, e433, hx433_0⟩ := Kd.at_int HR0_1.out 0 p433 q433; cases e433; have qi433 : (0 < l0_1.length) = True := eq_true (by omega); (try rw [show ((0 : Int)).toNat = 0 from rfl] at hx433_0); (try rw [Addr.add_zero'] at hx433_0); replace hx433_0 := (HB.out.cell (World.block_lt_of_cell? w _ hx433_0)).trans hx433_0; replace p433 := eq_true p433; replace q433 := eq_true q433; have p434 : 0 ≤ ((rd l0_1 0) : Int) := dq_; have q434 : (rd l0_1 0) < (l1.length : Int) := dq_; obtain ⟨ad434, e434, hx434_0⟩ := Kd.at_int HR1.out (rd l0_1 0) p434 q434; cases e434; replace hx434_0 := (HB.out.cell (World.block_lt_of_cell? w _ hx434_0)).trans hx434_0; replace p434 := eq_true p434; replace q434 := eq_true q434; have p435 : 0 ≤ (1 : Int) := (by omega); have q435 : 1 < (l0_1.length : Int) := dq_; obtain ⟨ad435, e435, hx435_0⟩ := Kd.at_int HR0_1.out 1 p435 q435; obtain rfl : ad433 = ad435 := (by injection e435); (try simp only [show (1 : Int).toNat = 1 from rfl, Nat.reduceMul, Nat.reduceEqDiff, Go.Addr.add, ↓reduceIte] at hx435_0); have qi435 : (1 < l0_1.length) = True := eq_true (by omega); (try rw [show ((1 : Int)).toNat = 1 from rfl] at hx435_0); replace hx435_0 := (HB.out.cell (World.block_lt_of_cell? w _ hx435_0)).trans hx435_0; replace p435 := eq_true p435; replace q435 := eq_true q435; have p436 : 0 ≤ ((rd l0_1 1) : Int) := dq_; have q436 : (rd l0_1 1) < (l1.length : Int) := dq_; obtain ⟨ad436, e436, hx436_0⟩ := Kd.at_int HR1.out (rd l0_1 1) p436 q436; obtain rfl : ad434 = ad436 := (by injection e436); replace hx436_0 := (HB.out.cell (World.block_lt_of_cell? w _ hx436_0)).trans hx436_0; replace p436 := eq_true p436; replace q436 := eq_true q436))
          go_ret
          exact ⟨by first | rfl | (simp [errW_none, errW_some] <;> rfl) | (simp [*, errW_none, errW_some] <;> rfl), bel_⟩
         ·
          rw [if_neg c11] at H
          have c11b0 : ((rd l1 (rd l0_1 1)) == (rd l1 (rd l0_1 0))) = false := beq_eq_false_iff_ne.mpr c11
          have c11b1 : ((rd l1 (rd l0_1 1)) != (rd l1 (rd l0_1 0))) = true := bne_iff_ne.mpr c11
          by_cases c14 : (rd l1 (rd l0_1 0)) < 0
          ·
           rw [if_pos c14] at H
           have c14b0 : decide ((rd l1 (rd l0_1 0)) < 0) = true := decide_eq_true c14
           clear c14
           obtain rfl := Option.some.inj H
           go_enter Tryz.func48, Tryz.ntmps48
           go_wp2_with (first | ((with_reducible refine gate_dst (N := 2) rfl ?_); (try (refine gate_guard (by rfl) ?_; dsimp only)); refine bxe_ (N := 2) (cs := #[.int .i64 a0_0, .slice A0_1 l0_1.length c0_1, .slice A0_2 l0_2.length c0_2, .slice A0_3 l0_3.length c0_3, .slice A0_4 l0_4.length c0_4, .slice A0_5 l0_5.length c0_5, .int .i64 a0_6, .slice A0_7 l0_7.length c0_7]) (t := 32) ?_; intro gb432 hg w15 hbox hb; have BK432 := Aside0.mk (hbox); have GW432 := Aside0.mk (by rw [hg]; exact (below_size bel_) : w.heap.size ≤ gb432); have GE432 := GW432; replace HB := Aside0.mk (below_step bel_ hb); clear hb hbox hg; obtain ⟨hcz16_0, hcz16_1, hcz16_2, hcz16_3, hcz16_4, hcz16_5, hcz16_6, hcz16_7, hfz16_0, hfz16_1, hfz16_2, hfz16_3, hfz16_4, hfz16_5, hfz16_6, hfz16_7⟩ := cel8_ BK432.out; have p433 : 0 ≤ (0 : Int) := (by omega); have q433 : 0 < (l0_1.length : Int) := dq_; obtain ⟨ad433, e433, hx433_0⟩ := Kd.at_int HR0_1.out 0 p433 q433; cases e433; have qi433 : (0 < l0_1.length) = True := eq_true (by omega); (try rw [show ((0 : Int)).toNat = 0 from rfl] at hx433_0); (try rw [Addr.add_zero'] at hx433_0); replace hx433_0 := (HB.out.cell (World.block_lt_of_cell? w _ hx433_0)).trans hx433_0; replace p433 := eq_true p433; replace q433 := eq_true q433; have p434 : 0 ≤ ((rd l0_1 0) : Int) := dq_; have q434 : (rd l0_1 0) < (l1.length : Int) := dq_; obtain ⟨ad434, e434, hx434_0⟩ := Kd.at_int HR1.out (rd l0_1 0) p434 q434; cases e434; replace hx434_0 := (HB.out.cell (World.block_lt_of_cell? w _ hx434_0)).trans hx434_0; replace p434 := eq_true p434; replace q434 := eq_true q434; have p435 : 0 ≤ (1 : Int) := (by omega); have q435 : 1 < (l0_1.length : Int) := dq_; obtain ⟨ad435, e435, hx435_0⟩ := Kd.at_int HR0_1.out 1 p435 q435; obtain rfl : ad433 = ad435 := (by injection e435); (try simp only [show (1 : Int).toNat = 1 from rfl, Nat.reduceMul, Nat.reduceEqDiff, Go.Addr.add, ↓reduceIte] at hx435_0); have qi435 : (1 < l0_1.length) = True := eq_true (by omega); (try rw [show ((1 : Int)).toNat = 1 from rfl] at hx435_0); replace hx435_0 := (HB.out.cell (World.block_lt_of_cell? w _ hx435_0)).trans hx435_0; replace p435 := eq_true p435; replace q435 := eq_true q435; have p436 : 0 ≤ ((rd l0_1 1) : Int) := dq_; have q436 : (rd l0_1 1) < (l1.length : Int) := dq_; obtain ⟨ad436, e436, hx436_0⟩ := Kd.at_int HR1.out (rd l0_1 1) p436 q436; obtain rfl : ad434 = ad436 := (by injection e436); replace hx436_0 := (HB.out.cell (World.block_lt_of_cell? w _ hx436_0)).trans hx436_0; replace p436 := eq_true p436; replace q436 := eq_true q436))
           go_ret
           exact ⟨by first | rfl | (simp [errW_none, errW_some] <;> rfl) | (simp [*, errW_none, errW_some] <;> rfl), bel_⟩
          ·
           rw [if_neg c14] at H
           have c14b0 : decide ((rd l1 (rd l0_1 0)) < 0) = false := decide_eq_false c14
           clear c14
           obtain rfl := Option.some.inj H
           go_enter Tryz.func48, Tryz.ntmps48
           go_wp2_with (first | ((with_reducible refine gate_dst (N := 2) rfl ?_); (try (refine gate_guard (by rfl) ?_; dsimp only)); refine bxe_ (N := 2) (cs := #[.int .i64 a0_0, .slice A0_1 l0_1.length c0_1, .slice A0_2 l0_2.length c0_2, .slice A0_3 l0_3.length c0_3, .slice A0_4 l0_4.length c0_4, .slice A0_5 l0_5.length c0_5, .int .i64 a0_6, .slice A0_7 l0_7.length c0_7]) (t := 32) ?_; intro gb432 hg w17 hbox hb; have BK432 := Aside0.mk (hbox); have GW432 := Aside0.mk (by rw [hg]; exact (below_size bel_) : w.heap.size ≤ gb432); have GE432 := GW432; replace HB := Aside0.mk (below_step bel_ hb); clear hb hbox hg; obtain ⟨hcz18_0, hcz18_1, hcz18_2, hcz18_3, hcz18_4, hcz18_5, hcz18_6, hcz18_7, hfz18_0, hfz18_1, hfz18_2, hfz18_3, hfz18_4, hfz18_5, hfz18_6, hfz18_7⟩ := cel8_ BK432.out; have p433 : 0 ≤ (0 : Int) := (by omega); have q433 : 0 < (l0_1.length : Int) := dq_; obtain ⟨ad433, e433, hx433_0⟩ := Kd.at_int HR0_1.out 0 p433 q433; cases e433; have qi433 : (0 < l0_1.length) = True := eq_true (by omega); (try rw [show ((0 : Int)).toNat = 0 from rfl] at hx433_0); (try rw [Addr.add_zero'] at hx433_0); replace hx433_0 := (HB.out.cell (World.block_lt_of_cell? w _ hx433_0)).trans hx433_0; replace p433 := eq_true p433; replace q433 := eq_true q433; have p434 : 0 ≤ ((rd l0_1 0) : Int) := dq_; have q434 : (rd l0_1 0) < (l1.length : Int) := dq_; obtain ⟨ad434, e434, hx434_0⟩ := Kd.at_int HR1.out (rd l0_1 0) p434 q434; cases e434; replace hx434_0 := (HB.out.cell (World.block_lt_of_cell? w _ hx434_0)).trans hx434_0; replace p434 := eq_true p434; replace q434 := eq_true q434; have p435 : 0 ≤ (1 : Int) := (by omega); have q435 : 1 < (l0_1.length : Int) := dq_; obtain ⟨ad435, e435, hx435_0⟩ := Kd.at_int HR0_1.out 1 p435 q435; obtain rfl : ad433 = ad435 := (by injection e435); (try simp only [show (1 : Int).toNat = 1 from rfl, Nat.reduceMul, Nat.reduceEqDiff, Go.Addr.add, ↓reduceIte] at hx435_0); have qi435 : (1 < l0_1.length) = True := eq_true (by omega); (try rw [show ((1 : Int)).toNat = 1 from rfl] at hx435_0); replace hx435_0 := (HB.out.cell (World.block_lt_of_cell? w _ hx435_0)).trans hx435_0; replace p435 := eq_true p435; replace q435 := eq_true q435; have p436 : 0 ≤ ((rd l0_1 1) : Int) := dq_; have q436 : (rd l0_1 1) < (l1.length : Int) := dq_; obtain ⟨ad436, e436, hx436_0⟩ := Kd.at_int HR1.out (rd l0_1 1) p436 q436; obtain rfl : ad434 = ad436 := (by injection e436); replace hx436_0 := (HB.out.cell (World.block_lt_of_cell? w _ hx436_0)).trans hx436_0; replace p436 := eq_true p436; replace q436 := eq_true q436))
           go_ret
           exact ⟨by first | rfl | (simp [errW_none, errW_some] <;> rfl) | (simp [*, errW_none, errW_some] <;> rfl), bel_⟩
        ·
         rw [if_neg c10] at H
         have c10b0 : decide (0 ≤ (rd l1 (rd l0_1 0))) = false := decide_eq_false c10
         clear c10
         by_cases c19 : (rd l1 (rd l0_1 0)) < 0
         ·
          rw [if_pos c19] at H
          have c19b0 : decide ((rd l1 (rd l0_1 0)) < 0) = true := decide_eq_true c19
          clear c19
          obtain rfl := Option.some.inj H
          go_enter Tryz.func48, Tryz.ntmps48
          go_wp2_with (first | ((with_reducible refine gate_dst (N := 2) rfl ?_); (try (refine gate_guard (by rfl) ?_; dsimp only)); refine bxe_ (N := 2) (cs := #[.int .i64 a0_0, .slice A0_1 l0_1.length c0_1, .slice A0_2 l0_2.length c0_2, .slice A0_3 l0_3.length c0_3, .slice A0_4 l0_4.length c0_4, .slice A0_5 l0_5.length c0_5, .int .i64 a0_6, .slice A0_7 l0_7.length c0_7]) (t := 32) ?_; intro gb432 hg w20 hbox hb; have BK432 := Aside0.mk (hbox); have GW432 := Aside0.mk (by rw [hg]; exact (below_size bel_) : w.heap.size ≤ gb432); have GE432 := GW432; replace HB := Aside0.mk (below_step bel_ hb); clear hb hbox hg; obtain ⟨hcz21_0, hcz21_1, hcz21_2, hcz21_3, hcz21_4, hcz21_5, hcz21_6, hcz21_7, hfz21_0, hfz21_1, hfz21_2, hfz21_3, hfz21_4, hfz21_5, hfz21_6, hfz21_7⟩ := cel8_ BK432.out; have p433 : 0 ≤ (0 : Int) := (by omega); have q433 : 0 < (l0_1.length : Int) := dq_; obtain ⟨ad433, e433, hx433_0⟩ := Kd.at_int HR0_1.out 0 p433 q433; cases e433; have qi433 : (0 < l0_1.length) = True := eq_true (by omega); (try rw [show ((0 : Int)).toNat = 0 from rfl] at hx433_0); (try rw [Addr.add_zero'] at hx433_0); replace hx433_0 := (HB.out.cell (World.block_lt_of_cell? w _ hx433_0)).trans hx433_0; replace p433 := eq_true p433; replace q433 := eq_true q433; have p434 : 0 ≤ ((rd l0_1 0) : Int) := dq_; have q434 : (rd l0_1 0) < (l1.length : Int) := dq_; obtain ⟨ad434, e434, hx434_0⟩ := Kd.at_int HR1.out (rd l0_1 0) p434 q434; cases e434; replace hx434_0 := (HB.out.cell (World.block_lt_of_cell? w _ hx434_0)).trans hx434_0; replace p434 := eq_true p434; replace q434 := eq_true q434; have p435 : 0 ≤ (1 : Int) := (by omega); have q435 : 1 < (l0_1.length : Int) := dq_; obtain ⟨ad435, e435, hx435_0⟩ := Kd.at_int HR0_1.out 1 p435 q435; obtain rfl : ad433 = ad435 := (by injection e435); (try simp only [show (1 : Int).toNat = 1 from rfl, Nat.reduceMul, Nat.reduceEqDiff, Go.Addr.add, ↓reduceIte] at hx435_0); have qi435 : (1 < l0_1.length) = True := eq_true (by omega); (try rw [show ((1 : Int)).toNat = 1 from rfl] at hx435_0); replace hx435_0 := (HB.out.cell (World.block_lt_of_cell? w _ hx435_0)).trans hx435_0; replace p435 := eq_true p435; replace q435 := eq_true q435; have p436 : 0 ≤ ((rd l0_1 1) : Int) := dq_; have q436 : (rd l0_1 1) < (l1.length : Int) := dq_; obtain ⟨ad436, e436, hx436_0⟩ := Kd.at_int HR1.out (rd l0_1 1) p436 q436; obtain rfl : ad434 = ad436 := (by injection e436); replace hx436_0 := (HB.out.cell (World.block_lt_of_cell? w _ hx436_0)).trans hx436_0; replace p436 := eq_true p436; replace q436 := eq_true q436))
          go_ret
          exact ⟨by first | rfl | (simp [errW_none, errW_some] <;> rfl) | (simp [*, errW_none, errW_some] <;> rfl), bel_⟩
         ·
          rw [if_neg c19] at H
          have c19b0 : decide ((rd l1 (rd l0_1 0)) < 0) = false := decide_eq_false c19
          clear c19
          obtain rfl := Option.some.inj H
          go_enter Tryz.func48, Tryz.ntmps48
          go_wp2_with (first | ((with_reducible refine gate_dst (N := 2) rfl ?_); (try (refine gate_guard (by rfl) ?_; dsimp only)); refine bxe_ (N := 2) (cs := #[.int .i64 a0_0, .slice A0_1 l0_1.length c0_1, .slice A0_2 l0_2.length c0_2, .slice A0_3 l0_3.length c0_3, .slice A0_4 l0_4.length c0_4, .slice A0_5 l0_5.length c0_5, .int .i64 a0_6, .slice A0_7 l0_7.length c0_7]) (t := 32) ?_; intro gb432 hg w22 hbox hb; have BK432 := Aside0.mk (hbox); have GW432 := Aside0.mk (by rw [hg]; exact (below_size bel_) : w.heap.size ≤ gb432); have GE432 := GW432; replace HB := Aside0.mk (below_step bel_ hb); clear hb hbox hg; obtain ⟨hcz23_0, hcz23_1, hcz23_2, hcz23_3, hcz23_4, hcz23_5, hcz23_6, hcz23_7, hfz23_0, hfz23_1, hfz23_2, hfz23_3, hfz23_4, hfz23_5, hfz23_6, hfz23_7⟩ := cel8_ BK432.out; have p433 : 0 ≤ (0 : Int) := (by omega); have q433 : 0 < (l0_1.length : Int) := dq_; obtain ⟨ad433, e433, hx433_0⟩ := Kd.at_int HR0_1.out 0 p433 q433; cases e433; have qi433 : (0 < l0_1.length) = True := eq_true (by omega); (try rw [show ((0 : Int)).toNat = 0 from rfl] at hx433_0); (try rw [Addr.add_zero'] at hx433_0); replace hx433_0 := (HB.out.cell (World.block_lt_of_cell? w _ hx433_0)).trans hx433_0; replace p433 := eq_true p433; replace q433 := eq_true q433; have p434 : 0 ≤ ((rd l0_1 0) : Int) := dq_; have q434 : (rd l0_1 0) < (l1.length : Int) := dq_; obtain ⟨ad434, e434, hx434_0⟩ := Kd.at_int HR1.out (rd l0_1 0) p434 q434; cases e434; replace hx434_0 := (HB.out.cell (World.block_lt_of_cell? w _ hx434_0)).trans hx434_0; replace p434 := eq_true p434; replace q434 := eq_true q434; have p435 : 0 ≤ (1 : Int) := (by omega); have q435 : 1 < (l0_1.length : Int) := dq_; obtain ⟨ad435, e435, hx435_0⟩ := Kd.at_int HR0_1.out 1 p435 q435; obtain rfl : ad433 = ad435 := (by injection e435); (try simp only [show (1 : Int).toNat = 1 from rfl, Nat.reduceMul, Nat.reduceEqDiff, Go.Addr.add, ↓reduceIte] at hx435_0); have qi435 : (1 < l0_1.length) = True := eq_true (by omega); (try rw [show ((1 : Int)).toNat = 1 from rfl] at hx435_0); replace hx435_0 := (HB.out.cell (World.block_lt_of_cell? w _ hx435_0)).trans hx435_0; replace p435 := eq_true p435; replace q435 := eq_true q435; have p436 : 0 ≤ ((rd l0_1 1) : Int) := dq_; have q436 : (rd l0_1 1) < (l1.length : Int) := dq_; obtain ⟨ad436, e436, hx436_0⟩ := Kd.at_int HR1.out (rd l0_1 1) p436 q436; obtain rfl : ad434 = ad436 := (by injection e436); replace hx436_0 := (HB.out.cell (World.block_lt_of_cell? w _ hx436_0)).trans hx436_0; replace p436 := eq_true p436; replace q436 := eq_true q436))
          go_ret
          exact ⟨by first | rfl | (simp [errW_none, errW_some] <;> rfl) | (simp [*, errW_none, errW_some] <;> rfl), bel_⟩
       ·
        rw [if_neg c9] at H
        have c9b0 : (a0_0 == 8) = false := beq_eq_false_iff_ne.mpr c9
        have c9b1 : (a0_0 != 8) = true := bne_iff_ne.mpr c9
        by_cases c24 : a0_0 = 11
        ·
         rw [if_pos c24] at H
         exact absurd H (by simp)
        ·
         rw [if_neg c24] at H
         have c24b0 : (a0_0 == 11) = false := beq_eq_false_iff_ne.mpr c24
         have c24b1 : (a0_0 != 11) = true := bne_iff_ne.mpr c24
         by_cases c25 : 2 < (l0_1.length : Int)
         ·
          rw [if_pos c25] at H
          have c25b0 : decide (2 < (l0_1.length : Int)) = true := decide_eq_true c25
          have c25b1 : decide (2 < l0_1.length) = true := decide_eq_true (by omega)
          clear c25
          by_cases c26 : 0 ≤ (rd l0_1 2)
          ·
           rw [if_pos c26] at H
           have c26b0 : decide (0 ≤ (rd l0_1 2)) = true := decide_eq_true c26
           clear c26
           by_cases c27 : (rd l0_1 2) < (l1.length : Int)
           ·
            rw [if_pos c27] at H
            have c27b0 : decide ((rd l0_1 2) < (l1.length : Int)) = true := decide_eq_true c27
            clear c27
            by_cases c28 : a0_0 = 5
            ·
             rw [if_pos c28] at H
             exact absurd H (by simp)
            ·
             rw [if_neg c28] at H
             have c28b0 : (a0_0 == 5) = false := beq_eq_false_iff_ne.mpr c28
             have c28b1 : (a0_0 != 5) = true := bne_iff_ne.mpr c28
             by_cases c29 : a0_0 = 9
             ·
              rw [if_pos c29] at H
              have c29b0 : (a0_0 == 9) = true := beq_iff_eq.mpr c29
              have c29b1 : (a0_0 != 9) = false := bne_eq_false_iff_eq.mpr c29
              clear c29
              by_cases c30 : (rd l1 (rd l0_1 2)) ≤ (rd l1 (rd l0_1 0))
              ·
               rw [if_pos c30] at H
               have c30b0 : decide ((rd l1 (rd l0_1 2)) ≤ (rd l1 (rd l0_1 0))) = true := decide_eq_true c30
               clear c30
               by_cases c31 : (rd l1 (rd l0_1 2)) ≤ (rd l1 (rd l0_1 1))
               ·
                rw [if_pos c31] at H
                have c31b0 : decide ((rd l1 (rd l0_1 2)) ≤ (rd l1 (rd l0_1 1))) = true := decide_eq_true c31
                clear c31
                by_cases c32 : (rd l1 (rd l0_1 2)) = (rd l1 (rd l0_1 0))
                ·
                 rw [if_pos c32] at H
                 have c32b0 : ((rd l1 (rd l0_1 2)) == (rd l1 (rd l0_1 0))) = true := beq_iff_eq.mpr c32
                 have c32b1 : ((rd l1 (rd l0_1 2)) != (rd l1 (rd l0_1 0))) = false := bne_eq_false_iff_eq.mpr c32
                 clear c32
                 obtain rfl := Option.some.inj H
                 go_enter Tryz.func48, Tryz.ntmps48
                 go_wp2_with (first | ((with_reducible refine gate_dst (N := 2) rfl ?_); (try (refine gate_guard (by rfl) ?_; dsimp only)); refine bxe_ (N := 2) (cs := #[.int .i64 a0_0, .slice A0_1 l0_1.length c0_1, .slice A0_2 l0_2.length c0_2, .slice A0_3 l0_3.length c0_3, .slice A0_4 l0_4.length c0_4, .slice A0_5 l0_5.length c0_5, .int .i64 a0_6, .slice A0_7 l0_7.length c0_7]) (t := 32) ?_; intro gb432 hg w33 hbox hb; have BK432 := Aside0.mk (hbox); have GW432 := Aside0.mk (by rw [hg]; exact (below_size bel_) : w.heap.size ≤ gb432); have GE432 := GW432; replace HB := Aside0.mk (below_step bel_ hb); clear hb hbox hg; obtain ⟨hcz34_0, hcz34_1, hcz34_2, hcz34_3, hcz34_4, hcz34_5, hcz34_6, hcz34_7, hfz34_0, hfz34_1, hfz34_2, hfz34_3, hfz34_4, hfz34_5, hfz34_6, hfz34_7⟩ := cel8_ BK432.out; have p433 : 0 ≤ (0 : Int) := (by omega); have q433 : 0 < (l0_1.length : Int) := dq_; obtain ⟨ad433, e433, hx433_0⟩ := Kd.at_int HR0_1.out 0 p433 q433; cases e433; have qi433 : (0 < l0_1.length) = True := eq_true (by omega); (try rw [show ((0 : Int)).toNat = 0 from rfl] at hx433_0); (try rw [Addr.add_zero'] at hx433_0); replace hx433_0 := (HB.out.cell (World.block_lt_of_cell? w _ hx433_0)).trans hx433_0; replace p433 := eq_true p433; replace q433 := eq_true q433; have p434 : 0 ≤ ((rd l0_1 0) : Int) := dq_; have q434 : (rd l0_1 0) < (l1.length : Int) := dq_; obtain ⟨ad434, e434, hx434_0⟩ := Kd.at_int HR1.out (rd l0_1 0) p434 q434; cases e434; replace hx434_0 := (HB.out.cell (World.block_lt_of_cell? w _ hx434_0)).trans hx434_0; replace p434 := eq_true p434; replace q434 := eq_true q434; have p435 : 0 ≤ (1 : Int) := (by omega); have q435 : 1 < (l0_1.length : Int) := dq_; obtain ⟨ad435, e435, hx435_0⟩ := Kd.at_int HR0_1.out 1 p435 q435; obtain rfl : ad433 = ad435 := (by injection e435); (try simp only [show (1 : Int).toNat = 1 from rfl, Nat.reduceMul, Nat.reduceEqDiff, Go.Addr.add, ↓reduceIte] at hx435_0); have qi435 : (1 < l0_1.length) = True := eq_true (by omega); (try rw [show ((1 : Int)).toNat = 1 from rfl] at hx435_0); replace hx435_0 := (HB.out.cell (World.block_lt_of_cell? w _ hx435_0)).trans hx435_0; replace p435 := eq_true p435; replace q435 := eq_true q435; have p436 : 0 ≤ ((rd l0_1 1) : Int) := dq_; have q436 : (rd l0_1 1) < (l1.length : Int) := dq_; obtain ⟨ad436, e436, hx436_0⟩ := Kd.at_int HR1.out (rd l0_1 1) p436 q436; obtain rfl : ad434 = ad436 := (by injection e436); replace hx436_0 := (HB.out.cell (World.block_lt_of_cell? w _ hx436_0)).trans hx436_0; replace p436 := eq_true p436; replace q436 := eq_true q436; have p437 : 0 ≤ (2 : Int) := (by omega); have q437 : 2 < (l0_1.length : Int) := dq_; obtain ⟨ad437, e437, hx437_0⟩ := Kd.at_int HR0_1.out 2 p437 q437; obtain rfl : ad433 = ad437 := (by injection e437); (try simp only [show (2 : Int).toNat = 2 from rfl, Nat.reduceMul, Nat.reduceEqDiff, Go.Addr.add, ↓reduceIte] at hx437_0); have qi437 : (2 < l0_1.length) = True := eq_true (by omega); (try rw [show ((2 : Int)).toNat = 2 from rfl] at hx437_0); replace hx437_0 := (HB.out.cell (World.block_lt_of_cell? w _ hx437_0)).trans hx437_0; replace p437 := eq_true p437; replace q437 := eq_true q437; have p438 : 0 ≤ ((rd l0_1 2) : Int) := dq_; have q438 : (rd l0_1 2) < (l1.length : Int) := dq_; obtain ⟨ad438, e438, hx438_0⟩ := Kd.at_int HR1.out (rd l0_1 2) p438 q438; obtain rfl : ad434 = ad438 := (by injection e438); replace hx438_0 := (HB.out.cell (World.block_lt_of_cell? w _ hx438_0)).trans hx438_0; replace p438 := eq_true p438; replace q438 := eq_true q438))
                 go_ret
                 exact ⟨by first | rfl | (simp [errW_none, errW_some] <;> rfl) | (simp [*, errW_none, errW_some] <;> rfl), bel_⟩
                ·
                 rw [if_neg c32] at H
                 have c32b0 : ((rd l1 (rd l0_1 2)) == (rd l1 (rd l0_1 0))) = false := beq_eq_false_iff_ne.mpr c32
                 have c32b1 : ((rd l1 (rd l0_1 2)) != (rd l1 (rd l0_1 0))) = true := bne_iff_ne.mpr c32
                 obtain rfl := Option.some.inj H
                 go_enter Tryz.func48, Tryz.ntmps48
                 go_wp2_with (first | ((with_reducible refine gate_dst (N := 2) rfl ?_); (try (refine gate_guard (by rfl) ?_; dsimp only)); refine bxe_ (N := 2) (cs := #[.int .i64 a0_0, .slice A0_1 l0_1.length c0_1, .slice A0_2 l0_2.length c0_2, .slice A0_3 l0_3.length c0_3, .slice A0_4 l0_4.length c0_4, .slice A0_5 l0_5.length c0_5, .int .i64 a0_6, .slice A0_7 l0_7.length c0_7]) (t := 32) ?_; intro gb432 hg w35 hbox hb; have BK432 := Aside0.mk (hbox); have GW432 := Aside0.mk (by rw [hg]; exact (below_size bel_) : w.heap.size ≤ gb432); have GE432 := GW432; replace HB := Aside0.mk (below_step bel_ hb); clear hb hbox hg; obtain ⟨hcz36_0, hcz36_1, hcz36_2, hcz36_3, hcz36_4, hcz36_5, hcz36_6, hcz36_7, hfz36_0, hfz36_1, hfz36_2, hfz36_3, hfz36_4, hfz36_5, hfz36_6, hfz36_7⟩ := cel8_ BK432.out; have p433 : 0 ≤ (0 : Int) := (by omega); have q433 : 0 < (l0_1.length : Int) := dq_; obtain ⟨ad433, e433, hx433_0⟩ := Kd.at_int HR0_1.out 0 p433 q433; cases e433; have qi433 : (0 < l0_1.length) = True := eq_true (by omega); (try rw [show ((0 : Int)).toNat = 0 from rfl] at hx433_0); (try rw [Addr.add_zero'] at hx433_0); replace hx433_0 := (HB.out.cell (World.block_lt_of_cell? w _ hx433_0)).trans hx433_0; replace p433 := eq_true p433; replace q433 := eq_true q433; have p434 : 0 ≤ ((rd l0_1 0) : Int) := dq_; have q434 : (rd l0_1 0) < (l1.length : Int) := dq_; obtain ⟨ad434, e434, hx434_0⟩ := Kd.at_int HR1.out (rd l0_1 0) p434 q434; cases e434; replace hx434_0 := (HB.out.cell (World.block_lt_of_cell? w _ hx434_0)).trans hx434_0; replace p434 := eq_true p434; replace q434 := eq_true q434; have p435 : 0 ≤ (1 : Int) := (by omega); have q435 : 1 < (l0_1.length : Int) := dq_; obtain ⟨ad435, e435, hx435_0⟩ := Kd.at_int HR0_1.out 1 p435 q435; obtain rfl : ad433 = ad435 := (by injection e435); (try simp only [show (1 : Int).toNat = 1 from rfl, Nat.reduceMul, Nat.reduceEqDiff, Go.Addr.add, ↓reduceIte] at hx435_0); have qi435 : (1 < l0_1.length) = True := eq_true (by omega); (try rw [show ((1 : Int)).toNat = 1 from rfl] at hx435_0); replace hx435_0 := (HB.out.cell (World.block_lt_of_cell? w _ hx435_0)).trans hx435_0; replace p435 := eq_true p435; replace q435 := eq_true q435; have p436 : 0 ≤ ((rd l0_1 1) : Int) := dq_; have q436 : (rd l0_1 1) < (l1.length : Int) := dq_; obtain ⟨ad436, e436, hx436_0⟩ := Kd.at_int HR1.out (rd l0_1 1) p436 q436; obtain rfl : ad434 = ad436 := (by injection e436); replace hx436_0 := (HB.out.cell (World.block_lt_of_cell? w _ hx436_0)).trans hx436_0; replace p436 := eq_true p436; replace q436 := eq_true q436; have p437 : 0 ≤ (2 : Int) := (by omega); have q437 : 2 < (l0_1.length : Int) := dq_; obtain ⟨ad437, e437, hx437_0⟩ := Kd.at_int HR0_1.out 2 p437 q437; obtain rfl : ad433 = ad437 := (by injection e437); (try simp only [show (2 : Int).toNat = 2 from rfl, Nat.reduceMul, Nat.reduceEqDiff, Go.Addr.add, ↓reduceIte] at hx437_0); have qi437 : (2 < l0_1.length) = True := eq_true (by omega); (try rw [show ((2 : Int)).toNat = 2 from rfl] at hx437_0); replace hx437_0 := (HB.out.cell (World.block_lt_of_cell? w _ hx437_0)).trans hx437_0; replace p437 := eq_true p437; replace q437 := eq_true q437; have p438 : 0 ≤ ((rd l0_1 2) : Int) := dq_; have q438 : (rd l0_1 2) < (l1.length : Int) := dq_; obtain ⟨ad438, e438, hx438_0⟩ := Kd.at_int HR1.out (rd l0_1 2) p438 q438; obtain rfl : ad434 = ad438 := (by injection e438); replace hx438_0 := (HB.out.cell (World.block_lt_of_cell? w _ hx438_0)).trans hx438_0; replace p438 := eq_true p438; replace q438 := eq_true q438))
                 go_ret
                 exact ⟨by first | rfl | (simp [errW_none, errW_some] <;> rfl) | (simp [*, errW_none, errW_some] <;> rfl), bel_⟩
               ·
                rw [if_neg c31] at H
                have c31b0 : decide ((rd l1 (rd l0_1 2)) ≤ (rd l1 (rd l0_1 1))) = false := decide_eq_false c31
                clear c31
                obtain rfl := Option.some.inj H
                go_enter Tryz.func48, Tryz.ntmps48
                go_wp2_with (first | ((with_reducible refine gate_dst (N := 2) rfl ?_); (try (refine gate_guard (by rfl) ?_; dsimp only)); refine bxe_ (N := 2) (cs := #[.int .i64 a0_0, .slice A0_1 l0_1.length c0_1, .slice A0_2 l0_2.length c0_2, .slice A0_3 l0_3.length c0_3, .slice A0_4 l0_4.length c0_4, .slice A0_5 l0_5.length c0_5, .int .i64 a0_6, .slice A0_7 l0_7.length c0_7]) (t := 32) ?_; intro gb432 hg w37 hbox hb; have BK432 := Aside0.mk (hbox); have GW432 := Aside0.mk (by rw [hg]; exact (below_size bel_) : w.heap.size ≤ gb432); have GE432 := GW432; replace HB := Aside0.mk (below_step bel_ hb); clear hb hbox hg; obtain ⟨hcz38_0, hcz38_1, hcz38_2, hcz38_3, hcz38_4, hcz38_5, hcz38_6, hcz38_7, hfz38_0, hfz38_1, hfz38_2, hfz38_3, hfz38_4, hfz38_5, hfz38_6, hfz38_7⟩ := cel8_ BK432.out; have p433 : 0 ≤ (0 : Int) := (by omega); have q433 : 0 < (l0_1.length : Int) := dq_; obtain ⟨ad433, e433, hx433_0⟩ := Kd.at_int HR0_1.out 0 p433 q433; cases e433; have qi433 : (0 < l0_1.length) = True := eq_true (by omega); (try rw [show ((0 : Int)).toNat = 0 from rfl] at hx433_0); (try rw [Addr.add_zero'] at hx433_0); replace hx433_0 := (HB.out.cell (World.block_lt_of_cell? w _ hx433_0)).trans hx433_0; replace p433 := eq_true p433; replace q433 := eq_true q433; have p434 : 0 ≤ ((rd l0_1 0) : Int) := dq_; have q434 : (rd l0_1 0) < (l1.length : Int) := dq_; obtain ⟨ad434, e434, hx434_0⟩ := Kd.at_int HR1.out (rd l0_1 0) p434 q434; cases e434; replace hx434_0 := (HB.out.cell (World.block_lt_of_cell? w _ hx434_0)).trans hx434_0; replace p434 := eq_true p434; replace q434 := eq_true q434; have p435 : 0 ≤ (1 : Int) := (by omega); have q435 : 1 < (l0_1.length : Int) := dq_; obtain ⟨ad435, e435, hx435_0⟩ := Kd.at_int HR0_1.out 1 p435 q435; obtain rfl : ad433 = ad435 := (by injection e435); (try simp only [show (1 : Int).toNat = 1 from rfl, Nat.reduceMul, Nat.reduceEqDiff, Go.Addr.add, ↓reduceIte] at hx435_0); have qi435 : (1 < l0_1.length) = True := eq_true (by omega); (try rw [show ((1 : Int)).toNat = 1 from rfl] at hx435_0); replace hx435_0 := (HB.out.cell (World.block_lt_of_cell? w _ hx435_0)).trans hx435_0; replace p435 := eq_true p435; replace q435 := eq_true q435; have p436 : 0 ≤ ((rd l0_1 1) : Int) := dq_; have q436 : (rd l0_1 1) < (l1.length : Int) := dq_; obtain ⟨ad436, e436, hx436_0⟩ := Kd.at_int HR1.out (rd l0_1 1) p436 q436; obtain rfl : ad434 = ad436 := (by injection e436); replace hx436_0 := (HB.out.cell (World.block_lt_of_cell? w _ hx436_0)).trans hx436_0; replace p436 := eq_true p436; replace q436 := eq_true q436; have p437 : 0 ≤ (2 : Int) := (by omega); have q437 : 2 < (l0_1.length : Int) := dq_; obtain ⟨ad437, e437, hx437_0⟩ := Kd.at_int HR0_1.out 2 p437 q437; obtain rfl : ad433 = ad437 := (by injection e437); (try simp only [show (2 : Int).toNat = 2 from rfl, Nat.reduceMul, Nat.reduceEqDiff, Go.Addr.add, ↓reduceIte] at hx437_0); have qi437 : (2 < l0_1.length) = True := eq_true (by omega); (try rw [show ((2 : Int)).toNat = 2 from rfl] at hx437_0); replace hx437_0 := (HB.out.cell (World.block_lt_of_cell? w _ hx437_0)).trans hx437_0; replace p437 := eq_true p437; replace q437 := eq_true q437; have p438 : 0 ≤ ((rd l0_1 2) : Int) := dq_; have q438 : (rd l0_1 2) < (l1.length : Int) := dq_; obtain ⟨ad438, e438, hx438_0⟩ := Kd.at_int HR1.out (rd l0_1 2) p438 q438; obtain rfl : ad434 = ad438 := (by injection e438); replace hx438_0 := (HB.out.cell (World.block_lt_of_cell? w _ hx438_0)).trans hx438_0; replace p438 := eq_true p438; replace q438 := eq_true q438))
                go_ret
                exact ⟨by first | rfl | (simp [errW_none, errW_some] <;> rfl) | (simp [*, errW_none, errW_some] <;> rfl), bel_⟩
              ·
               rw [if_neg c30] at H
               have c30b0 : decide ((rd l1 (rd l0_1 2)) ≤ (rd l1 (rd l0_1 0))) = false := decide_eq_false c30
               clear c30
               obtain rfl := Option.some.inj H
               go_enter Tryz.func48, Tryz.ntmps48
               go_wp2_with (first | ((with_reducible refine gate_dst (N := 2) rfl ?_); (try (refine gate_guard (by rfl) ?_; dsimp only)); refine bxe_ (N := 2) (cs := #[.int .i64 a0_0, .slice A0_1 l0_1.length c0_1, .slice A0_2 l0_2.length c0_2, .slice A0_3 l0_3.length c0_3, .slice A0_4 l0_4.length c0_4, .slice A0_5 l0_5.length c0_5, .int .i64 a0_6, .slice A0_7 l0_7.length c0_7]) (t := 32) ?_; intro gb432 hg w39 hbox hb; have BK432 := Aside0.mk (hbox); have GW432 := Aside0.mk (by rw [hg]; exact (below_size bel_) : w.heap.size ≤ gb432); have GE432 := GW432; replace HB := Aside0.mk (below_step bel_ hb); clear hb hbox hg; obtain ⟨hcz40_0, hcz40_1, hcz40_2, hcz40_3, hcz40_4, hcz40_5, hcz40_6, hcz40_7, hfz40_0, hfz40_1, hfz40_2, hfz40_3, hfz40_4, hfz40_5, hfz40_6, hfz40_7⟩ := cel8_ BK432.out; have p433 : 0 ≤ (0 : Int) := (by omega); have q433 : 0 < (l0_1.length : Int) := dq_; obtain ⟨ad433, e433, hx433_0⟩ := Kd.at_int HR0_1.out 0 p433 q433; cases e433; have qi433 : (0 < l0_1.length) = True := eq_true (by omega); (try rw [show ((0 : Int)).toNat = 0 from rfl] at hx433_0); (try rw [Addr.add_zero'] at hx433_0); replace hx433_0 := (HB.out.cell (World.block_lt_of_cell? w _ hx433_0)).trans hx433_0; replace p433 := eq_true p433; replace q433 := eq_true q433; have p434 : 0 ≤ ((rd l0_1 0) : Int) := dq_; have q434 : (rd l0_1 0) < (l1.length : Int) := dq_; obtain ⟨ad434, e434, hx434_0⟩ := Kd.at_int HR1.out (rd l0_1 0) p434 q434; cases e434; replace hx434_0 := (HB.out.cell (World.block_lt_of_cell? w _ hx434_0)).trans hx434_0; replace p434 := eq_true p434; replace q434 := eq_true q434; have p435 : 0 ≤ (1 : Int) := (by omega); have q435 : 1 < (l0_1.length : Int) := dq_; obtain ⟨ad435, e435, hx435_0⟩ := Kd.at_int HR0_1.out 1 p435 q435; obtain rfl : ad433 = ad435 := (by injection e435); (try simp only [show (1 : Int).toNat = 1 from rfl, Nat.reduceMul, Nat.reduceEqDiff, Go.Addr.add, ↓reduceIte] at hx435_0); have qi435 : (1 < l0_1.length) = True := eq_true (by omega); (try rw [show ((1 : Int)).toNat = 1 from rfl] at hx435_0); replace hx435_0 := (HB.out.cell (World.block_lt_of_cell? w _ hx435_0)).trans hx435_0; replace p435 := eq_true p435; replace q435 := eq_true q435; have p436 : 0 ≤ ((rd l0_1 1) : Int) := dq_; have q436 : (rd l0_1 1) < (l1.length : Int) := dq_; obtain ⟨ad436, e436, hx436_0⟩ := Kd.at_int HR1.out (rd l0_1 1) p436 q436; obtain rfl : ad434 = ad436 := (by injection e436); replace hx436_0 := (HB.out.cell (World.block_lt_of_cell? w _ hx436_0)).trans hx436_0; replace p436 := eq_true p436; replace q436 := eq_true q436; have p437 : 0 ≤ (2 : Int) := (by omega); have q437 : 2 < (l0_1.length : Int) := dq_; obtain ⟨ad437, e437, hx437_0⟩ := Kd.at_int HR0_1.out 2 p437 q437; obtain rfl : ad433 = ad437 := (by injection e437); (try simp only [show (2 : Int).toNat = 2 from rfl, Nat.reduceMul, Nat.reduceEqDiff, Go.Addr.add, ↓reduceIte] at hx437_0); have qi437 : (2 < l0_1.length) = True := eq_true (by omega); (try rw [show ((2 : Int)).toNat = 2 from rfl] at hx437_0); replace hx437_0 := (HB.out.cell (World.block_lt_of_cell? w _ hx437_0)).trans hx437_0; replace p437 := eq_true p437; replace q437 := eq_true q437; have p438 : 0 ≤ ((rd l0_1 2) : Int) := dq_; have q438 : (rd l0_1 2) < (l1.length : Int) := dq_; obtain ⟨ad438, e438, hx438_0⟩ := Kd.at_int HR1.out (rd l0_1 2) p438 q438; obtain rfl : ad434 = ad438 := (by injection e438); replace hx438_0 := (HB.out.cell (World.block_lt_of_cell? w _ hx438_0)).trans hx438_0; replace p438 := eq_true p438; replace q438 := eq_true q438))
               go_ret
               exact ⟨by first | rfl | (simp [errW_none, errW_some] <;> rfl) | (simp [*, errW_none, errW_some] <;> rfl), bel_⟩
             ·
              rw [if_neg c29] at H
              have c29b0 : (a0_0 == 9) = false := beq_eq_false_iff_ne.mpr c29
              have c29b1 : (a0_0 != 9) = true := bne_iff_ne.mpr c29
              by_cases c41 : a0_0 = 10
              ·
               rw [if_pos c41] at H
               have c41b0 : (a0_0 == 10) = true := beq_iff_eq.mpr c41
               have c41b1 : (a0_0 != 10) = false := bne_eq_false_iff_eq.mpr c41
               clear c41
               by_cases c42 : (rd l1 (rd l0_1 2)) ≥ (rd l1 (rd l0_1 0))
               ·
                rw [if_pos c42] at H
                have c42b0 : decide ((rd l1 (rd l0_1 0)) ≤ (rd l1 (rd l0_1 2))) = true := decide_eq_true c42
                clear c42
                by_cases c43 : (rd l1 (rd l0_1 2)) ≥ (rd l1 (rd l0_1 1))
                ·
                 rw [if_pos c43] at H
                 have c43b0 : decide ((rd l1 (rd l0_1 1)) ≤ (rd l1 (rd l0_1 2))) = true := decide_eq_true c43
                 clear c43
                 by_cases c44 : (rd l1 (rd l0_1 2)) = (rd l1 (rd l0_1 0))
                 ·
                  rw [if_pos c44] at H
                  have c44b0 : ((rd l1 (rd l0_1 2)) == (rd l1 (rd l0_1 0))) = true := beq_iff_eq.mpr c44
                  have c44b1 : ((rd l1 (rd l0_1 2)) != (rd l1 (rd l0_1 0))) = false := bne_eq_false_iff_eq.mpr c44
                  clear c44
                  obtain rfl := Option.some.inj H
                  go_enter Tryz.func48, Tryz.ntmps48
                  go_wp2_with (first | ((with_reducible refine gate_dst (N := 2) rfl ?_); (try (refine gate_guard (by rfl) ?_; dsimp only)); refine bxe_ (N := 2) (cs := #[.int .i64 a0_0, .slice A0_1 l0_1.length c0_1, .slice A0_2 l0_2.length c0_2, .slice A0_3 l0_3.length c0_3, .slice A0_4 l0_4.length c0_4, .slice A0_5 l0_5.length c0_5, .int .i64 a0_6, .slice A0_7 l0_7.length c0_7]) (t := 32) ?_; intro gb432 hg w45 hbox hb; have BK432 := Aside0.mk (hbox); have GW432 := Aside0.mk (by rw [hg]; exact (below_size bel_) : w.heap.size ≤ gb432); have GE432 := GW432; replace HB := Aside0.mk (below_step bel_ hb); clear hb hbox hg; obtain ⟨hcz46_0, hcz46_1, hcz46_2, hcz46_3, hcz46_4, hcz46_5, hcz46_6, hcz46_7, hfz46_0, hfz46_1, hfz46_2, hfz46_3, hfz46_4, hfz46_5, hfz46_6, hfz46_7⟩ := cel8_ BK432.out; have p433 : 0 ≤ (0 : Int) := (by omega); have q433 : 0 < (l0_1.length : Int) := dq_; obtain ⟨ad433, e433, hx433_0⟩ := Kd.at_int HR0_1.out 0 p433 q433; cases e433; have qi433 : (0 < l0_1.length) = True := eq_true (by omega); (try rw [show ((0 : Int)).toNat = 0 from rfl] at hx433_0); (try rw [Addr.add_zero'] at hx433_0); replace hx433_0 := (HB.out.cell (World.block_lt_of_cell? w _ hx433_0)).trans hx433_0; replace p433 := eq_true p433; replace q433 := eq_true q433; have p434 : 0 ≤ ((rd l0_1 0) : Int) := dq_; have q434 : (rd l0_1 0) < (l1.length : Int) := dq_; obtain ⟨ad434, e434, hx434_0⟩ := Kd.at_int HR1.out (rd l0_1 0) p434 q434; cases e434; replace hx434_0 := (HB.out.cell (World.block_lt_of_cell? w _ hx434_0)).trans hx434_0; replace p434 := eq_true p434; replace q434 := eq_true q434; have p435 : 0 ≤ (1 : Int) := (by omega); have q435 : 1 < (l0_1.length : Int) := dq_; obtain ⟨ad435, e435, hx435_0⟩ := Kd.at_int HR0_1.out 1 p435 q435; obtain rfl : ad433 = ad435 := (by injection e435); (try simp only [show (1 : Int).toNat = 1 from rfl, Nat.reduceMul, Nat.reduceEqDiff, Go.Addr.add, ↓reduceIte] at hx435_0); have qi435 : (1 < l0_1.length) = True := eq_true (by omega); (try rw [show ((1 : Int)).toNat = 1 from rfl] at hx435_0); replace hx435_0 := (HB.out.cell (World.block_lt_of_cell? w _ hx435_0)).trans hx435_0; replace p435 := eq_true p435; replace q435 := eq_true q435; have p436 : 0 ≤ ((rd l0_1 1) : Int) := dq_; have q436 : (rd l0_1 1) < (l1.length : Int) := dq_; obtain ⟨ad436, e436, hx436_0⟩ := Kd.at_int HR1.out (rd l0_1 1) p436 q436; obtain rfl : ad434 = ad436 := (by injection e436); replace hx436_0 := (HB.out.cell (World.block_lt_of_cell? w _ hx436_0)).trans hx436_0; replace p436 := eq_true p436; replace q436 := eq_true q436; have p437 : 0 ≤ (2 : Int) := (by omega); have q437 : 2 < (l0_1.length : Int) := dq_; obtain ⟨ad437, e437, hx437_0⟩ := Kd.at_int HR0_1.out 2 p437 q437; obtain rfl : ad433 = ad437 := (by injection e437); (try simp only [show (2 : Int).toNat = 2 from rfl, Nat.reduceMul, Nat.reduceEqDiff, Go.Addr.add, ↓reduceIte] at hx437_0); have qi437 : (2 < l0_1.length) = True := eq_true (by omega); (try rw [show ((2 : Int)).toNat = 2 from rfl] at hx437_0); replace hx437_0 := (HB.out.cell (World.block_lt_of_cell? w _ hx437_0)).trans hx437_0; replace p437 := eq_true p437; replace q437 := eq_true q437; have p438 : 0 ≤ ((rd l0_1 2) : Int) := dq_; have q438 : (rd l0_1 2) < (l1.length : Int) := dq_; obtain ⟨ad438, e438, hx438_0⟩ := Kd.at_int HR1.out (rd l0_1 2) p438 q438; obtain rfl : ad434 = ad438 := (by injection e438); replace hx438_0 := (HB.out.cell (World.block_lt_of_cell? w _ hx438_0)).trans hx438_0; replace p438 := eq_true p438; replace q438 := eq_true q438))
                  go_ret
                  exact ⟨by first | rfl | (simp [errW_none, errW_some] <;> rfl) | (simp [*, errW_none, errW_some] <;> rfl), bel_⟩
                 ·
                  rw [if_neg c44] at H
                  have c44b0 : ((rd l1 (rd l0_1 2)) == (rd l1 (rd l0_1 0))) = false := beq_eq_false_iff_ne.mpr c44
                  have c44b1 : ((rd l1 (rd l0_1 2)) != (rd l1 (rd l0_1 0))) = true := bne_iff_ne.mpr c44
                  obtain rfl := Option.some.inj H
                  go_enter Tryz.func48, Tryz.ntmps48
                  go_wp2_with (first | ((with_reducible refine gate_dst (N := 2) rfl ?_); (try (refine gate_guard (by rfl) ?_; dsimp only)); refine bxe_ (N := 2) (cs := #[.int .i64 a0_0, .slice A0_1 l0_1.length c0_1, .slice A0_2 l0_2.length c0_2, .slice A0_3 l0_3.length c0_3, .slice A0_4 l0_4.length c0_4, .slice A0_5 l0_5.length c0_5, .int .i64 a0_6, .slice A0_7 l0_7.length c0_7]) (t := 32) ?_; intro gb432 hg w47 hbox hb; have BK432 := Aside0.mk (hbox); have GW432 := Aside0.mk (by rw [hg]; exact (below_size bel_) : w.heap.size ≤ gb432); have GE432 := GW432; replace HB := Aside0.mk (below_step bel_ hb); clear hb hbox hg; obtain ⟨hcz48_0, hcz48_1, hcz48_2, hcz48_3, hcz48_4, hcz48_5, hcz48_6, hcz48_7, hfz48_0, hfz48_1, hfz48_2, hfz48_3, hfz48_4, hfz48_5, hfz48_6, hfz48_7⟩ := cel8_ BK432.out; have p433 : 0 ≤ (0 : Int) := (by omega); have q433 : 0 < (l0_1.length : Int) := dq_; obtain ⟨ad433, e433, hx433_0⟩ := Kd.at_int HR0_1.out 0 p433 q433; cases e433; have qi433 : (0 < l0_1.length) = True := eq_true (by omega); (try rw [show ((0 : Int)).toNat = 0 from rfl] at hx433_0); (try rw [Addr.add_zero'] at hx433_0); replace hx433_0 := (HB.out.cell (World.block_lt_of_cell? w _ hx433_0)).trans hx433_0; replace p433 := eq_true p433; replace q433 := eq_true q433; have p434 : 0 ≤ ((rd l0_1 0) : Int) := dq_; have q434 : (rd l0_1 0) < (l1.length : Int) := dq_; obtain ⟨ad434, e434, hx434_0⟩ := Kd.at_int HR1.out (rd l0_1 0) p434 q434; cases e434; replace hx434_0 := (HB.out.cell (World.block_lt_of_cell? w _ hx434_0)).trans hx434_0; replace p434 := eq_true p434; replace q434 := eq_true q434; have p435 : 0 ≤ (1 : Int) := (by omega); have q435 : 1 < (l0_1.length : Int) := dq_; obtain ⟨ad435, e435, hx435_0⟩ := Kd.at_int HR0_1.out 1 p435 q435; obtain rfl : ad433 = ad435 := (by injection e435); (try simp only [show (1 : Int).toNat = 1 from rfl, Nat.reduceMul, Nat.reduceEqDiff, Go.Addr.add, ↓reduceIte] at hx435_0); have qi435 : (1 < l0_1.length) = True := eq_true (by omega); (try rw [show ((1 : Int)).toNat = 1 from rfl] at hx435_0); replace hx435_0 := (HB.out.cell (World.block_lt_of_cell? w _ hx435_0)).trans hx435_0; replace p435 := eq_true p435; replace q435 := eq_true q435; have p436 : 0 ≤ ((rd l0_1 1) : Int) := dq_; have q436 : (rd l0_1 1) < (l1.length : Int) := dq_; obtain ⟨ad436, e436, hx436_0⟩ := Kd.at_int HR1.out (rd l0_1 1) p436 q436; obtain rfl : ad434 = ad436 := (by injection e436); replace hx436_0 := (HB.out.cell (World.block_lt_of_cell? w _ hx436_0)).trans hx436_0; replace p436 := eq_true p436; replace q436 := eq_true q436; have p437 : 0 ≤ (2 : Int) := (by omega); have q437 : 2 < (l0_1.length : Int) := dq_; obtain ⟨ad437, e437, hx437_0⟩ := Kd.at_int HR0_1.out 2 p437 q437; obtain rfl : ad433 = ad437 := (by injection e437); (try simp only [show (2 : Int).toNat = 2 from rfl, Nat.reduceMul, Nat.reduceEqDiff, Go.Addr.add, ↓reduceIte] at hx437_0); have qi437 : (2 < l0_1.length) = True := eq_true (by omega); (try rw [show ((2 : Int)).toNat = 2 from rfl] at hx437_0); replace hx437_0 := (HB.out.cell (World.block_lt_of_cell? w _ hx437_0)).trans hx437_0; replace p437 := eq_true p437; replace q437 := eq_true q437; have p438 : 0 ≤ ((rd l0_1 2) : Int) := dq_; have q438 : (rd l0_1 2) < (l1.length : Int) := dq_; obtain ⟨ad438, e438, hx438_0⟩ := Kd.at_int HR1.out (rd l0_1 2) p438 q438; obtain rfl : ad434 = ad438 := (by injection e438); replace hx438_0 := (HB.out.cell (World.block_lt_of_cell? w _ hx438_0)).trans hx438_0; replace p438 := eq_true p438; replace q438 := eq_true q438))
                  go_ret
                  exact ⟨by first | rfl | (simp [errW_none, errW_some] <;> rfl) | (simp [*, errW_none, errW_some] <;> rfl), bel_⟩
                ·
                 rw [if_neg c43] at H
                 have c43b0 : decide ((rd l1 (rd l0_1 1)) ≤ (rd l1 (rd l0_1 2))) = false := decide_eq_false c43
                 clear c43
                 obtain rfl := Option.some.inj H
                 go_enter Tryz.func48, Tryz.ntmps48
                 go_wp2_with (first | ((with_reducible refine gate_dst (N := 2) rfl ?_); (try (refine gate_guard (by rfl) ?_; dsimp only)); refine bxe_ (N := 2) (cs := #[.int .i64 a0_0, .slice A0_1 l0_1.length c0_1, .slice A0_2 l0_2.length c0_2, .slice A0_3 l0_3.length c0_3, .slice A0_4 l0_4.length c0_4, .slice A0_5 l0_5.length c0_5, .int .i64 a0_6, .slice A0_7 l0_7.length c0_7]) (t := 32) ?_; intro gb432 hg w49 hbox hb; have BK432 := Aside0.mk (hbox); have GW432 := Aside0.mk (by rw [hg]; exact (below_size bel_) : w.heap.size ≤ gb432); have GE432 := GW432; replace HB := Aside0.mk (below_step bel_ hb); clear hb hbox hg; obtain ⟨hcz50_0, hcz50_1, hcz50_2, hcz50_3, hcz50_4, hcz50_5, hcz50_6, hcz50_7, hfz50_0, hfz50_1, hfz50_2, hfz50_3, hfz50_4, hfz50_5, hfz50_6, hfz50_7⟩ := cel8_ BK432.out; have p433 : 0 ≤ (0 : Int) := (by omega); have q433 : 0 < (l0_1.length : Int) := dq_; obtain ⟨ad433, e433, hx433_0⟩ := Kd.at_int HR0_1.out 0 p433 q433; cases e433; have qi433 : (0 < l0_1.length) = True := eq_true (by omega); (try rw [show ((0 : Int)).toNat = 0 from rfl] at hx433_0); (try rw [Addr.add_zero'] at hx433_0); replace hx433_0 := (HB.out.cell (World.block_lt_of_cell? w _ hx433_0)).trans hx433_0; replace p433 := eq_true p433; replace q433 := eq_true q433; have p434 : 0 ≤ ((rd l0_1 0) : Int) := dq_; have q434 : (rd l0_1 0) < (l1.length : Int) := dq_; obtain ⟨ad434, e434, hx434_0⟩ := Kd.at_int HR1.out (rd l0_1 0) p434 q434; cases e434; replace hx434_0 := (HB.out.cell (World.block_lt_of_cell? w _ hx434_0)).trans hx434_0; replace p434 := eq_true p434; replace q434 := eq_true q434; have p435 : 0 ≤ (1 : Int) := (by omega); have q435 : 1 < (l0_1.length : Int) := dq_; obtain ⟨ad435, e435, hx435_0⟩ := Kd.at_int HR0_1.out 1 p435 q435; obtain rfl : ad433 = ad435 := (by injection e435); (try simp only [show (1 : Int).toNat = 1 from rfl, Nat.reduceMul, Nat.reduceEqDiff, Go.Addr.add, ↓reduceIte] at hx435_0); have qi435 : (1 < l0_1.length) = True := eq_true (by omega); (try rw [show ((1 : Int)).toNat = 1 from rfl] at hx435_0); replace hx435_0 := (HB.out.cell (World.block_lt_of_cell? w _ hx435_0)).trans hx435_0; replace p435 := eq_true p435; replace q435 := eq_true q435; have p436 : 0 ≤ ((rd l0_1 1) : Int) := dq_; have q436 : (rd l0_1 1) < (l1.length : Int) := dq_; obtain ⟨ad436, e436, hx436_0⟩ := Kd.at_int HR1.out (rd l0_1 1) p436 q436; obtain rfl : ad434 = ad436 := (by injection e436); replace hx436_0 := (HB.out.cell (World.block_lt_of_cell? w _ hx436_0)).trans hx436_0; replace p436 := eq_true p436; replace q436 := eq_true q436; have p437 : 0 ≤ (2 : Int) := (by omega); have q437 : 2 < (l0_1.length : Int) := dq_; obtain ⟨ad437, e437, hx437_0⟩ := Kd.at_int HR0_1.out 2 p437 q437; obtain rfl : ad433 = ad437 := (by injection e437); (try simp only [show (2 : Int).toNat = 2 from rfl, Nat.reduceMul, Nat.reduceEqDiff, Go.Addr.add, ↓reduceIte] at hx437_0); have qi437 : (2 < l0_1.length) = True := eq_true (by omega); (try rw [show ((2 : Int)).toNat = 2 from rfl] at hx437_0); replace hx437_0 := (HB.out.cell (World.block_lt_of_cell? w _ hx437_0)).trans hx437_0; replace p437 := eq_true p437; replace q437 := eq_true q437; have p438 : 0 ≤ ((rd l0_1 2) : Int) := dq_; have q438 : (rd l0_1 2) < (l1.length : Int) := dq_; obtain ⟨ad438, e438, hx438_0⟩ := Kd.at_int HR1.out (rd l0_1 2) p438 q438; obtain rfl : ad434 = ad438 := (by injection e438); replace hx438_0 := (HB.out.cell (World.block_lt_of_cell? w _ hx438_0)).trans hx438_0; replace p438 := eq_true p438; replace q438 := eq_true q438))
                 go_ret
                 exact ⟨by first | rfl | (simp [errW_none, errW_some] <;> rfl) | (simp [*, errW_none, errW_some] <;> rfl), bel_⟩
               ·
                rw [if_neg c42] at H
                have c42b0 : decide ((rd l1 (rd l0_1 0)) ≤ (rd l1 (rd l0_1 2))) = false := decide_eq_false c42
                clear c42
                obtain rfl := Option.some.inj H
                go_enter Tryz.func48, Tryz.ntmps48
                go_wp2_with (first | ((with_reducible refine gate_dst (N := 2) rfl ?_); (try (refine gate_guard (by rfl) ?_; dsimp only)); refine bxe_ (N := 2) (cs := #[.int .i64 a0_0, .slice A0_1 l0_1.length c0_1, .slice A0_2 l0_2.length c0_2, .slice A0_3 l0_3.length c0_3, .slice A0_4 l0_4.length c0_4, .slice A0_5 l0_5.length c0_5, .int .i64 a0_6, .slice A0_7 l0_7.length c0_7]) (t := 32) ?_; intro gb432 hg w51 hbox hb; have BK432 := Aside0.mk (hbox); have GW432 := Aside0.mk (by rw [hg]; exact (below_size bel_) : w.heap.size ≤ gb432); have GE432 := GW432; replace HB := Aside0.mk (below_step bel_ hb); clear hb hbox hg; obtain ⟨hcz52_0, hcz52_1, hcz52_2, hcz52_3, hcz52_4, hcz52_5, hcz52_6, hcz52_7, hfz52_0, hfz52_1, hfz52_2, hfz52_3, hfz52_4, hfz52_5, hfz52_6, hfz52_7⟩ := cel8_ BK432.out; have p433 : 0 ≤ (0 : Int) := (by omega); have q433 : 0 < (l0_1.length : Int) := dq_; obtain ⟨ad433, e433, hx433_0⟩ := Kd.at_int HR0_1.out 0 p433 q433; cases e433; have qi433 : (0 < l0_1.length) = True := eq_true (by omega); (try rw [show ((0 : Int)).toNat = 0 from rfl] at hx433_0); (try rw [Addr.add_zero'] at hx433_0); replace hx433_0 := (HB.out.cell (World.block_lt_of_cell? w _ hx433_0)).trans hx433_0; replace p433 := eq_true p433; replace q433 := eq_true q433; have p434 : 0 ≤ ((rd l0_1 0) : Int) := dq_; have q434 : (rd l0_1 0) < (l1.length : Int) := dq_; obtain ⟨ad434, e434, hx434_0⟩ := Kd.at_int HR1.out (rd l0_1 0) p434 q434; cases e434; replace hx434_0 := (HB.out.cell (World.block_lt_of_cell? w _ hx434_0)).trans hx434_0; replace p434 := eq_true p434; replace q434 := eq_true q434; have p435 : 0 ≤ (1 : Int) := (by omega); have q435 : 1 < (l0_1.length : Int) := dq_; obtain ⟨ad435, e435, hx435_0⟩ := Kd.at_int HR0_1.out 1 p435 q435; obtain rfl : ad433 = ad435 := (by injection e435); (try simp only [show (1 : Int).toNat = 1 from rfl, Nat.reduceMul, Nat.reduceEqDiff, Go.Addr.add, ↓reduceIte] at hx435_0); have qi435 : (1 < l0_1.length) = True := eq_true (by omega); (try rw [show ((1 : Int)).toNat = 1 from rfl] at hx435_0); replace hx435_0 := (HB.out.cell (World.block_lt_of_cell? w _ hx435_0)).trans hx435_0; replace p435 := eq_true p435; replace q435 := eq_true q435; have p436 : 0 ≤ ((rd l0_1 1) : Int) := dq_; have q436 : (rd l0_1 1) < (l1.length : Int) := dq_; obtain ⟨ad436, e436, hx436_0⟩ := Kd.at_int HR1.out (rd l0_1 1) p436 q436; obtain rfl : ad434 = ad436 := (by injection e436); replace hx436_0 := (HB.out.cell (World.block_lt_of_cell? w _ hx436_0)).trans hx436_0; replace p436 := eq_true p436; replace q436 := eq_true q436; have p437 : 0 ≤ (2 : Int) := (by omega); have q437 : 2 < (l0_1.length : Int) := dq_; obtain ⟨ad437, e437, hx437_0⟩ := Kd.at_int HR0_1.out 2 p437 q437; obtain rfl : ad433 = ad437 := (by injection e437); (try simp only [show (2 : Int).toNat = 2 from rfl, Nat.reduceMul, Nat.reduceEqDiff, Go.Addr.add, ↓reduceIte] at hx437_0); have qi437 : (2 < l0_1.length) = True := eq_true (by omega); (try rw [show ((2 : Int)).toNat = 2 from rfl] at hx437_0); replace hx437_0 := (HB.out.cell (World.block_lt_of_cell? w _ hx437_0)).trans hx437_0; replace p437 := eq_true p437; replace q437 := eq_true q437; have p438 : 0 ≤ ((rd l0_1 2) : Int) := dq_; have q438 : (rd l0_1 2) < (l1.length : Int) := dq_; obtain ⟨ad438, e438, hx438_0⟩ := Kd.at_int HR1.out (rd l0_1 2) p438 q438; obtain rfl : ad434 = ad438 := (by injection e438); replace hx438_0 := (HB.out.cell (World.block_lt_of_cell? w _ hx438_0)).trans hx438_0; replace p438 := eq_true p438; replace q438 := eq_true q438))
                go_ret
                exact ⟨by first | rfl | (simp [errW_none, errW_some] <;> rfl) | (simp [*, errW_none, errW_some] <;> rfl), bel_⟩
              ·
               rw [if_neg c41] at H
               exact absurd H (by simp)
           ·
            rw [if_neg c27] at H
            exact absurd H (by simp)
          ·
           rw [if_neg c26] at H
           exact absurd H (by simp)
         ·
          rw [if_neg c25] at H
          exact absurd H (by simp)
      ·
       rw [if_neg c8] at H
       exact absurd H (by simp)
     ·
      rw [if_neg c7] at H
      exact absurd H (by simp)
    ·
     rw [if_neg c6] at H
     exact absurd H (by simp)
   ·
    rw [if_neg c5] at H
    exact absurd H (by simp)
  ·
   rw [if_neg c4] at H
   exact absurd H (by simp)
 ·
  rw [if_neg c3] at H
  exact absurd H (by simp)

end Go.Proofs.YtiofjnhmogeenaaGreatDoor.XExtFixed
