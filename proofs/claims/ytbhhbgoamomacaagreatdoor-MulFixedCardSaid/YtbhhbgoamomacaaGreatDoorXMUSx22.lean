-- by xprint.py, a program of this session, over the kit's print
import Derived.Test.YtbhhbgoamomacaaGreatDoorXMUSx0
import Derived.Test.YtbhhbgoamomacaaGreatDoorXMUSx21
import Derived.Test.YtbhhbgoamomacaaGreatDoorSq
namespace Go.Proofs.YtbhhbgoamomacaaGreatDoor.XMulFixed
open Go.RowKit Go.Proofs.YtbhhbgoamomacaaGreatDoor.Sq Go.Proofs.YtbhhbgoamomacaaGreatDoorW.PrintWords Go.Proofs.YtbhhbgoamomacaaGreatDoorW.PrintLast Go.Proofs.YtbhhbgoamomacaaGreatDoorW.PrintMore
attribute [local go_sem] max2_int min2_int max_two min_two max_three min_three max_four min_four   -- for this text's walks alone
set_option linter.unusedVariables false
set_option linter.unusedSimpArgs false

/-! ### jigsawref09_three: function 47 -/
def jigsawref09_three.f (k : Nat) (a0_0 : Int) (l0_1 : List Int) (l0_2 : List Int) (l0_3 : List Int) (l0_4 : List Int) (l0_5 : List Int) (a0_6 : Int) (l0_7 : List (List Int)) (l1 : List Int) : Option (Bool) := if 0 < (l0_1.length : Int) then (if 0 ≤ (rd l0_1 0) then (if (rd l0_1 0) < (l1.length : Int) then (if 1 < (l0_1.length : Int) then (if 0 ≤ (rd l0_1 1) then (if (rd l0_1 1) < (l1.length : Int) then (if a0_0 = 8 then (none) else (if a0_0 = 11 then (none) else (if 2 < (l0_1.length : Int) then (if 0 ≤ (rd l0_1 2) then (if (rd l0_1 2) < (l1.length : Int) then (if a0_0 = 5 then (some ((wrap64 ((rd l1 (rd l0_1 0)) * (rd l1 (rd l0_1 1)))) == (rd l1 (rd l0_1 2)))) else (if a0_0 = 9 then (none) else (if a0_0 = 10 then (none) else ((jigsawref01_Quo.f k (rd l1 (rd l0_1 0)) (rd l1 (rd l0_1 1))).bind fun bt428 => (if a0_0 = 6 then (if bt428.2 = true then (some (bt428.1 == (rd l1 (rd l0_1 2)))) else (some false)) else (if bt428.2 = true then (some ((wrap64 ((rd l1 (rd l0_1 0)) - (wrap64 ((rd l1 (rd l0_1 1)) * bt428.1)))) == (rd l1 (rd l0_1 2)))) else (some false))))))) else (none)) else (none)) else (none)))) else (none)) else (none)) else (none)) else (none)) else (none)) else (none)
theorem jigsawref09_three.mono : ∀ a0 a1 a2 a3 a4 a5 a6 a7 a8 k, LeO (jigsawref09_three.f k a0 a1 a2 a3 a4 a5 a6 a7 a8) (jigsawref09_three.f (k + 1) a0 a1 a2 a3 a4 a5 a6 a7 a8) := by
 intro a0 a1 a2 a3 a4 a5 a6 a7 a8 k
 unfold jigsawref09_three.f
 have m0 := @jigsawref01_Quo.mono
 exact leo_
set_option maxHeartbeats 8000000 in
set_option maxRecDepth 100000 in
theorem jigsawref09_three.calls (k : Nat) (a0_0 : Int) (A0_1 : Option Addr) (c0_1 : Nat) (l0_1 : List Int) (A0_2 : Option Addr) (c0_2 : Nat) (l0_2 : List Int) (A0_3 : Option Addr) (c0_3 : Nat) (l0_3 : List Int) (A0_4 : Option Addr) (c0_4 : Nat) (l0_4 : List Int) (A0_5 : Option Addr) (c0_5 : Nat) (l0_5 : List Int) (a0_6 : Int) (A0_7 : Option Addr) (c0_7 : Nat) (l0_7 : List (List Int)) (A1 : Option Addr) (c1 : Nat) (l1 : List Int) (r : Bool) (w : World) (hr0_1 : Kd.C (Kd.int .i64) w A0_1 l0_1.length l0_1) (hc0_1 : l0_1.length ≤ c0_1) (hr0_2 : Kd.C (Kd.int .i64) w A0_2 l0_2.length l0_2) (hc0_2 : l0_2.length ≤ c0_2) (hr0_3 : Kd.C (Kd.int .i64) w A0_3 l0_3.length l0_3) (hc0_3 : l0_3.length ≤ c0_3) (hr0_4 : Kd.C (Kd.int .i64) w A0_4 l0_4.length l0_4) (hc0_4 : l0_4.length ≤ c0_4) (hr0_5 : Kd.C (Kd.int .i64) w A0_5 l0_5.length l0_5) (hc0_5 : l0_5.length ≤ c0_5) (hr0_7 : Kd.C (Kd.slice 3 (Kd.int .i64)) w A0_7 l0_7.length l0_7) (hc0_7 : l0_7.length ≤ c0_7) (hr1 : Kd.C (Kd.int .i64) w A1 l1.length l1) (hc1 : l1.length ≤ c1) (h : jigsawref09_three.f k a0_0 l0_1 l0_2 l0_3 l0_4 l0_5 a0_6 l0_7 l1 = some r) :
  Calls Tryz.prog 47 #[.agg #[.int .i64 a0_0, .slice A0_1 l0_1.length c0_1, .slice A0_2 l0_2.length c0_2, .slice A0_3 l0_3.length c0_3, .slice A0_4 l0_4.length c0_4, .slice A0_5 l0_5.length c0_5, .int .i64 a0_6, .slice A0_7 l0_7.length c0_7], .slice A1 l1.length c1] w fun e w' => e = .returned (.bool r) ∧ Below w.heap.size w w' := by
 have hu32 := Tryz.underlying32
 have HR0_1 := Aside0.mk hr0_1
 have HC0_1 := Aside0.mk hc0_1
 clear hr0_1 hc0_1
 have HC0_2 := Aside0.mk hc0_2
 clear hr0_2 hc0_2
 have HC0_3 := Aside0.mk hc0_3
 clear hr0_3 hc0_3
 have HC0_4 := Aside0.mk hc0_4
 clear hr0_4 hc0_4
 have HC0_5 := Aside0.mk hc0_5
 clear hr0_5 hc0_5
 have HC0_7 := Aside0.mk hc0_7
 clear hr0_7 hc0_7
 have HR1 := Aside0.mk hr1
 have HC1 := Aside0.mk hc1
 clear hr1 hc1
 have HB := Aside0.mk (Below.refl w.heap.size w)
 have H : (if 0 < (l0_1.length : Int) then (if 0 ≤ (rd l0_1 0) then (if (rd l0_1 0) < (l1.length : Int) then (if 1 < (l0_1.length : Int) then (if 0 ≤ (rd l0_1 1) then (if (rd l0_1 1) < (l1.length : Int) then (if a0_0 = 8 then (none) else (if a0_0 = 11 then (none) else (if 2 < (l0_1.length : Int) then (if 0 ≤ (rd l0_1 2) then (if (rd l0_1 2) < (l1.length : Int) then (if a0_0 = 5 then (some ((wrap64 ((rd l1 (rd l0_1 0)) * (rd l1 (rd l0_1 1)))) == (rd l1 (rd l0_1 2)))) else (if a0_0 = 9 then (none) else (if a0_0 = 10 then (none) else ((jigsawref01_Quo.f k (rd l1 (rd l0_1 0)) (rd l1 (rd l0_1 1))).bind fun bt428 => (if a0_0 = 6 then (if bt428.2 = true then (some (bt428.1 == (rd l1 (rd l0_1 2)))) else (some false)) else (if bt428.2 = true then (some ((wrap64 ((rd l1 (rd l0_1 0)) - (wrap64 ((rd l1 (rd l0_1 1)) * bt428.1)))) == (rd l1 (rd l0_1 2)))) else (some false))))))) else (none)) else (none)) else (none)))) else (none)) else (none)) else (none)) else (none)) else (none)) else (none)) = some r := h
 clear h
 by_cases c3 : 0 < (l0_1.length : Int)
 ·
  rw [if_pos c3] at H
  have c3b0 : decide (0 < (l0_1.length : Int)) = true := decide_eq_true c3
  have c3b1 : decide (0 < l0_1.length) = true := decide_eq_true (by omega)
  clear c3
  by_cases c4 : 0 ≤ (rd l0_1 0)
  ·
   rw [if_pos c4] at H
   have c4b0 : decide (0 ≤ (rd l0_1 0)) = true := decide_eq_true c4
   clear c4
   by_cases c5 : (rd l0_1 0) < (l1.length : Int)
   ·
    rw [if_pos c5] at H
    have c5b0 : decide ((rd l0_1 0) < (l1.length : Int)) = true := decide_eq_true c5
    clear c5
    by_cases c6 : 1 < (l0_1.length : Int)
    ·
     rw [if_pos c6] at H
     have c6b0 : decide (1 < (l0_1.length : Int)) = true := decide_eq_true c6
     have c6b1 : decide (1 < l0_1.length) = true := decide_eq_true (by omega)
     clear c6
     by_cases c7 : 0 ≤ (rd l0_1 1)
     ·
      rw [if_pos c7] at H
      have c7b0 : decide (0 ≤ (rd l0_1 1)) = true := decide_eq_true c7
      clear c7
      by_cases c8 : (rd l0_1 1) < (l1.length : Int)
      ·
       rw [if_pos c8] at H
       have c8b0 : decide ((rd l0_1 1) < (l1.length : Int)) = true := decide_eq_true c8
       clear c8
       by_cases c9 : a0_0 = 8
       ·
        rw [if_pos c9] at H
        exact absurd H (by simp)
       ·
        rw [if_neg c9] at H
        have c9b0 : (a0_0 == 8) = false := beq_eq_false_iff_ne.mpr c9
        have c9b1 : (a0_0 != 8) = true := bne_iff_ne.mpr c9
        by_cases c10 : a0_0 = 11
        ·
         rw [if_pos c10] at H
         exact absurd H (by simp)
        ·
         rw [if_neg c10] at H
         have c10b0 : (a0_0 == 11) = false := beq_eq_false_iff_ne.mpr c10
         have c10b1 : (a0_0 != 11) = true := bne_iff_ne.mpr c10
         by_cases c11 : 2 < (l0_1.length : Int)
         ·
          rw [if_pos c11] at H
          have c11b0 : decide (2 < (l0_1.length : Int)) = true := decide_eq_true c11
          have c11b1 : decide (2 < l0_1.length) = true := decide_eq_true (by omega)
          clear c11
          by_cases c12 : 0 ≤ (rd l0_1 2)
          ·
           rw [if_pos c12] at H
           have c12b0 : decide (0 ≤ (rd l0_1 2)) = true := decide_eq_true c12
           clear c12
           by_cases c13 : (rd l0_1 2) < (l1.length : Int)
           ·
            rw [if_pos c13] at H
            have c13b0 : decide ((rd l0_1 2) < (l1.length : Int)) = true := decide_eq_true c13
            clear c13
            by_cases c14 : a0_0 = 5
            ·
             rw [if_pos c14] at H
             have c14b0 : (a0_0 == 5) = true := beq_iff_eq.mpr c14
             have c14b1 : (a0_0 != 5) = false := bne_eq_false_iff_eq.mpr c14
             clear c14
             obtain rfl := Option.some.inj H
             go_enter Tryz.func47, Tryz.ntmps47
             go_wp2_with (first | ((with_reducible refine gate_dst (N := 2) rfl ?_); (try (refine gate_guard (by rfl) ?_; dsimp only)); refine bxe_ (N := 2) (cs := #[.int .i64 a0_0, .slice A0_1 l0_1.length c0_1, .slice A0_2 l0_2.length c0_2, .slice A0_3 l0_3.length c0_3, .slice A0_4 l0_4.length c0_4, .slice A0_5 l0_5.length c0_5, .int .i64 a0_6, .slice A0_7 l0_7.length c0_7]) (t := 32) ?_; intro gb421 hg w15 hbox hb; have BK421 := Aside0.mk (hbox); have GW421 := Aside0.mk (by rw [hg]; exact (below_size bel_) : w.heap.size ≤ gb421); have GE421 := GW421; replace HB := Aside0.mk (below_step bel_ hb); clear hb hbox hg; obtain ⟨hcz16_0, hcz16_1, hcz16_2, hcz16_3, hcz16_4, hcz16_5, hcz16_6, hcz16_7, hfz16_0, hfz16_1, hfz16_2, hfz16_3, hfz16_4, hfz16_5, hfz16_6, hfz16_7⟩ := cel8_ BK421.out; have p422 : 0 ≤ (0 : Int) := (by omega); have q422 : 0 < (l0_1.length : Int) := dq_; obtain ⟨ad422, e422, hx422_0⟩ := Kd.at_int HR0_1.out 0 p422 q422; cases e422; have qi422 : (0 < l0_1.length) = True := eq_true (by omega); (try rw [show ((0 : Int)).toNat = 0 from rfl] at hx422_0); (try rw [Addr.add_zero'] at hx422_0); replace hx422_0 := (HB.out.cell (World.block_lt_of_cell? w _ hx422_0)).trans hx422_0; replace p422 := eq_true p422; replace q422 := eq_true q422; have p423 : 0 ≤ ((rd l0_1 0) : Int) := dq_; have q423 : (rd l0_1 0) < (l1.length : Int) := dq_; obtain ⟨ad423, e423, hx423_0⟩ := Kd.at_int HR1.out (rd l0_1 0) p423 q423; cases e423; replace hx423_0 := (HB.out.cell (World.block_lt_of_cell? w _ hx423_0)).trans hx423_0; replace p423 := eq_true p423; replace q423 := eq_true q423; have p424 : 0 ≤ (1 : Int) := (by omega); have q424 : 1 < (l0_1.length : Int) := dq_; obtain ⟨ad424, e424, hx424_0⟩ := Kd.at_int HR0_1.out 1 p424 q424; obtain rfl : ad422 = ad424 := (by injection e424); (try simp only [show (1 : Int).toNat = 1 from rfl, Nat.reduceMul, Nat.reduceEqDiff, Go.Addr.add, ↓reduceIte] at hx424_0); have qi424 : (1 < l0_1.length) = True := eq_true (by omega); (try rw [show ((1 : Int)).toNat = 1 from rfl] at hx424_0); replace hx424_0 := (HB.out.cell (World.block_lt_of_cell? w _ hx424_0)).trans hx424_0; replace p424 := eq_true p424; replace q424 := eq_true q424; have p425 : 0 ≤ ((rd l0_1 1) : Int) := dq_; have q425 : (rd l0_1 1) < (l1.length : Int) := dq_; obtain ⟨ad425, e425, hx425_0⟩ := Kd.at_int HR1.out (rd l0_1 1) p425 q425; obtain rfl : ad423 = ad425 := (by injection e425); replace hx425_0 := (HB.out.cell (World.block_lt_of_cell? w _ hx425_0)).trans hx425_0; replace p425 := eq_true p425; replace q425 := eq_true q425; have p426 : 0 ≤ (2 : Int) := (by omega); have q426 : 2 < (l0_1.length : Int) := dq_; obtain ⟨ad426, e426, hx426_0⟩ := Kd.at_int HR0_1.out 2 p426 q426; obtain rfl : ad422 = ad426 := (by injection e426); (try simp only [show (2 : Int).toNat = 2 from rfl, Nat.reduceMul, Nat.reduceEqDiff, Go.Addr.add, ↓reduceIte] at hx426_0); have qi426 : (2 < l0_1.length) = True := eq_true (by omega); (try rw [show ((2 : Int)).toNat = 2 from rfl] at hx426_0); replace hx426_0 := (HB.out.cell (World.block_lt_of_cell? w _ hx426_0)).trans hx426_0; replace p426 := eq_true p426; replace q426 := eq_true q426; have p427 : 0 ≤ ((rd l0_1 2) : Int) := dq_; have q427 : (rd l0_1 2) < (l1.length : Int) := dq_; obtain ⟨ad427, e427, hx427_0⟩ := Kd.at_int HR1.out (rd l0_1 2) p427 q427; obtain rfl : ad423 = ad427 := (by injection e427); replace hx427_0 := (HB.out.cell (World.block_lt_of_cell? w _ hx427_0)).trans hx427_0; replace p427 := eq_true p427; replace q427 := eq_true q427))
             go_ret
             exact ⟨by first | rfl | (simp [errW_none, errW_some] <;> rfl) | (simp [*, errW_none, errW_some] <;> rfl), bel_⟩
            ·
             rw [if_neg c14] at H
             have c14b0 : (a0_0 == 5) = false := beq_eq_false_iff_ne.mpr c14
             have c14b1 : (a0_0 != 5) = true := bne_iff_ne.mpr c14
             by_cases c17 : a0_0 = 9
             ·
              rw [if_pos c17] at H
              exact absurd H (by simp)
             ·
              rw [if_neg c17] at H
              have c17b0 : (a0_0 == 9) = false := beq_eq_false_iff_ne.mpr c17
              have c17b1 : (a0_0 != 9) = true := bne_iff_ne.mpr c17
              by_cases c18 : a0_0 = 10
              ·
               rw [if_pos c18] at H
               exact absurd H (by simp)
              ·
               rw [if_neg c18] at H
               have c18b0 : (a0_0 == 10) = false := beq_eq_false_iff_ne.mpr c18
               have c18b1 : (a0_0 != 10) = true := bne_iff_ne.mpr c18
               replace H := Option.bind_eq_some_iff.mp H
               obtain ⟨⟨t428, t429⟩, A190, H⟩ := H
               try dsimp only at H
               have A19 := Aside0.mk A190
               clear A190
               by_cases c20 : a0_0 = 6
               ·
                rw [if_pos c20] at H
                have c20b0 : (a0_0 == 6) = true := beq_iff_eq.mpr c20
                have c20b1 : (a0_0 != 6) = false := bne_eq_false_iff_eq.mpr c20
                clear c20
                by_cases c21 : t429 = true
                ·
                 subst c21
                 have H1 : (some (t428 == (rd l1 (rd l0_1 2)))) = some r := by rw [if_pos rfl] at H; exact H
                 clear H
                 have H := H1
                 clear H1
                 obtain rfl := Option.some.inj H
                 go_enter Tryz.func47, Tryz.ntmps47
                 go_wp2_with (first | ((with_reducible refine gate_dst (N := 2) rfl ?_); (try (refine gate_guard (by rfl) ?_; dsimp only)); refine bxe_ (N := 2) (cs := #[.int .i64 a0_0, .slice A0_1 l0_1.length c0_1, .slice A0_2 l0_2.length c0_2, .slice A0_3 l0_3.length c0_3, .slice A0_4 l0_4.length c0_4, .slice A0_5 l0_5.length c0_5, .int .i64 a0_6, .slice A0_7 l0_7.length c0_7]) (t := 32) ?_; intro gb421 hg w22 hbox hb; have BK421 := Aside0.mk (hbox); have GW421 := Aside0.mk (by rw [hg]; exact (below_size bel_) : w.heap.size ≤ gb421); have GE421 := GW421; replace HB := Aside0.mk (below_step bel_ hb); clear hb hbox hg; obtain ⟨hcz23_0, hcz23_1, hcz23_2, hcz23_3, hcz23_4, hcz23_5, hcz23_6, hcz23_7, hfz23_0, hfz23_1, hfz23_2, hfz23_3, hfz23_4, hfz23_5, hfz23_6, hfz23_7⟩ := cel8_ BK421.out; have p422 : 0 ≤ (0 : Int) := (by omega); have q422 : 0 < (l0_1.length : Int) := dq_; obtain ⟨ad422, e422, hx422_0⟩ := Kd.at_int HR0_1.out 0 p422 q422; cases e422; have qi422 : (0 < l0_1.length) = True := eq_true (by omega); (try rw [show ((0 : Int)).toNat = 0 from rfl] at hx422_0); (try rw [Addr.add_zero'] at hx422_0); replace hx422_0 := (HB.out.cell (World.block_lt_of_cell? w _ hx422_0)).trans hx422_0; replace p422 := eq_true p422; replace q422 := eq_true q422; have p423 : 0 ≤ ((rd l0_1 0) : Int) := dq_; have q423 : (rd l0_1 0) < (l1.length : Int) := dq_; obtain ⟨ad423, e423, hx423_0⟩ := Kd.at_int HR1.out (rd l0_1 0) p423 q423; cases e423; replace hx423_0 := (HB.out.cell (World.block_lt_of_cell? w _ hx423_0)).trans hx423_0; replace p423 := eq_true p423; replace q423 := eq_true q423; have p424 : 0 ≤ (1 : Int) := (by omega); have q424 : 1 < (l0_1.length : Int) := dq_; obtain ⟨ad424, e424, hx424_0⟩ := Kd.at_int HR0_1.out 1 p424 q424; obtain rfl : ad422 = ad424 := (by injection e424); (try simp only [show (1 : Int).toNat = 1 from rfl, Nat.reduceMul, Nat.reduceEqDiff, Go.Addr.add, ↓reduceIte] at hx424_0); have qi424 : (1 < l0_1.length) = True := eq_true (by omega); (try rw [show ((1 : Int)).toNat = 1 from rfl] at hx424_0); replace hx424_0 := (HB.out.cell (World.block_lt_of_cell? w _ hx424_0)).trans hx424_0; replace p424 := eq_true p424; replace q424 := eq_true q424; have p425 : 0 ≤ ((rd l0_1 1) : Int) := dq_; have q425 : (rd l0_1 1) < (l1.length : Int) := dq_; obtain ⟨ad425, e425, hx425_0⟩ := Kd.at_int HR1.out (rd l0_1 1) p425 q425; obtain rfl : ad423 = ad425 := (by injection e425); replace hx425_0 := (HB.out.cell (World.block_lt_of_cell? w _ hx425_0)).trans hx425_0; replace p425 := eq_true p425; replace q425 := eq_true q425; have p426 : 0 ≤ (2 : Int) := (by omega); have q426 : 2 < (l0_1.length : Int) := dq_; obtain ⟨ad426, e426, hx426_0⟩ := Kd.at_int HR0_1.out 2 p426 q426; obtain rfl : ad422 = ad426 := (by injection e426); (try simp only [show (2 : Int).toNat = 2 from rfl, Nat.reduceMul, Nat.reduceEqDiff, Go.Addr.add, ↓reduceIte] at hx426_0); have qi426 : (2 < l0_1.length) = True := eq_true (by omega); (try rw [show ((2 : Int)).toNat = 2 from rfl] at hx426_0); replace hx426_0 := (HB.out.cell (World.block_lt_of_cell? w _ hx426_0)).trans hx426_0; replace p426 := eq_true p426; replace q426 := eq_true q426; have p427 : 0 ≤ ((rd l0_1 2) : Int) := dq_; have q427 : (rd l0_1 2) < (l1.length : Int) := dq_; obtain ⟨ad427, e427, hx427_0⟩ := Kd.at_int HR1.out (rd l0_1 2) p427 q427; obtain rfl : ad423 = ad427 := (by injection e427); replace hx427_0 := (HB.out.cell (World.block_lt_of_cell? w _ hx427_0)).trans hx427_0; replace p427 := eq_true p427; replace q427 := eq_true q427) | (go_at_call 84; (with_reducible refine (jigsawref01_Quo.calls k (rd l1 (rd l0_1 0)) (rd l1 (rd l0_1 1)) t428 true _ A19.out).mono ?_); rintro e w' ⟨rfl, ⟨nd, rfl⟩⟩; (try first | exact ⟨rfl, _, World.drewN_drewN _ _ _⟩ | exact ⟨rfl, _, Eq.trans (World.drewN_drewN _ _ _) (congrArg (World.drewN _) (Nat.add_assoc _ _ _))⟩)))
                 go_ret
                 exact ⟨by first | rfl | (simp [errW_none, errW_some] <;> rfl) | (simp [*, errW_none, errW_some] <;> rfl), bel_⟩
                ·
                 replace c21 := Bool.eq_false_iff.mpr c21
                 subst c21
                 have H1 : (some false) = some r := by rw [if_neg (show ¬ (false = true) by decide)] at H; exact H
                 clear H
                 have H := H1
                 clear H1
                 obtain rfl := Option.some.inj H
                 go_enter Tryz.func47, Tryz.ntmps47
                 go_wp2_with (first | ((with_reducible refine gate_dst (N := 2) rfl ?_); (try (refine gate_guard (by rfl) ?_; dsimp only)); refine bxe_ (N := 2) (cs := #[.int .i64 a0_0, .slice A0_1 l0_1.length c0_1, .slice A0_2 l0_2.length c0_2, .slice A0_3 l0_3.length c0_3, .slice A0_4 l0_4.length c0_4, .slice A0_5 l0_5.length c0_5, .int .i64 a0_6, .slice A0_7 l0_7.length c0_7]) (t := 32) ?_; intro gb421 hg w24 hbox hb; have BK421 := Aside0.mk (hbox); have GW421 := Aside0.mk (by rw [hg]; exact (below_size bel_) : w.heap.size ≤ gb421); have GE421 := GW421; replace HB := Aside0.mk (below_step bel_ hb); clear hb hbox hg; obtain ⟨hcz25_0, hcz25_1, hcz25_2, hcz25_3, hcz25_4, hcz25_5, hcz25_6, hcz25_7, hfz25_0, hfz25_1, hfz25_2, hfz25_3, hfz25_4, hfz25_5, hfz25_6, hfz25_7⟩ := cel8_ BK421.out; have p422 : 0 ≤ (0 : Int) := (by omega); have q422 : 0 < (l0_1.length : Int) := dq_; obtain ⟨ad422, e422, hx422_0⟩ := Kd.at_int HR0_1.out 0 p422 q422; cases e422; have qi422 : (0 < l0_1.length) = True := eq_true (by omega); (try rw [show ((0 : Int)).toNat = 0 from rfl] at hx422_0); (try rw [Addr.add_zero'] at hx422_0); replace hx422_0 := (HB.out.cell (World.block_lt_of_cell? w _ hx422_0)).trans hx422_0; replace p422 := eq_true p422; replace q422 := eq_true q422; have p423 : 0 ≤ ((rd l0_1 0) : Int) := dq_; have q423 : (rd l0_1 0) < (l1.length : Int) := dq_; obtain ⟨ad423, e423, hx423_0⟩ := Kd.at_int HR1.out (rd l0_1 0) p423 q423; cases e423; replace hx423_0 := (HB.out.cell (World.block_lt_of_cell? w _ hx423_0)).trans hx423_0; replace p423 := eq_true p423; replace q423 := eq_true q423; have p424 : 0 ≤ (1 : Int) := (by omega); have q424 : 1 < (l0_1.length : Int) := dq_; obtain ⟨ad424, e424, hx424_0⟩ := Kd.at_int HR0_1.out 1 p424 q424; obtain rfl : ad422 = ad424 := (by injection e424); (try simp only [show (1 : Int).toNat = 1 from rfl, Nat.reduceMul, Nat.reduceEqDiff, Go.Addr.add, ↓reduceIte] at hx424_0); have qi424 : (1 < l0_1.length) = True := eq_true (by omega); (try rw [show ((1 : Int)).toNat = 1 from rfl] at hx424_0); replace hx424_0 := (HB.out.cell (World.block_lt_of_cell? w _ hx424_0)).trans hx424_0; replace p424 := eq_true p424; replace q424 := eq_true q424; have p425 : 0 ≤ ((rd l0_1 1) : Int) := dq_; have q425 : (rd l0_1 1) < (l1.length : Int) := dq_; obtain ⟨ad425, e425, hx425_0⟩ := Kd.at_int HR1.out (rd l0_1 1) p425 q425; obtain rfl : ad423 = ad425 := (by injection e425); replace hx425_0 := (HB.out.cell (World.block_lt_of_cell? w _ hx425_0)).trans hx425_0; replace p425 := eq_true p425; replace q425 := eq_true q425; have p426 : 0 ≤ (2 : Int) := (by omega); have q426 : 2 < (l0_1.length : Int) := dq_; obtain ⟨ad426, e426, hx426_0⟩ := Kd.at_int HR0_1.out 2 p426 q426; obtain rfl : ad422 = ad426 := (by injection e426); (try simp only [show (2 : Int).toNat = 2 from rfl, Nat.reduceMul, Nat.reduceEqDiff, Go.Addr.add, ↓reduceIte] at hx426_0); have qi426 : (2 < l0_1.length) = True := eq_true (by omega); (try rw [show ((2 : Int)).toNat = 2 from rfl] at hx426_0); replace hx426_0 := (HB.out.cell (World.block_lt_of_cell? w _ hx426_0)).trans hx426_0; replace p426 := eq_true p426; replace q426 := eq_true q426; have p427 : 0 ≤ ((rd l0_1 2) : Int) := dq_; have q427 : (rd l0_1 2) < (l1.length : Int) := dq_; obtain ⟨ad427, e427, hx427_0⟩ := Kd.at_int HR1.out (rd l0_1 2) p427 q427; obtain rfl : ad423 = ad427 := (by injection e427); replace hx427_0 := (HB.out.cell (World.block_lt_of_cell? w _ hx427_0)).trans hx427_0; replace p427 := eq_true p427; replace q427 := eq_true q427) | (go_at_call 84; (with_reducible refine (jigsawref01_Quo.calls k (rd l1 (rd l0_1 0)) (rd l1 (rd l0_1 1)) t428 false _ A19.out).mono ?_); rintro e w' ⟨rfl, ⟨nd, rfl⟩⟩; (try first | exact ⟨rfl, _, World.drewN_drewN _ _ _⟩ | exact ⟨rfl, _, Eq.trans (World.drewN_drewN _ _ _) (congrArg (World.drewN _) (Nat.add_assoc _ _ _))⟩)))
                 go_ret
                 exact ⟨by first | rfl | (simp [errW_none, errW_some] <;> rfl) | (simp [*, errW_none, errW_some] <;> rfl), bel_⟩
               ·
                rw [if_neg c20] at H
                have c20b0 : (a0_0 == 6) = false := beq_eq_false_iff_ne.mpr c20
                have c20b1 : (a0_0 != 6) = true := bne_iff_ne.mpr c20
                by_cases c26 : t429 = true
                ·
                 subst c26
                 have H1 : (some ((wrap64 ((rd l1 (rd l0_1 0)) - (wrap64 ((rd l1 (rd l0_1 1)) * t428)))) == (rd l1 (rd l0_1 2)))) = some r := by rw [if_pos rfl] at H; exact H
                 clear H
                 have H := H1
                 clear H1
                 obtain rfl := Option.some.inj H
                 go_enter Tryz.func47, Tryz.ntmps47
                 go_wp2_with (first | ((with_reducible refine gate_dst (N := 2) rfl ?_); (try (refine gate_guard (by rfl) ?_; dsimp only)); refine bxe_ (N := 2) (cs := #[.int .i64 a0_0, .slice A0_1 l0_1.length c0_1, .slice A0_2 l0_2.length c0_2, .slice A0_3 l0_3.length c0_3, .slice A0_4 l0_4.length c0_4, .slice A0_5 l0_5.length c0_5, .int .i64 a0_6, .slice A0_7 l0_7.length c0_7]) (t := 32) ?_; intro gb421 hg w27 hbox hb; have BK421 := Aside0.mk (hbox); have GW421 := Aside0.mk (by rw [hg]; exact (below_size bel_) : w.heap.size ≤ gb421); have GE421 := GW421; replace HB := Aside0.mk (below_step bel_ hb); clear hb hbox hg; obtain ⟨hcz28_0, hcz28_1, hcz28_2, hcz28_3, hcz28_4, hcz28_5, hcz28_6, hcz28_7, hfz28_0, hfz28_1, hfz28_2, hfz28_3, hfz28_4, hfz28_5, hfz28_6, hfz28_7⟩ := cel8_ BK421.out; have p422 : 0 ≤ (0 : Int) := (by omega); have q422 : 0 < (l0_1.length : Int) := dq_; obtain ⟨ad422, e422, hx422_0⟩ := Kd.at_int HR0_1.out 0 p422 q422; cases e422; have qi422 : (0 < l0_1.length) = True := eq_true (by omega); (try rw [show ((0 : Int)).toNat = 0 from rfl] at hx422_0); (try rw [Addr.add_zero'] at hx422_0); replace hx422_0 := (HB.out.cell (World.block_lt_of_cell? w _ hx422_0)).trans hx422_0; replace p422 := eq_true p422; replace q422 := eq_true q422; have p423 : 0 ≤ ((rd l0_1 0) : Int) := dq_; have q423 : (rd l0_1 0) < (l1.length : Int) := dq_; obtain ⟨ad423, e423, hx423_0⟩ := Kd.at_int HR1.out (rd l0_1 0) p423 q423; cases e423; replace hx423_0 := (HB.out.cell (World.block_lt_of_cell? w _ hx423_0)).trans hx423_0; replace p423 := eq_true p423; replace q423 := eq_true q423; have p424 : 0 ≤ (1 : Int) := (by omega); have q424 : 1 < (l0_1.length : Int) := dq_; obtain ⟨ad424, e424, hx424_0⟩ := Kd.at_int HR0_1.out 1 p424 q424; obtain rfl : ad422 = ad424 := (by injection e424); (try simp only [show (1 : Int).toNat = 1 from rfl, Nat.reduceMul, Nat.reduceEqDiff, Go.Addr.add, ↓reduceIte] at hx424_0); have qi424 : (1 < l0_1.length) = True := eq_true (by omega); (try rw [show ((1 : Int)).toNat = 1 from rfl] at hx424_0); replace hx424_0 := (HB.out.cell (World.block_lt_of_cell? w _ hx424_0)).trans hx424_0; replace p424 := eq_true p424; replace q424 := eq_true q424; have p425 : 0 ≤ ((rd l0_1 1) : Int) := dq_; have q425 : (rd l0_1 1) < (l1.length : Int) := dq_; obtain ⟨ad425, e425, hx425_0⟩ := Kd.at_int HR1.out (rd l0_1 1) p425 q425; obtain rfl : ad423 = ad425 := (by injection e425); replace hx425_0 := (HB.out.cell (World.block_lt_of_cell? w _ hx425_0)).trans hx425_0; replace p425 := eq_true p425; replace q425 := eq_true q425; have p426 : 0 ≤ (2 : Int) := (by omega); have q426 : 2 < (l0_1.length : Int) := dq_; obtain ⟨ad426, e426, hx426_0⟩ := Kd.at_int HR0_1.out 2 p426 q426; obtain rfl : ad422 = ad426 := (by injection e426); (try simp only [show (2 : Int).toNat = 2 from rfl, Nat.reduceMul, Nat.reduceEqDiff, Go.Addr.add, ↓reduceIte] at hx426_0); have qi426 : (2 < l0_1.length) = True := eq_true (by omega); (try rw [show ((2 : Int)).toNat = 2 from rfl] at hx426_0); replace hx426_0 := (HB.out.cell (World.block_lt_of_cell? w _ hx426_0)).trans hx426_0; replace p426 := eq_true p426; replace q426 := eq_true q426; have p427 : 0 ≤ ((rd l0_1 2) : Int) := dq_; have q427 : (rd l0_1 2) < (l1.length : Int) := dq_; obtain ⟨ad427, e427, hx427_0⟩ := Kd.at_int HR1.out (rd l0_1 2) p427 q427; obtain rfl : ad423 = ad427 := (by injection e427); replace hx427_0 := (HB.out.cell (World.block_lt_of_cell? w _ hx427_0)).trans hx427_0; replace p427 := eq_true p427; replace q427 := eq_true q427) | (go_at_call 84; (with_reducible refine (jigsawref01_Quo.calls k (rd l1 (rd l0_1 0)) (rd l1 (rd l0_1 1)) t428 true _ A19.out).mono ?_); rintro e w' ⟨rfl, ⟨nd, rfl⟩⟩; (try first | exact ⟨rfl, _, World.drewN_drewN _ _ _⟩ | exact ⟨rfl, _, Eq.trans (World.drewN_drewN _ _ _) (congrArg (World.drewN _) (Nat.add_assoc _ _ _))⟩)))
                 go_ret
                 exact ⟨by first | rfl | (simp [errW_none, errW_some] <;> rfl) | (simp [*, errW_none, errW_some] <;> rfl), bel_⟩
                ·
                 replace c26 := Bool.eq_false_iff.mpr c26
                 subst c26
                 have H1 : (some false) = some r := by rw [if_neg (show ¬ (false = true) by decide)] at H; exact H
                 clear H
                 have H := H1
                 clear H1
                 obtain rfl := Option.some.inj H
                 go_enter Tryz.func47, Tryz.ntmps47
                 go_wp2_with (first | ((with_reducible refine gate_dst (N := 2) rfl ?_); (try (refine gate_guard (by rfl) ?_; dsimp only)); refine bxe_ (N := 2) (cs := #[.int .i64 a0_0, .slice A0_1 l0_1.length c0_1, .slice A0_2 l0_2.length c0_2, .slice A0_3 l0_3.length c0_3, .slice A0_4 l0_4.length c0_4, .slice A0_5 l0_5.length c0_5, .int .i64 a0_6, .slice A0_7 l0_7.length c0_7]) (t := 32) ?_; intro gb421 hg w29 hbox hb; have BK421 := Aside0.mk (hbox); have GW421 := Aside0.mk (by rw [hg]; exact (below_size bel_) : w.heap.size ≤ gb421); have GE421 := GW421; replace HB := Aside0.mk (below_step bel_ hb); clear hb hbox hg; obtain ⟨hcz30_0, hcz30_1, hcz30_2, hcz30_3, hcz30_4, hcz30_5, hcz30_6, hcz30_7, hfz30_0, hfz30_1, hfz30_2, hfz30_3, hfz30_4, hfz30_5, hfz30_6, hfz30_7⟩ := cel8_ BK421.out; have p422 : 0 ≤ (0 : Int) := (by omega); have q422 : 0 < (l0_1.length : Int) := dq_; obtain ⟨ad422, e422, hx422_0⟩ := Kd.at_int HR0_1.out 0 p422 q422; cases e422; have qi422 : (0 < l0_1.length) = True := eq_true (by omega); (try rw [show ((0 : Int)).toNat = 0 from rfl] at hx422_0); (try rw [Addr.add_zero'] at hx422_0); replace hx422_0 := (HB.out.cell (World.block_lt_of_cell? w _ hx422_0)).trans hx422_0; replace p422 := eq_true p422; replace q422 := eq_true q422; have p423 : 0 ≤ ((rd l0_1 0) : Int) := dq_; have q423 : (rd l0_1 0) < (l1.length : Int) := dq_; obtain ⟨ad423, e423, hx423_0⟩ := Kd.at_int HR1.out (rd l0_1 0) p423 q423; cases e423; replace hx423_0 := (HB.out.cell (World.block_lt_of_cell? w _ hx423_0)).trans hx423_0; replace p423 := eq_true p423; replace q423 := eq_true q423; have p424 : 0 ≤ (1 : Int) := (by omega); have q424 : 1 < (l0_1.length : Int) := dq_; obtain ⟨ad424, e424, hx424_0⟩ := Kd.at_int HR0_1.out 1 p424 q424; obtain rfl : ad422 = ad424 := (by injection e424); (try simp only [show (1 : Int).toNat = 1 from rfl, Nat.reduceMul, Nat.reduceEqDiff, Go.Addr.add, ↓reduceIte] at hx424_0); have qi424 : (1 < l0_1.length) = True := eq_true (by omega); (try rw [show ((1 : Int)).toNat = 1 from rfl] at hx424_0); replace hx424_0 := (HB.out.cell (World.block_lt_of_cell? w _ hx424_0)).trans hx424_0; replace p424 := eq_true p424; replace q424 := eq_true q424; have p425 : 0 ≤ ((rd l0_1 1) : Int) := dq_; have q425 : (rd l0_1 1) < (l1.length : Int) := dq_; obtain ⟨ad425, e425, hx425_0⟩ := Kd.at_int HR1.out (rd l0_1 1) p425 q425; obtain rfl : ad423 = ad425 := (by injection e425); replace hx425_0 := (HB.out.cell (World.block_lt_of_cell? w _ hx425_0)).trans hx425_0; replace p425 := eq_true p425; replace q425 := eq_true q425; have p426 : 0 ≤ (2 : Int) := (by omega); have q426 : 2 < (l0_1.length : Int) := dq_; obtain ⟨ad426, e426, hx426_0⟩ := Kd.at_int HR0_1.out 2 p426 q426; obtain rfl : ad422 = ad426 := (by injection e426); (try simp only [show (2 : Int).toNat = 2 from rfl, Nat.reduceMul, Nat.reduceEqDiff, Go.Addr.add, ↓reduceIte] at hx426_0); have qi426 : (2 < l0_1.length) = True := eq_true (by omega); (try rw [show ((2 : Int)).toNat = 2 from rfl] at hx426_0); replace hx426_0 := (HB.out.cell (World.block_lt_of_cell? w _ hx426_0)).trans hx426_0; replace p426 := eq_true p426; replace q426 := eq_true q426; have p427 : 0 ≤ ((rd l0_1 2) : Int) := dq_; have q427 : (rd l0_1 2) < (l1.length : Int) := dq_; obtain ⟨ad427, e427, hx427_0⟩ := Kd.at_int HR1.out (rd l0_1 2) p427 q427; obtain rfl : ad423 = ad427 := (by injection e427); replace hx427_0 := (HB.out.cell (World.block_lt_of_cell? w _ hx427_0)).trans hx427_0; replace p427 := eq_true p427; replace q427 := eq_true q427) | (go_at_call 84; (with_reducible refine (jigsawref01_Quo.calls k (rd l1 (rd l0_1 0)) (rd l1 (rd l0_1 1)) t428 false _ A19.out).mono ?_); rintro e w' ⟨rfl, ⟨nd, rfl⟩⟩; (try first | exact ⟨rfl, _, World.drewN_drewN _ _ _⟩ | exact ⟨rfl, _, Eq.trans (World.drewN_drewN _ _ _) (congrArg (World.drewN _) (Nat.add_assoc _ _ _))⟩)))
                 go_ret
                 exact ⟨by first | rfl | (simp [errW_none, errW_some] <;> rfl) | (simp [*, errW_none, errW_some] <;> rfl), bel_⟩
           ·
            rw [if_neg c13] at H
            exact absurd H (by simp)
          ·
           rw [if_neg c12] at H
           exact absurd H (by simp)
         ·
          rw [if_neg c11] at H
          exact absurd H (by simp)
      ·
       rw [if_neg c8] at H
       exact absurd H (by simp)
     ·
      rw [if_neg c7] at H
      exact absurd H (by simp)
    ·
     rw [if_neg c6] at H
     exact absurd H (by simp)
   ·
    rw [if_neg c5] at H
    exact absurd H (by simp)
  ·
   rw [if_neg c4] at H
   exact absurd H (by simp)
 ·
  rw [if_neg c3] at H
  exact absurd H (by simp)

end Go.Proofs.YtbhhbgoamomacaaGreatDoor.XMulFixed
