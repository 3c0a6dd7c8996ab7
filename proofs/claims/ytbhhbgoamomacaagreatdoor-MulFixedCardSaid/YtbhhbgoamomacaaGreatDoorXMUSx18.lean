-- by xprint.py, a program of this session, over the kit's print
import Derived.Test.YtbhhbgoamomacaaGreatDoorXMUSx0
import Derived.Test.YtbhhbgoamomacaaGreatDoorXMUSx5
import Derived.Test.YtbhhbgoamomacaaGreatDoorXMUSx7
import Derived.Test.YtbhhbgoamomacaaGreatDoorSq
namespace Go.Proofs.YtbhhbgoamomacaaGreatDoor.XMulFixed
open Go.RowKit Go.Proofs.YtbhhbgoamomacaaGreatDoor.Sq Go.Proofs.YtbhhbgoamomacaaGreatDoorW.PrintWords Go.Proofs.YtbhhbgoamomacaaGreatDoorW.PrintLast Go.Proofs.YtbhhbgoamomacaaGreatDoorW.PrintMore
attribute [local go_sem] max2_int min2_int max_two min_two max_three min_three max_four min_four   -- for this text's walks alone
set_option linter.unusedVariables false
set_option linter.unusedSimpArgs false

/-! ### jigsawref10_Same: function 14 -/
mutual
def jigsawref10_Same.l0 : Nat → List (List Int) → List (List Int) → Int → Option (Bool)
 | 0, _, _, _ => none
 | k + 1, x0, x1, x5 => if x5 < (x0.length : Int) then (if 0 ≤ x5 then (if x5 < (x1.length : Int) then (if ((rd_L7 x0 x5).length : Int) = ((rd_L7 x1 x5).length : Int) then (jigsawref10_Same.l1 k x0 x1 x5 0) else (none)) else (none)) else (none)) else (some true)
def jigsawref10_Same.l1 : Nat → List (List Int) → List (List Int) → Int → Int → Option (Bool)
 | 0, _, _, _, _ => none
 | k + 1, x0, x1, x5, x6 => if 0 ≤ x5 then (if x5 < (x0.length : Int) then (if x6 < ((rd_L7 x0 x5).length : Int) then (if 0 ≤ x6 then (if x5 < (x1.length : Int) then (if x6 < ((rd_L7 x1 x5).length : Int) then (if (rd (rd_L7 x0 x5) x6) = (rd (rd_L7 x1 x5) x6) then (jigsawref10_Same.l1 k x0 x1 x5 (wrap64 (x6 + 1))) else (none)) else (none)) else (none)) else (none)) else (jigsawref10_Same.l0 k x0 x1 (wrap64 (x5 + 1)))) else (none)) else (none)
end
def jigsawref10_Same.f (k : Nat) (l0 : List (List Int)) (l1 : List (List Int)) : Option (Bool) := if (l0.length : Int) = (l1.length : Int) then (jigsawref10_Same.l0 k l0 l1 0) else (none)
theorem jigsawref10_Same.mono_l : ∀ k, (∀ y0 y1 y2, LeO (jigsawref10_Same.l0 k y0 y1 y2) (jigsawref10_Same.l0 (k + 1) y0 y1 y2)) ∧ (∀ y0 y1 y2 y3, LeO (jigsawref10_Same.l1 k y0 y1 y2 y3) (jigsawref10_Same.l1 (k + 1) y0 y1 y2 y3))
 | 0 => ⟨fun _ _ _ r h => by simp [jigsawref10_Same.l0] at h, fun _ _ _ _ r h => by simp [jigsawref10_Same.l1] at h⟩
 | k + 1 => by
  obtain ⟨ih0, ih1⟩ := jigsawref10_Same.mono_l k
  refine ⟨?_, ?_⟩
  ·
   intro y0 y1 y2
   unfold jigsawref10_Same.l0
   exact leo_
  ·
   intro y0 y1 y2 y3
   unfold jigsawref10_Same.l1
   exact leo_
theorem jigsawref10_Same.mono : ∀ a0 a1 k, LeO (jigsawref10_Same.f k a0 a1) (jigsawref10_Same.f (k + 1) a0 a1) := by
 intro a0 a1 k
 obtain ⟨ih0, ih1⟩ := jigsawref10_Same.mono_l k
 unfold jigsawref10_Same.f
 exact leo_
set_option maxHeartbeats 8000000 in
set_option maxRecDepth 100000 in
theorem jigsawref10_Same.calls (k : Nat) (A0 : Option Addr) (c0 : Nat) (l0 : List (List Int)) (A1 : Option Addr) (c1 : Nat) (l1 : List (List Int)) (r : Bool) (w : World) (hr0 : Kd.C (Kd.slice 3 (Kd.int .i64)) w A0 l0.length l0) (hc0 : l0.length ≤ c0) (hr1 : Kd.C (Kd.slice 3 (Kd.int .i64)) w A1 l1.length l1) (hc1 : l1.length ≤ c1) (h : jigsawref10_Same.f k l0 l1 = some r) :
  Calls Tryz.prog 14 #[.slice A0 l0.length c0, .slice A1 l1.length c1] w fun e w' => e = .returned (.bool r) ∧ Drawn0 w w' := by
 have HR0 := Aside0.mk hr0
 have HC0 := Aside0.mk hc0
 clear hr0 hc0
 have HR1 := Aside0.mk hr1
 have HC1 := Aside0.mk hc1
 clear hr1 hc1
 have H : (if (l0.length : Int) = (l1.length : Int) then (jigsawref10_Same.l0 k l0 l1 0) else (none)) = some r := h
 clear h
 by_cases c3 : (l0.length : Int) = (l1.length : Int)
 ·
  rw [if_pos c3] at H
  have c3b0 : ((l0.length : Int) == (l1.length : Int)) = true := beq_iff_eq.mpr c3
  have c3b1 : ((l0.length : Int) != (l1.length : Int)) = false := bne_eq_false_iff_eq.mpr c3
  have c3b2 : (l0.length == l1.length) = true := by first | simpa using c3 | (simp at c3 ⊢; omega)
  clear c3
  have H' := Aside0.mk H
  clear H
  go_enter Tryz.func14, Tryz.ntmps14
  go_wp2
  repeat (go_quiet (fail); try go_wp2)
  go_loopg [5] k (fun kq v5 w' => ∃ (x5_1 : Int), v5 = .int .i64 x5_1 ∧ Aside0 (jigsawref10_Same.l0 kq l0 l1 x5_1 = some r) ∧ Aside0 (kq ≤ k) ∧ Drawn0 w w')
  case atStart => exact ⟨(0), eq_, H', ⟨Nat.le_refl _⟩, by repeat (first | exact Drawn0.refl _ | apply Drawn0.step)⟩
  case round =>
   clear H'
   try clear c1
   try clear p2
   try clear c3
   try clear c3b0
   try clear c3b1
   try clear c3b2
   obtain ⟨x5_1, rfl, HA, HK1, ⟨m1, rfl⟩⟩ := hrel
   cases gk with
   | zero => exact absurd HA.out (by simp [jigsawref10_Same.l0])
   | succ k1 =>
    have H := HA.out
    clear HA
    simp only [jigsawref10_Same.l0] at H
    by_cases c4 : x5_1 < (l0.length : Int)
    ·
     rw [if_pos c4] at H
     have c4b0 : decide (x5_1 < (l0.length : Int)) = true := decide_eq_true c4
     clear c4
     by_cases c5 : 0 ≤ x5_1
     ·
      rw [if_pos c5] at H
      have c5b0 : decide (0 ≤ x5_1) = true := decide_eq_true c5
      clear c5
      by_cases c6 : x5_1 < (l1.length : Int)
      ·
       rw [if_pos c6] at H
       have c6b0 : decide (x5_1 < (l1.length : Int)) = true := decide_eq_true c6
       clear c6
       by_cases c7 : ((rd_L7 l0 x5_1).length : Int) = ((rd_L7 l1 x5_1).length : Int)
       ·
        rw [if_pos c7] at H
        have c7b0 : (((rd_L7 l0 x5_1).length : Int) == ((rd_L7 l1 x5_1).length : Int)) = true := beq_iff_eq.mpr c7
        have c7b1 : (((rd_L7 l0 x5_1).length : Int) != ((rd_L7 l1 x5_1).length : Int)) = false := bne_eq_false_iff_eq.mpr c7
        have c7b2 : ((rd_L7 l0 x5_1).length == (rd_L7 l1 x5_1).length) = true := by first | simpa using c7 | (simp at c7 ⊢; omega)
        clear c7
        have H' := Aside0.mk H
        clear H
        have p369 : 0 ≤ (x5_1 : Int) := dq_
        have q369 : x5_1 < (l0.length : Int) := dq_
        obtain ⟨ad369, A369_0, c369_0, e369, hx369_0, hl369_0, hi369_0⟩ := at_L7 HR0.out x5_1 p369 q369
        cases e369
        have HC369_0 := Aside0.mk hl369_0
        clear hi369_0 hl369_0
        replace p369 := eq_true p369
        replace q369 := eq_true q369
        have p370 : 0 ≤ (x5_1 : Int) := dq_
        have q370 : x5_1 < (l1.length : Int) := dq_
        obtain ⟨ad370, A370_0, c370_0, e370, hx370_0, hl370_0, hi370_0⟩ := at_L7 HR1.out x5_1 p370 q370
        cases e370
        have HC370_0 := Aside0.mk hl370_0
        clear hi370_0 hl370_0
        replace p370 := eq_true p370
        replace q370 := eq_true q370
        go_wp2
        repeat (go_quiet (fail); try go_wp2)
        go_loopg [6] k1 (fun kq v6 w' => ∃ (x6_2 : Int), v6 = .int .i64 x6_2 ∧ Aside0 (jigsawref10_Same.l1 kq l0 l1 x5_1 x6_2 = some r) ∧ Aside0 (kq ≤ k1) ∧ Drawn0 w w')
        case atStart => exact ⟨(0), eq_, H', ⟨Nat.le_refl _⟩, by repeat (first | exact Drawn0.refl _ | apply Drawn0.step)⟩
        case round =>
         clear H'
         try clear c1
         try clear p2
         try clear c3
         try clear c3b0
         try clear c3b1
         try clear c3b2
         try clear p3
         try clear q3
         try clear hx3
         try clear c4
         try clear c4b0
         try clear c5
         try clear c5b0
         try clear c6
         try clear c6b0
         try clear c7
         try clear c7b0
         try clear c7b1
         try clear c7b2
         try clear hx369_0
         try clear hx370_0
         try clear p2
         try clear p369
         try clear p370
         try clear q369
         try clear q370
         obtain ⟨x6_2, rfl, HA, HK2, ⟨m2, rfl⟩⟩ := hrel
         cases gk with
         | zero => exact absurd HA.out (by simp [jigsawref10_Same.l1])
         | succ k2 =>
          have H := HA.out
          clear HA
          simp only [jigsawref10_Same.l1] at H
          by_cases c8 : 0 ≤ x5_1
          ·
           rw [if_pos c8] at H
           have c8b0 : decide (0 ≤ x5_1) = true := decide_eq_true c8
           clear c8
           by_cases c9 : x5_1 < (l0.length : Int)
           ·
            rw [if_pos c9] at H
            have c9b0 : decide (x5_1 < (l0.length : Int)) = true := decide_eq_true c9
            clear c9
            by_cases c10 : x6_2 < ((rd_L7 l0 x5_1).length : Int)
            ·
             rw [if_pos c10] at H
             have c10b0 : decide (x6_2 < ((rd_L7 l0 x5_1).length : Int)) = true := decide_eq_true c10
             clear c10
             by_cases c11 : 0 ≤ x6_2
             ·
              rw [if_pos c11] at H
              have c11b0 : decide (0 ≤ x6_2) = true := decide_eq_true c11
              clear c11
              by_cases c12 : x5_1 < (l1.length : Int)
              ·
               rw [if_pos c12] at H
               have c12b0 : decide (x5_1 < (l1.length : Int)) = true := decide_eq_true c12
               clear c12
               by_cases c13 : x6_2 < ((rd_L7 l1 x5_1).length : Int)
               ·
                rw [if_pos c13] at H
                have c13b0 : decide (x6_2 < ((rd_L7 l1 x5_1).length : Int)) = true := decide_eq_true c13
                clear c13
                by_cases c14 : (rd (rd_L7 l0 x5_1) x6_2) = (rd (rd_L7 l1 x5_1) x6_2)
                ·
                 rw [if_pos c14] at H
                 have c14b0 : ((rd (rd_L7 l0 x5_1) x6_2) == (rd (rd_L7 l1 x5_1) x6_2)) = true := beq_iff_eq.mpr c14
                 have c14b1 : ((rd (rd_L7 l0 x5_1) x6_2) != (rd (rd_L7 l1 x5_1) x6_2)) = false := bne_eq_false_iff_eq.mpr c14
                 clear c14
                 have H' := Aside0.mk H
                 clear H
                 have p371 : 0 ≤ (x5_1 : Int) := dq_
                 have q371 : x5_1 < (l0.length : Int) := dq_
                 obtain ⟨ad371, A371_0, c371_0, e371, hx371_0, hl371_0, hi371_0⟩ := at_L7 HR0.out x5_1 p371 q371
                 obtain rfl : ad369 = ad371 := (by injection e371)
                 have HC371_0 := Aside0.mk hl371_0
                 clear hi371_0 hl371_0
                 replace p371 := eq_true p371
                 replace q371 := eq_true q371
                 have p372 : 0 ≤ (x5_1 : Int) := dq_
                 have q372 : x5_1 < (l0.length : Int) := dq_
                 obtain ⟨ad372, A372_0, c372_0, e372, hx372_0, hl372_0, hi372_0⟩ := at_L7 HR0.out x5_1 p372 q372
                 obtain rfl : ad369 = ad372 := (by injection e372)
                 have HR372_0 := Aside0.mk hi372_0
                 have HC372_0 := Aside0.mk hl372_0
                 clear hi372_0 hl372_0
                 replace p372 := eq_true p372
                 replace q372 := eq_true q372
                 have ea_ := Option.some.inj (hx371_0.symm.trans hx372_0)
                 injection ea_ with ea_ en_ ec_
                 subst ea_
                 subst ec_
                 clear en_
                 have p373 : 0 ≤ (x6_2 : Int) := dq_
                 have q373 : x6_2 < ((rd_L7 l0 x5_1).length : Int) := dq_
                 obtain ⟨ad373, e373, hx373_0⟩ := Kd.at_int HR372_0.out x6_2 p373 q373
                 cases e373
                 replace p373 := eq_true p373
                 replace q373 := eq_true q373
                 have p374 : 0 ≤ (x5_1 : Int) := dq_
                 have q374 : x5_1 < (l1.length : Int) := dq_
                 obtain ⟨ad374, A374_0, c374_0, e374, hx374_0, hl374_0, hi374_0⟩ := at_L7 HR1.out x5_1 p374 q374
                 obtain rfl : ad370 = ad374 := (by injection e374)
                 have HR374_0 := Aside0.mk hi374_0
                 have HC374_0 := Aside0.mk hl374_0
                 clear hi374_0 hl374_0
                 replace p374 := eq_true p374
                 replace q374 := eq_true q374
                 have p375 : 0 ≤ (x6_2 : Int) := dq_
                 have q375 : x6_2 < ((rd_L7 l1 x5_1).length : Int) := dq_
                 obtain ⟨ad375, e375, hx375_0⟩ := Kd.at_int HR374_0.out x6_2 p375 q375
                 cases e375
                 replace p375 := eq_true p375
                 replace q375 := eq_true q375
                 go_wp2
                 repeat (go_quiet (fail); try go_wp2)
                 go_roundg k2
                 case measure => have := HK1.out; have := HK2.out; omega
                 case rel => exact ⟨(wrap64 (x6_2 + 1)), eq_, H', ⟨by have := HK1.out; have := HK2.out; omega⟩, by repeat (first | exact Drawn0.refl _ | apply Drawn0.step)⟩
                ·
                 rw [if_neg c14] at H
                 exact absurd H (by simp)
               ·
                rw [if_neg c13] at H
                exact absurd H (by simp)
              ·
               rw [if_neg c12] at H
               exact absurd H (by simp)
             ·
              rw [if_neg c11] at H
              exact absurd H (by simp)
            ·
             rw [if_neg c10] at H
             have c10b0 : decide (x6_2 < ((rd_L7 l0 x5_1).length : Int)) = false := decide_eq_false c10
             clear c10
             have H' := Aside0.mk H
             clear H
             have p371 : 0 ≤ (x5_1 : Int) := dq_
             have q371 : x5_1 < (l0.length : Int) := dq_
             obtain ⟨ad371, A371_0, c371_0, e371, hx371_0, hl371_0, hi371_0⟩ := at_L7 HR0.out x5_1 p371 q371
             obtain rfl : ad369 = ad371 := (by injection e371)
             have HC371_0 := Aside0.mk hl371_0
             clear hi371_0 hl371_0
             replace p371 := eq_true p371
             replace q371 := eq_true q371
             go_wp2
             repeat (go_quiet (fail); try go_wp2)
             go_roundg k2
             case measure => have := HK1.out; have := HK2.out; omega
             case rel => exact ⟨(wrap64 (x5_1 + 1)), eq_, H', ⟨by have := HK1.out; have := HK2.out; omega⟩, by repeat (first | exact Drawn0.refl _ | apply Drawn0.step)⟩
           ·
            rw [if_neg c9] at H
            exact absurd H (by simp)
          ·
           rw [if_neg c8] at H
           exact absurd H (by simp)
       ·
        rw [if_neg c7] at H
        exact absurd H (by simp)
      ·
       rw [if_neg c6] at H
       exact absurd H (by simp)
     ·
      rw [if_neg c5] at H
      exact absurd H (by simp)
    ·
     rw [if_neg c4] at H
     have c4b0 : decide (x5_1 < (l0.length : Int)) = false := decide_eq_false c4
     clear c4
     obtain rfl := Option.some.inj H
     go_wp2
     repeat (go_quiet (fail); try go_wp2)
     go_ret
     exact ⟨by first | rfl | (simp; done) | (simp [*]; done), by repeat (first | exact Drawn0.refl _ | apply Drawn0.step)⟩
 ·
  rw [if_neg c3] at H
  exact absurd H (by simp)

/-! ### jigsawlaw11_lists: function 15 -/
def jigsawlaw11_lists.l0 : Nat → List (List Int) → List (S61) → Int → Int → Option ((List (List Int)))
 | 0, _, _, _, _ => none
 | k + 1, x3, x6, x7, x8 => if x8 < x7 then (if 0 ≤ x8 then (if x8 < (x6.length : Int) then ((dom_Dom_List.f k ((rd_T61 x6 x8).f0) ((rd_T61 x6 x8).f1) ((rd_T61 x6 x8).f2) ((rd_T61 x6 x8).f3) ((rd_T61 x6 x8).f4)).bind fun t378 => (if x3.length < 5864062014805 then (jigsawlaw11_lists.l0 k (x3 ++ [t378]) x6 x7 (wrap64 (x8 + 1))) else (none))) else (none)) else (none)) else (some x3)
def jigsawlaw11_lists.f (k : Nat) (l0 : List (S61)) : Option ((List (List Int))) := jigsawlaw11_lists.l0 k ([] : List (List Int)) l0 (l0.length : Int) 0
theorem jigsawlaw11_lists.mono_l : ∀ k, (∀ y0 y1 y2 y3, LeO (jigsawlaw11_lists.l0 k y0 y1 y2 y3) (jigsawlaw11_lists.l0 (k + 1) y0 y1 y2 y3))
 | 0 => fun _ _ _ _ r h => by simp [jigsawlaw11_lists.l0] at h
 | k + 1 => by
  have ih0 := jigsawlaw11_lists.mono_l k
  ·
   intro y0 y1 y2 y3
   unfold jigsawlaw11_lists.l0
   have m0 := @dom_Dom_List.mono
   exact leo_
theorem jigsawlaw11_lists.mono : ∀ a0 k, LeO (jigsawlaw11_lists.f k a0) (jigsawlaw11_lists.f (k + 1) a0) := by
 intro a0 k
 have ih0 := jigsawlaw11_lists.mono_l k
 unfold jigsawlaw11_lists.f
 have m0 := @dom_Dom_List.mono
 exact leo_
set_option maxHeartbeats 8000000 in
set_option maxRecDepth 100000 in
theorem jigsawlaw11_lists.calls (k : Nat) (A0 : Option Addr) (c0 : Nat) (l0 : List (S61)) (r : List (List Int)) (w : World) (hr0 : Kd.C k61 w A0 l0.length l0) (hc0 : l0.length ≤ c0) (hrtab : Kd.C (Kd.int .u8) w (some ⟨0, 0, none⟩) tabL.length tabL) (h : jigsawlaw11_lists.f k l0 = some r) :
  Calls Tryz.prog 15 #[.slice A0 l0.length c0] w fun e w' => ∃ v0_ : Value, e = .returned (v0_) ∧ Kd.S (Kd.slice 3 (Kd.int .i64)) 30 w' w.heap.size (fun _ => True) v0_ r ∧ Below w.heap.size w w' := by
 have hu61 := Tryz.underlying61
 have HR0 := Aside0.mk hr0
 have HC0 := Aside0.mk hc0
 clear hr0 hc0
 have HRtab := Aside0.mk hrtab
 clear hrtab
 have HB := Aside0.mk (Below.refl w.heap.size w)
 have H : (jigsawlaw11_lists.l0 k ([] : List (List Int)) l0 (l0.length : Int) 0) = some r := h
 clear h
 have H' := Aside0.mk H
 clear H
 go_enter Tryz.func15, Tryz.ntmps15
 go_wp2
 go_loopg [3, 8] k (fun kq v3 v8 w' => ∃ (x3_1 : List (List Int)) (x8_1 : Int), v8 = .int .i64 x8_1 ∧ Aside0 (jigsawlaw11_lists.l0 kq x3_1 l0 (l0.length : Int) x8_1 = some r) ∧ Aside0 (kq ≤ k) ∧ Aside0 (Kd.S (Kd.slice 3 (Kd.int .i64)) 30 w' w.heap.size (fun _ => True) v3 x3_1) ∧ Aside0 (Below w.heap.size w w'))
 case atStart => exact ⟨(([] : List (List Int))), (0), eq_, H', ⟨Nat.le_refl _⟩, ⟨nil_⟩, ⟨bel_⟩⟩
 case round =>
  clear H'
  try clear c1
  obtain ⟨x3_1, x8_1, rfl, HA, HK1, HO_3, HB⟩ := hrel
  cases gk with
  | zero => exact absurd HA.out (by simp [jigsawlaw11_lists.l0])
  | succ k1 =>
   have H := HA.out
   clear HA
   simp only [jigsawlaw11_lists.l0] at H
   by_cases c2 : x8_1 < (l0.length : Int)
   ·
    rw [if_pos c2] at H
    have c2b0 : decide (x8_1 < (l0.length : Int)) = true := decide_eq_true c2
    clear c2
    by_cases c3 : 0 ≤ x8_1
    ·
     rw [if_pos c3] at H
     have c3b0 : decide (0 ≤ x8_1) = true := decide_eq_true c3
     clear c3
     by_cases c4 : x8_1 < (l0.length : Int)
     ·
      rw [if_pos c4] at H
      have c4b0 : decide (x8_1 < (l0.length : Int)) = true := decide_eq_true c4
      clear c4
      replace H := Option.bind_eq_some_iff.mp H
      obtain ⟨t378, A50, H⟩ := H
      try dsimp only at H
      have A5 := Aside0.mk A50
      clear A50
      by_cases c6 : x3_1.length < 5864062014805
      ·
       rw [if_pos c6] at H
       have LMc6 := Aside0.mk c6
       clear c6
       obtain ⟨y381, hy381⟩ : ∃ y_ : List (List Int), y_ = (x3_1 ++ [t378]) := ⟨_, rfl⟩
       replace H : (jigsawlaw11_lists.l0 k1 y381 l0 (l0.length : Int) (wrap64 (x8_1 + 1))) = some r := by first | (rw [hy381]; with_reducible exact H) | (have H2_ := (Option.bind_some _ _).symm.trans H; rw [hy381]; with_reducible exact H2_) | (have H2_ := (Option.bind_some _ _).symm.trans H; with_reducible exact H2_) | with_reducible exact H | (rw [hy381]; exact H) | exact H
       have Ny381 := Aside0.mk hy381
       clear hy381
       have H' := Aside0.mk H
       clear H
       have p376 : 0 ≤ (x8_1 : Int) := dq_
       have q376 : x8_1 < (l0.length : Int) := dq_
       obtain ⟨ad376, A376_1, c376_1, e376, hx376_0, hx376_1, hx376_2, hx376_3, hx376_4, hl376_1, hi376_1⟩ := at_T61 HR0.out x8_1 p376 q376
       cases e376
       replace hx376_0 := (HB.out.cell (World.block_lt_of_cell? w _ hx376_0)).trans hx376_0
       replace hx376_1 := (HB.out.cell (World.block_lt_of_cell? w _ hx376_1)).trans hx376_1
       replace hx376_2 := (HB.out.cell (World.block_lt_of_cell? w _ hx376_2)).trans hx376_2
       replace hx376_3 := (HB.out.cell (World.block_lt_of_cell? w _ hx376_3)).trans hx376_3
       replace hx376_4 := (HB.out.cell (World.block_lt_of_cell? w _ hx376_4)).trans hx376_4
       have HR376_1 := Aside0.mk hi376_1
       have HC376_1 := Aside0.mk hl376_1
       clear hi376_1 hl376_1
       replace p376 := eq_true p376
       replace q376 := eq_true q376
       go_wp2_with (first | ((with_reducible refine gate_dst (N := 5) rfl ?_); refine bxe_ (N := 5) (cs := #[.int .i64 0, .slice none 0 0, .int .i64 0, .int .i64 0, .int .i64 0]) (t := 61) ?_; intro gb377 hg w7 hbox hb; replace HO_3 := Aside0.mk (Kd.S_below (vS_ HO_3.out) hb); have BK377 := Aside0.mk (hbox); have GW377 := Aside0.mk (by rw [hg]; exact (below_size bel_) : w.heap.size ≤ gb377); have GE377 := GW377; replace HB := Aside0.mk (below_step bel_ hb); clear hb hbox hg; obtain ⟨_, _, _, _, _, _, _, _, _, _⟩ := cel5_ BK377.out) | ((with_reducible refine gate_callee (f := 23) rfl ?_); refine goesL_ (some 14) rfl rfl Tryz.func23 (by kernel_rfl) rfl #[.agg #[.int .i64 ((rd_T61 l0 x8_1).f0), .slice A376_1 ((rd_T61 l0 x8_1).f1).length c376_1, .int .i64 ((rd_T61 l0 x8_1).f2), .int .i64 ((rd_T61 l0 x8_1).f3), .int .i64 ((rd_T61 l0 x8_1).f4)]] rfl ar_ ?_; (with_reducible refine (dom_Dom_List.calls k1 ((rd_T61 l0 x8_1).f0) _ _ ((rd_T61 l0 x8_1).f1) ((rd_T61 l0 x8_1).f2) ((rd_T61 l0 x8_1).f3) ((rd_T61 l0 x8_1).f4) t378 _ ?_ ?_ ?_ A5.out).mono ?_); exact Kd.C_below HR376_1.out bel_; exact HC376_1.out; exact Kd.C_below HRtab.out bel_; rintro e w9 ⟨v379, rfl, ho0, hb⟩; refine ⟨_, rfl, ?_⟩; replace HO_3 := Aside0.mk (Kd.S_elder' (by refine vS_ ?_; exact (Kd.S_mono (Kd.S_far (Kd.S_far (Kd.S_far (Kd.S_far (Kd.S_far (Kd.S_types HO_3.out BK377.out (by decide)) (fun _ hk => hk.2) _) (fun _ hk => hk.2) _) (fun _ hk => hk.2) _) (fun _ hk => hk.2) _) (fun _ hk => hk.2) _) (fun _ h_ => h_.1))) (Kd.R_base ho0) hb); have HO380 := Aside0.mk (Kd.R_lower ho0 (below_size bel_)); replace HB := Aside0.mk (below_step bel_ hb); clear hb ho0; obtain ⟨Ao11, co11, eo11⟩ := Kd.R_slice HO380.out; subst eo11) | ((with_reducible refine gate_builtin (b := .append) (xs := #[.tmp 12, .tmp 15]) rfl ?_); at_builtin; refine Kd.S_append (Kd.slice 3 (Kd.int .i64)) (w0 := w) w.heap.size rfl (.tmp 12) (.tmp 15) 27 30 (.slice none 0 0) 24 rfl Tryz.underlying27 info30 rfl (by decide) (by omega) u3 x3_1 t378 [.slice Ao11 t378.length co11] (fun _ => True) (fun k_ => some k_ = (.slice Ao11 t378.length co11 : Value).ownBlock) rfl rfl ?aP (fun k_ hk_ => ((Kd.R_mono (ok' := fun k_ => ((fun _ => True)) k_ ∧ some k_ ≠ (u3 : Value).ownBlock) (Kd.R_apart' (HO380.out) (Kd.S_typed HO_3.out) (by decide)) (fun k_ hk => ⟨trivial, hk.2⟩))).1 k_ hk_.symm) ?aF ?aO ?aB ?aS ?aL ?_; (case aP => exact Kd.M_row (Kd.R_mono (Kd.R_tight rfl (Kd.R_mono (ok' := fun k_ => ((fun _ => True)) k_ ∧ some k_ ≠ (u3 : Value).ownBlock) (Kd.R_apart' (HO380.out) (Kd.S_typed HO_3.out) (by decide)) (fun k_ hk => ⟨trivial, hk.2⟩))) (fun _ h_ => h_))); (case aB => exact bel_); (case aF => exact (fun _ _ => trivial)); (case aO => exact (by refine vS_ ?_; exact Kd.S_mono HO_3.out (fun k_ hk => ⟨trivial, fun e_ => hk.2 e_⟩))); (case aS => exact (below_size bel_)); (case aL => have := LMc6.out; omega); intro v382 w10 ho hb hg hat; rw [← Ny381.out] at ho; replace HB := Aside0.mk (hb); have HO383 := Aside0.mk (ho); clear HO_3 HO380; clear ho hb hg hat))
       go_roundg k1
       case measure => have := HK1.out; omega
       case rel => exact ⟨(y381), (wrap64 (x8_1 + 1)), eq_, H', ⟨by have := HK1.out; omega⟩, ⟨by refine vS_ ?_; exact HO383.out⟩, ⟨bel_⟩⟩
      ·
       rw [if_neg c6] at H
       exact absurd H (by simp)
     ·
      rw [if_neg c4] at H
      exact absurd H (by simp)
    ·
     rw [if_neg c3] at H
     exact absurd H (by simp)
   ·
    rw [if_neg c2] at H
    have c2b0 : decide (x8_1 < (l0.length : Int)) = false := decide_eq_false c2
    clear c2
    obtain rfl := Option.some.inj H
    go_wp2
    go_ret
    exact ⟨_, by first | rfl | (simp [errW_none, errW_some] <;> rfl) | (simp [*, errW_none, errW_some] <;> rfl), by refine vS_ ?_; exact HO_3.out, bel_⟩

/-! ### jigsawref06_Shapes: function 42 -/
def jigsawref06_Shapes.f  : Option (List ByteArray) := some (([(⟨#[]⟩ : ByteArray), (⟨#[99, 86, 107]⟩ : ByteArray), (⟨#[99, 86, 107]⟩ : ByteArray), (⟨#[99, 86, 107]⟩ : ByteArray), (⟨#[99, 86, 107, 119]⟩ : ByteArray), (⟨#[118, 118, 118]⟩ : ByteArray), (⟨#[118, 118, 118]⟩ : ByteArray), (⟨#[118, 118, 118]⟩ : ByteArray), (⟨#[118, 118]⟩ : ByteArray), (⟨#[118, 118, 118]⟩ : ByteArray), (⟨#[118, 118, 118]⟩ : ByteArray), (⟨#[118, 99, 118]⟩ : ByteArray), (⟨#[86, 87]⟩ : ByteArray), (⟨#[118, 107, 119]⟩ : ByteArray), (⟨#[118, 107, 119]⟩ : ByteArray), (⟨#[118, 107, 119]⟩ : ByteArray), (⟨#[118, 107, 119]⟩ : ByteArray), (⟨#[86]⟩ : ByteArray), (⟨#[86, 114]⟩ : ByteArray), (⟨#[86, 99, 100, 107]⟩ : ByteArray), (⟨#[86]⟩ : ByteArray), (⟨#[86, 99, 100, 101]⟩ : ByteArray), (⟨#[86, 87]⟩ : ByteArray), (⟨#[86, 87]⟩ : ByteArray)] : List ByteArray))
set_option maxHeartbeats 8000000 in
set_option maxRecDepth 100000 in
theorem jigsawref06_Shapes.calls  (r : List ByteArray) (w : World) (h : jigsawref06_Shapes.f  = some r) :
  Calls Tryz.prog 42 #[] w fun e w' => ∃ v0_ : Value, e = .returned (v0_) ∧ Kd.R Kd.string 9 w' w.heap.size (fun _ => True) v0_ r ∧ Below w.heap.size w w' := by
 have HB := Aside0.mk (Below.refl w.heap.size w)
 have H : (some (([(⟨#[]⟩ : ByteArray), (⟨#[99, 86, 107]⟩ : ByteArray), (⟨#[99, 86, 107]⟩ : ByteArray), (⟨#[99, 86, 107]⟩ : ByteArray), (⟨#[99, 86, 107, 119]⟩ : ByteArray), (⟨#[118, 118, 118]⟩ : ByteArray), (⟨#[118, 118, 118]⟩ : ByteArray), (⟨#[118, 118, 118]⟩ : ByteArray), (⟨#[118, 118]⟩ : ByteArray), (⟨#[118, 118, 118]⟩ : ByteArray), (⟨#[118, 118, 118]⟩ : ByteArray), (⟨#[118, 99, 118]⟩ : ByteArray), (⟨#[86, 87]⟩ : ByteArray), (⟨#[118, 107, 119]⟩ : ByteArray), (⟨#[118, 107, 119]⟩ : ByteArray), (⟨#[118, 107, 119]⟩ : ByteArray), (⟨#[118, 107, 119]⟩ : ByteArray), (⟨#[86]⟩ : ByteArray), (⟨#[86, 114]⟩ : ByteArray), (⟨#[86, 99, 100, 107]⟩ : ByteArray), (⟨#[86]⟩ : ByteArray), (⟨#[86, 99, 100, 101]⟩ : ByteArray), (⟨#[86, 87]⟩ : ByteArray), (⟨#[86, 87]⟩ : ByteArray)] : List ByteArray))) = some r := h
 clear h
 obtain ⟨y384, hy384⟩ : ∃ y_ : List ByteArray, y_ = (([(⟨#[]⟩ : ByteArray), (⟨#[99, 86, 107]⟩ : ByteArray), (⟨#[99, 86, 107]⟩ : ByteArray), (⟨#[99, 86, 107]⟩ : ByteArray), (⟨#[99, 86, 107, 119]⟩ : ByteArray), (⟨#[118, 118, 118]⟩ : ByteArray), (⟨#[118, 118, 118]⟩ : ByteArray), (⟨#[118, 118, 118]⟩ : ByteArray), (⟨#[118, 118]⟩ : ByteArray), (⟨#[118, 118, 118]⟩ : ByteArray), (⟨#[118, 118, 118]⟩ : ByteArray), (⟨#[118, 99, 118]⟩ : ByteArray), (⟨#[86, 87]⟩ : ByteArray), (⟨#[118, 107, 119]⟩ : ByteArray), (⟨#[118, 107, 119]⟩ : ByteArray), (⟨#[118, 107, 119]⟩ : ByteArray), (⟨#[118, 107, 119]⟩ : ByteArray), (⟨#[86]⟩ : ByteArray), (⟨#[86, 114]⟩ : ByteArray), (⟨#[86, 99, 100, 107]⟩ : ByteArray), (⟨#[86]⟩ : ByteArray), (⟨#[86, 99, 100, 101]⟩ : ByteArray), (⟨#[86, 87]⟩ : ByteArray), (⟨#[86, 87]⟩ : ByteArray)] : List ByteArray)) := ⟨_, rfl⟩
 replace H : (some y384) = some r := by first | (rw [hy384]; with_reducible exact H) | (have H2_ := (Option.bind_some _ _).symm.trans H; rw [hy384]; with_reducible exact H2_) | (have H2_ := (Option.bind_some _ _).symm.trans H; with_reducible exact H2_) | with_reducible exact H | (rw [hy384]; exact H) | exact H
 have Ny384 := Aside0.mk hy384
 clear hy384
 obtain rfl := Option.some.inj H
 go_enter Tryz.func42, Tryz.ntmps42
 go_wp2_with (first | ((with_reducible refine gate_dst (N := 1) rfl ?_); refine Kd.R_lit Kd.string _ 9 ?hg (N := 1) ?hd (xs := ([(⟨#[]⟩ : ByteArray), (⟨#[99, 86, 107]⟩ : ByteArray), (⟨#[99, 86, 107]⟩ : ByteArray), (⟨#[99, 86, 107]⟩ : ByteArray), (⟨#[99, 86, 107, 119]⟩ : ByteArray), (⟨#[118, 118, 118]⟩ : ByteArray), (⟨#[118, 118, 118]⟩ : ByteArray), (⟨#[118, 118, 118]⟩ : ByteArray), (⟨#[118, 118]⟩ : ByteArray), (⟨#[118, 118, 118]⟩ : ByteArray), (⟨#[118, 118, 118]⟩ : ByteArray), (⟨#[118, 99, 118]⟩ : ByteArray), (⟨#[86, 87]⟩ : ByteArray), (⟨#[118, 107, 119]⟩ : ByteArray), (⟨#[118, 107, 119]⟩ : ByteArray), (⟨#[118, 107, 119]⟩ : ByteArray), (⟨#[118, 107, 119]⟩ : ByteArray), (⟨#[86]⟩ : ByteArray), (⟨#[86, 114]⟩ : ByteArray), (⟨#[86, 99, 100, 107]⟩ : ByteArray), (⟨#[86]⟩ : ByteArray), (⟨#[86, 99, 100, 101]⟩ : ByteArray), (⟨#[86, 87]⟩ : ByteArray), (⟨#[86, 87]⟩ : ByteArray)] : List ByteArray)) (inner := [.string (⟨#[]⟩ : ByteArray), .string (⟨#[99, 86, 107]⟩ : ByteArray), .string (⟨#[99, 86, 107]⟩ : ByteArray), .string (⟨#[99, 86, 107]⟩ : ByteArray), .string (⟨#[99, 86, 107, 119]⟩ : ByteArray), .string (⟨#[118, 118, 118]⟩ : ByteArray), .string (⟨#[118, 118, 118]⟩ : ByteArray), .string (⟨#[118, 118, 118]⟩ : ByteArray), .string (⟨#[118, 118]⟩ : ByteArray), .string (⟨#[118, 118, 118]⟩ : ByteArray), .string (⟨#[118, 118, 118]⟩ : ByteArray), .string (⟨#[118, 99, 118]⟩ : ByteArray), .string (⟨#[86, 87]⟩ : ByteArray), .string (⟨#[118, 107, 119]⟩ : ByteArray), .string (⟨#[118, 107, 119]⟩ : ByteArray), .string (⟨#[118, 107, 119]⟩ : ByteArray), .string (⟨#[118, 107, 119]⟩ : ByteArray), .string (⟨#[86]⟩ : ByteArray), .string (⟨#[86, 114]⟩ : ByteArray), .string (⟨#[86, 99, 100, 107]⟩ : ByteArray), .string (⟨#[86]⟩ : ByteArray), .string (⟨#[86, 99, 100, 101]⟩ : ByteArray), .string (⟨#[86, 87]⟩ : ByteArray), .string (⟨#[86, 87]⟩ : ByteArray)]) (ok := fun _ => True) (okp := fun _ => True) ?hr ?hp (fun _ hk => hk) trivial (Below.refl _ _) (Nat.le_refl _) (by simp) ?_; (case hd => rfl); (case hg => rfl); (case hr => first | (go_simp; done) | (go_simp; rfl)); (case hp => exact (Reps.one (show Kd.M Kd.string _ _ _ (⟨#[]⟩ : ByteArray) [.string (⟨#[]⟩ : ByteArray)] from rfl) (Reps.one (show Kd.M Kd.string _ _ _ (⟨#[99, 86, 107]⟩ : ByteArray) [.string (⟨#[99, 86, 107]⟩ : ByteArray)] from rfl) (Reps.one (show Kd.M Kd.string _ _ _ (⟨#[99, 86, 107]⟩ : ByteArray) [.string (⟨#[99, 86, 107]⟩ : ByteArray)] from rfl) (Reps.one (show Kd.M Kd.string _ _ _ (⟨#[99, 86, 107]⟩ : ByteArray) [.string (⟨#[99, 86, 107]⟩ : ByteArray)] from rfl) (Reps.one (show Kd.M Kd.string _ _ _ (⟨#[99, 86, 107, 119]⟩ : ByteArray) [.string (⟨#[99, 86, 107, 119]⟩ : ByteArray)] from rfl) (Reps.one (show Kd.M Kd.string _ _ _ (⟨#[118, 118, 118]⟩ : ByteArray) [.string (⟨#[118, 118, 118]⟩ : ByteArray)] from rfl) (Reps.one (show Kd.M Kd.string _ _ _ (⟨#[118, 118, 118]⟩ : ByteArray) [.string (⟨#[118, 118, 118]⟩ : ByteArray)] from rfl) (Reps.one (show Kd.M Kd.string _ _ _ (⟨#[118, 118, 118]⟩ : ByteArray) [.string (⟨#[118, 118, 118]⟩ : ByteArray)] from rfl) (Reps.one (show Kd.M Kd.string _ _ _ (⟨#[118, 118]⟩ : ByteArray) [.string (⟨#[118, 118]⟩ : ByteArray)] from rfl) (Reps.one (show Kd.M Kd.string _ _ _ (⟨#[118, 118, 118]⟩ : ByteArray) [.string (⟨#[118, 118, 118]⟩ : ByteArray)] from rfl) (Reps.one (show Kd.M Kd.string _ _ _ (⟨#[118, 118, 118]⟩ : ByteArray) [.string (⟨#[118, 118, 118]⟩ : ByteArray)] from rfl) (Reps.one (show Kd.M Kd.string _ _ _ (⟨#[118, 99, 118]⟩ : ByteArray) [.string (⟨#[118, 99, 118]⟩ : ByteArray)] from rfl) (Reps.one (show Kd.M Kd.string _ _ _ (⟨#[86, 87]⟩ : ByteArray) [.string (⟨#[86, 87]⟩ : ByteArray)] from rfl) (Reps.one (show Kd.M Kd.string _ _ _ (⟨#[118, 107, 119]⟩ : ByteArray) [.string (⟨#[118, 107, 119]⟩ : ByteArray)] from rfl) (Reps.one (show Kd.M Kd.string _ _ _ (⟨#[118, 107, 119]⟩ : ByteArray) [.string (⟨#[118, 107, 119]⟩ : ByteArray)] from rfl) (Reps.one (show Kd.M Kd.string _ _ _ (⟨#[118, 107, 119]⟩ : ByteArray) [.string (⟨#[118, 107, 119]⟩ : ByteArray)] from rfl) (Reps.one (show Kd.M Kd.string _ _ _ (⟨#[118, 107, 119]⟩ : ByteArray) [.string (⟨#[118, 107, 119]⟩ : ByteArray)] from rfl) (Reps.one (show Kd.M Kd.string _ _ _ (⟨#[86]⟩ : ByteArray) [.string (⟨#[86]⟩ : ByteArray)] from rfl) (Reps.one (show Kd.M Kd.string _ _ _ (⟨#[86, 114]⟩ : ByteArray) [.string (⟨#[86, 114]⟩ : ByteArray)] from rfl) (Reps.one (show Kd.M Kd.string _ _ _ (⟨#[86, 99, 100, 107]⟩ : ByteArray) [.string (⟨#[86, 99, 100, 107]⟩ : ByteArray)] from rfl) (Reps.one (show Kd.M Kd.string _ _ _ (⟨#[86]⟩ : ByteArray) [.string (⟨#[86]⟩ : ByteArray)] from rfl) (Reps.one (show Kd.M Kd.string _ _ _ (⟨#[86, 99, 100, 101]⟩ : ByteArray) [.string (⟨#[86, 99, 100, 101]⟩ : ByteArray)] from rfl) (Reps.one (show Kd.M Kd.string _ _ _ (⟨#[86, 87]⟩ : ByteArray) [.string (⟨#[86, 87]⟩ : ByteArray)] from rfl) (Reps.one (show Kd.M Kd.string _ _ _ (⟨#[86, 87]⟩ : ByteArray) [.string (⟨#[86, 87]⟩ : ByteArray)] from rfl) (Reps.none _ _)))))))))))))))))))))))))); intro v385 w1 ho2 hb hg_ hnew_; clear hg_ hnew_; (first | rw [← Ny384.out] at ho2 | (simp only [Int.reduceToNat] at ho2; rw [← Ny384.out] at ho2)); have HO386 := Aside0.mk (Kd.R_lower ho2 (below_size bel_)); replace HB := Aside0.mk (below_step bel_ hb); clear hb ho2))
 go_ret
 exact ⟨_, by first | rfl | (simp [errW_none, errW_some] <;> rfl) | (simp [*, errW_none, errW_some] <;> rfl), by refine vR_ ?_; exact HO386.out, bel_⟩

/-! ### jigsawref06_has: function 43 -/
def jigsawref06_has.l0 : Nat → ByteArray → Int → Int → Int → Option (Int)
 | 0, _, _, _, _ => none
 | k + 1, x0, x1, x5, x6 => if x6 < (x0.size : Int) then (if 0 ≤ x6 then (if (bt x0 x6) = x1 then (jigsawref06_has.l0 k x0 x1 (wrap64 (x5 + 1)) (wrap64 (x6 + 1))) else (jigsawref06_has.l0 k x0 x1 x5 (wrap64 (x6 + 1)))) else (none)) else (some x5)
def jigsawref06_has.f (k : Nat) (a0 : ByteArray) (a1 : Int) : Option (Int) := jigsawref06_has.l0 k a0 a1 0 0
theorem jigsawref06_has.mono_l : ∀ k, (∀ y0 y1 y2 y3, LeO (jigsawref06_has.l0 k y0 y1 y2 y3) (jigsawref06_has.l0 (k + 1) y0 y1 y2 y3))
 | 0 => fun _ _ _ _ r h => by simp [jigsawref06_has.l0] at h
 | k + 1 => by
  have ih0 := jigsawref06_has.mono_l k
  ·
   intro y0 y1 y2 y3
   unfold jigsawref06_has.l0
   exact leo_
theorem jigsawref06_has.mono : ∀ a0 a1 k, LeO (jigsawref06_has.f k a0 a1) (jigsawref06_has.f (k + 1) a0 a1) := by
 intro a0 a1 k
 have ih0 := jigsawref06_has.mono_l k
 unfold jigsawref06_has.f
 exact leo_
set_option maxHeartbeats 8000000 in
set_option maxRecDepth 100000 in
theorem jigsawref06_has.calls (k : Nat) (a0 : ByteArray) (a1 : Int) (r : Int) (w : World) (h : jigsawref06_has.f k a0 a1 = some r) :
  Calls Tryz.prog 43 #[.string a0, .int .u8 a1] w fun e w' => e = .returned (.int .i64 r) ∧ Drawn0 w w' := by
 have H : (jigsawref06_has.l0 k a0 a1 0 0) = some r := h
 clear h
 have H' := Aside0.mk H
 clear H
 go_enter Tryz.func43, Tryz.ntmps43
 go_wp2
 go_loopg [5, 6] k (fun kq v5 v6 w' => ∃ (x5_1 : Int) (x6_1 : Int), v5 = .int .i64 x5_1 ∧ v6 = .int .i64 x6_1 ∧ Aside0 (jigsawref06_has.l0 kq a0 a1 x5_1 x6_1 = some r) ∧ Aside0 (kq ≤ k) ∧ Drawn0 w w')
 case atStart => exact ⟨(0), (0), eq_, eq_, H', ⟨Nat.le_refl _⟩, by repeat (first | exact Drawn0.refl _ | apply Drawn0.step)⟩
 case round =>
  clear H'
  try clear p2
  obtain ⟨x5_1, x6_1, rfl, rfl, HA, HK1, ⟨m1, rfl⟩⟩ := hrel
  cases gk with
  | zero => exact absurd HA.out (by simp [jigsawref06_has.l0])
  | succ k1 =>
   have H := HA.out
   clear HA
   simp only [jigsawref06_has.l0] at H
   by_cases c3 : x6_1 < (a0.size : Int)
   ·
    rw [if_pos c3] at H
    have c3b0 : decide (x6_1 < (a0.size : Int)) = true := decide_eq_true c3
    clear c3
    by_cases c4 : 0 ≤ x6_1
    ·
     rw [if_pos c4] at H
     have c4b0 : decide (0 ≤ x6_1) = true := decide_eq_true c4
     clear c4
     by_cases c6 : (bt a0 x6_1) = a1
     ·
      rw [if_pos c6] at H
      have c6b0 : ((bt a0 x6_1) == a1) = true := beq_iff_eq.mpr c6
      have c6b1 : ((bt a0 x6_1) != a1) = false := bne_eq_false_iff_eq.mpr c6
      clear c6
      have H' := Aside0.mk H
      clear H
      have p5 : 0 ≤ (x6_1 : Int) := dq_
      have q5 : x6_1 < (a0.size : Int) := dq_
      have hx5 := bt_at a0 x6_1
      replace p5 := eq_true p5
      replace q5 := eq_true q5
      go_wp2
      go_roundg k1
      case measure => have := HK1.out; omega
      case rel => exact ⟨(wrap64 (x5_1 + 1)), (wrap64 (x6_1 + 1)), eq_, eq_, H', ⟨by have := HK1.out; omega⟩, by repeat (first | exact Drawn0.refl _ | apply Drawn0.step)⟩
     ·
      rw [if_neg c6] at H
      have c6b0 : ((bt a0 x6_1) == a1) = false := beq_eq_false_iff_ne.mpr c6
      have c6b1 : ((bt a0 x6_1) != a1) = true := bne_iff_ne.mpr c6
      have H' := Aside0.mk H
      clear H
      have p5 : 0 ≤ (x6_1 : Int) := dq_
      have q5 : x6_1 < (a0.size : Int) := dq_
      have hx5 := bt_at a0 x6_1
      replace p5 := eq_true p5
      replace q5 := eq_true q5
      go_wp2
      go_roundg k1
      case measure => have := HK1.out; omega
      case rel => exact ⟨(x5_1), (wrap64 (x6_1 + 1)), eq_, eq_, H', ⟨by have := HK1.out; omega⟩, by repeat (first | exact Drawn0.refl _ | apply Drawn0.step)⟩
    ·
     rw [if_neg c4] at H
     exact absurd H (by simp)
   ·
    rw [if_neg c3] at H
    have c3b0 : decide (x6_1 < (a0.size : Int)) = false := decide_eq_false c3
    clear c3
    obtain rfl := Option.some.inj H
    go_wp2
    go_ret
    exact ⟨by first | rfl | (simp; done) | (simp [*]; done), by repeat (first | exact Drawn0.refl _ | apply Drawn0.step)⟩

/-! ### jigsawref06_places: function 44 -/
def jigsawref06_places.l0 : Nat → List Int → Int → Int → List Int → Int → Option (List Int)
 | 0, _, _, _, _, _ => none
 | k + 1, x0, x1, x2, x7, x8 => if x8 < x1 then (if x8 < (x0.length : Int) then (if 0 ≤ x8 then (if x2 = 0 then (none) else (if x7.length < 17592186044416 then (jigsawref06_places.l0 k x0 x1 x2 (x7 ++ [Int.tmod (wrap64 (rd x0 x8)) x2]) (wrap64 (x8 + 1))) else (none))) else (none)) else (if x2 = 0 then (none) else (if x7.length < 17592186044416 then (jigsawref06_places.l0 k x0 x1 x2 (x7 ++ [Int.tmod x8 x2]) (wrap64 (x8 + 1))) else (none)))) else (some x7)
def jigsawref06_places.f (k : Nat) (l0 : List Int) (a1 : Int) (a2 : Int) : Option (List Int) := jigsawref06_places.l0 k l0 a1 a2 ([] : List Int) 0
theorem jigsawref06_places.mono_l : ∀ k, (∀ y0 y1 y2 y3 y4, LeO (jigsawref06_places.l0 k y0 y1 y2 y3 y4) (jigsawref06_places.l0 (k + 1) y0 y1 y2 y3 y4))
 | 0 => fun _ _ _ _ _ r h => by simp [jigsawref06_places.l0] at h
 | k + 1 => by
  have ih0 := jigsawref06_places.mono_l k
  ·
   intro y0 y1 y2 y3 y4
   unfold jigsawref06_places.l0
   exact leo_
theorem jigsawref06_places.mono : ∀ a0 a1 a2 k, LeO (jigsawref06_places.f k a0 a1 a2) (jigsawref06_places.f (k + 1) a0 a1 a2) := by
 intro a0 a1 a2 k
 have ih0 := jigsawref06_places.mono_l k
 unfold jigsawref06_places.f
 exact leo_
set_option maxHeartbeats 8000000 in
set_option maxRecDepth 100000 in
theorem jigsawref06_places.calls (k : Nat) (A0 : Option Addr) (c0 : Nat) (l0 : List Int) (a1 : Int) (a2 : Int) (r : List Int) (w : World) (hr0 : Kd.C (Kd.int .u8) w A0 l0.length l0) (hc0 : l0.length ≤ c0) (h : jigsawref06_places.f k l0 a1 a2 = some r) :
  Calls Tryz.prog 44 #[.slice A0 l0.length c0, .int .i64 a1, .int .i64 a2] w fun e w' => ∃ v0_ : Value, e = .returned (v0_) ∧ Kd.R (Kd.int .i64) 3 w' w.heap.size (fun _ => True) v0_ r ∧ Below w.heap.size w w' := by
 have HR0 := Aside0.mk hr0
 have HC0 := Aside0.mk hc0
 clear hr0 hc0
 have HB := Aside0.mk (Below.refl w.heap.size w)
 have H : (jigsawref06_places.l0 k l0 a1 a2 ([] : List Int) 0) = some r := h
 clear h
 have H' := Aside0.mk H
 clear H
 go_enter Tryz.func44, Tryz.ntmps44
 go_wp2
 go_loopg [7, 8] k (fun kq v7 v8 w' => ∃ (x7_1 : List Int) (x8_1 : Int), v8 = .int .i64 x8_1 ∧ Aside0 (jigsawref06_places.l0 kq l0 a1 a2 x7_1 x8_1 = some r) ∧ Aside0 (kq ≤ k) ∧ Aside0 (Kd.R (Kd.int .i64) 3 w' w.heap.size (fun _ => True) v7 x7_1) ∧ Aside0 (Below w.heap.size w w'))
 case atStart => exact ⟨(([] : List Int)), (0), eq_, H', ⟨Nat.le_refl _⟩, ⟨nil_⟩, ⟨bel_⟩⟩
 case round =>
  clear H'
  try clear p2
  obtain ⟨x7_1, x8_1, rfl, HA, HK1, HO_7, HB⟩ := hrel
  cases gk with
  | zero => exact absurd HA.out (by simp [jigsawref06_places.l0])
  | succ k1 =>
   have H := HA.out
   clear HA
   simp only [jigsawref06_places.l0] at H
   by_cases c4 : x8_1 < a1
   ·
    rw [if_pos c4] at H
    have c4b0 : decide (x8_1 < a1) = true := decide_eq_true c4
    clear c4
    by_cases c5 : x8_1 < (l0.length : Int)
    ·
     rw [if_pos c5] at H
     have c5b0 : decide (x8_1 < (l0.length : Int)) = true := decide_eq_true c5
     clear c5
     by_cases c6 : 0 ≤ x8_1
     ·
      rw [if_pos c6] at H
      have c6b0 : decide (0 ≤ x8_1) = true := decide_eq_true c6
      clear c6
      by_cases c7 : a2 = 0
      ·
       rw [if_pos c7] at H
       exact absurd H (by simp)
      ·
       rw [if_neg c7] at H
       have c7b0 : (a2 == 0) = false := beq_eq_false_iff_ne.mpr c7
       have c7b1 : (a2 != 0) = true := bne_iff_ne.mpr c7
       by_cases c8 : x7_1.length < 17592186044416
       ·
        rw [if_pos c8] at H
        have LMc8 := Aside0.mk c8
        clear c8
        obtain ⟨y388, hy388⟩ : ∃ y_ : List Int, y_ = (x7_1 ++ [Int.tmod (wrap64 (rd l0 x8_1)) a2]) := ⟨_, rfl⟩
        replace H : (jigsawref06_places.l0 k1 l0 a1 a2 y388 (wrap64 (x8_1 + 1))) = some r := by first | (rw [hy388]; with_reducible exact H) | (have H2_ := (Option.bind_some _ _).symm.trans H; rw [hy388]; with_reducible exact H2_) | (have H2_ := (Option.bind_some _ _).symm.trans H; with_reducible exact H2_) | with_reducible exact H | (rw [hy388]; exact H) | exact H
        have Ny388 := Aside0.mk hy388
        clear hy388
        have H' := Aside0.mk H
        clear H
        have p387 : 0 ≤ (x8_1 : Int) := dq_
        have q387 : x8_1 < (l0.length : Int) := dq_
        obtain ⟨ad387, e387, hx387_0⟩ := Kd.at_int HR0.out x8_1 p387 q387
        cases e387
        replace hx387_0 := (HB.out.cell (World.block_lt_of_cell? w _ hx387_0)).trans hx387_0
        replace p387 := eq_true p387
        replace q387 := eq_true q387
        go_wp2_with (first | ((with_reducible refine gate_builtin (b := .append) (xs := #[.tmp 25, .tmp 29]) rfl ?_); at_builtin; refine Kd.R_append (Kd.int .i64) (w0 := w) w.heap.size rfl (.tmp 25) (.tmp 29) 30 3 (.int .i64 0) 8 rfl Tryz.underlying30 info3 rfl (by decide) (by omega) u7 x7_1 (Int.tmod (wrap64 (rd l0 x8_1)) a2) [.int .i64 (Int.tmod (wrap64 (rd l0 x8_1)) a2)] (fun _ => True) (fun _ => False) rfl rfl ?aP (fun _ hk => hk.elim) ?aF ?aO ?aB ?aS ?aL ?_; (case aP => exact rfl); (case aB => exact bel_); (case aF => exact (fun _ _ => trivial)); (case aO => exact (vR_ HO_7.out)); (case aS => exact (below_size bel_)); (case aL => have := LMc8.out; omega); intro v389 w9 ho hb hg hat; rw [← Ny388.out] at ho; replace HB := Aside0.mk (hb); have HO390 := Aside0.mk (ho); clear HO_7; clear ho hb hg hat))
        go_roundg k1
        case measure => have := HK1.out; omega
        case rel => exact ⟨(y388), (wrap64 (x8_1 + 1)), eq_, H', ⟨by have := HK1.out; omega⟩, ⟨by refine vR_ ?_; exact HO390.out⟩, ⟨bel_⟩⟩
       ·
        rw [if_neg c8] at H
        exact absurd H (by simp)
     ·
      rw [if_neg c6] at H
      exact absurd H (by simp)
    ·
     rw [if_neg c5] at H
     have c5b0 : decide (x8_1 < (l0.length : Int)) = false := decide_eq_false c5
     clear c5
     by_cases c10 : a2 = 0
     ·
      rw [if_pos c10] at H
      exact absurd H (by simp)
     ·
      rw [if_neg c10] at H
      have c10b0 : (a2 == 0) = false := beq_eq_false_iff_ne.mpr c10
      have c10b1 : (a2 != 0) = true := bne_iff_ne.mpr c10
      by_cases c11 : x7_1.length < 17592186044416
      ·
       rw [if_pos c11] at H
       have LMc11 := Aside0.mk c11
       clear c11
       obtain ⟨y391, hy391⟩ : ∃ y_ : List Int, y_ = (x7_1 ++ [Int.tmod x8_1 a2]) := ⟨_, rfl⟩
       replace H : (jigsawref06_places.l0 k1 l0 a1 a2 y391 (wrap64 (x8_1 + 1))) = some r := by first | (rw [hy391]; with_reducible exact H) | (have H2_ := (Option.bind_some _ _).symm.trans H; rw [hy391]; with_reducible exact H2_) | (have H2_ := (Option.bind_some _ _).symm.trans H; with_reducible exact H2_) | with_reducible exact H | (rw [hy391]; exact H) | exact H
       have Ny391 := Aside0.mk hy391
       clear hy391
       have H' := Aside0.mk H
       clear H
       go_wp2_with (first | ((with_reducible refine gate_builtin (b := .append) (xs := #[.tmp 25, .tmp 29]) rfl ?_); at_builtin; refine Kd.R_append (Kd.int .i64) (w0 := w) w.heap.size rfl (.tmp 25) (.tmp 29) 30 3 (.int .i64 0) 8 rfl Tryz.underlying30 info3 rfl (by decide) (by omega) u7 x7_1 (Int.tmod x8_1 a2) [.int .i64 (Int.tmod x8_1 a2)] (fun _ => True) (fun _ => False) rfl rfl ?aP (fun _ hk => hk.elim) ?aF ?aO ?aB ?aS ?aL ?_; (case aP => exact rfl); (case aB => exact bel_); (case aF => exact (fun _ _ => trivial)); (case aO => exact (vR_ HO_7.out)); (case aS => exact (below_size bel_)); (case aL => have := LMc11.out; omega); intro v392 w12 ho hb hg hat; rw [← Ny391.out] at ho; replace HB := Aside0.mk (hb); have HO393 := Aside0.mk (ho); clear HO_7; clear ho hb hg hat))
       go_roundg k1
       case measure => have := HK1.out; omega
       case rel => exact ⟨(y391), (wrap64 (x8_1 + 1)), eq_, H', ⟨by have := HK1.out; omega⟩, ⟨by refine vR_ ?_; exact HO393.out⟩, ⟨bel_⟩⟩
      ·
       rw [if_neg c11] at H
       exact absurd H (by simp)
   ·
    rw [if_neg c4] at H
    have c4b0 : decide (x8_1 < a1) = false := decide_eq_false c4
    clear c4
    obtain rfl := Option.some.inj H
    go_wp2
    go_ret
    exact ⟨_, by first | rfl | (simp [errW_none, errW_some] <;> rfl) | (simp [*, errW_none, errW_some] <;> rfl), by refine vR_ ?_; exact HO_7.out, bel_⟩

end Go.Proofs.YtbhhbgoamomacaaGreatDoor.XMulFixed
