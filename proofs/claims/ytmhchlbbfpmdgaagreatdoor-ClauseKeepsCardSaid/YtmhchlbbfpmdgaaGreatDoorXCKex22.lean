-- by xprint.py, a program of this session, over the kit's print
import Derived.Test.YtmhchlbbfpmdgaaGreatDoorXCKex0
import Derived.Test.YtmhchlbbfpmdgaaGreatDoorXCKex12
import Derived.Test.YtmhchlbbfpmdgaaGreatDoorXCKex19
import Derived.Test.YtmhchlbbfpmdgaaGreatDoorSq
namespace Go.Proofs.YtmhchlbbfpmdgaaGreatDoor.XClauseKeeps
open Go.RowKit Go.Proofs.YtmhchlbbfpmdgaaGreatDoor.Sq Go.Proofs.YtmhchlbbfpmdgaaGreatDoorW.PrintWords Go.Proofs.YtmhchlbbfpmdgaaGreatDoorW.PrintLast Go.Proofs.YtmhchlbbfpmdgaaGreatDoorW.PrintMore
attribute [local go_sem] max2_int min2_int max_two min_two max_three min_three max_four min_four   -- for this text's walks alone
set_option linter.unusedVariables false
set_option linter.unusedSimpArgs false

/-! ### jigsawref10_Same: function 13 -/
mutual
def jigsawref10_Same.l0 : Nat → List (List Int) → List (List Int) → Int → Option (Bool)
 | 0, _, _, _ => none
 | k + 1, x0, x1, x5 => if x5 < (x0.length : Int) then (if 0 ≤ x5 then (if x5 < (x1.length : Int) then (if ((rd_L7 x0 x5).length : Int) = ((rd_L7 x1 x5).length : Int) then (jigsawref10_Same.l1 k x0 x1 x5 0) else (none)) else (none)) else (none)) else (some true)
def jigsawref10_Same.l1 : Nat → List (List Int) → List (List Int) → Int → Int → Option (Bool)
 | 0, _, _, _, _ => none
 | k + 1, x0, x1, x5, x6 => if 0 ≤ x5 then (if x5 < (x0.length : Int) then (if x6 < ((rd_L7 x0 x5).length : Int) then (if 0 ≤ x6 then (if x5 < (x1.length : Int) then (if x6 < ((rd_L7 x1 x5).length : Int) then (if (rd (rd_L7 x0 x5) x6) = (rd (rd_L7 x1 x5) x6) then (jigsawref10_Same.l1 k x0 x1 x5 (wrap64 (x6 + 1))) else (none)) else (none)) else (none)) else (none)) else (jigsawref10_Same.l0 k x0 x1 (wrap64 (x5 + 1)))) else (none)) else (none)
end
def jigsawref10_Same.f (k : Nat) (l0 : List (List Int)) (l1 : List (List Int)) : Option (Bool) := if (l0.length : Int) = (l1.length : Int) then (jigsawref10_Same.l0 k l0 l1 0) else (none)
theorem jigsawref10_Same.mono_l : ∀ k, (∀ y0 y1 y2, LeO (jigsawref10_Same.l0 k y0 y1 y2) (jigsawref10_Same.l0 (k + 1) y0 y1 y2)) ∧ (∀ y0 y1 y2 y3, LeO (jigsawref10_Same.l1 k y0 y1 y2 y3) (jigsawref10_Same.l1 (k + 1) y0 y1 y2 y3))
 | 0 => ⟨fun _ _ _ r h => by simp [jigsawref10_Same.l0] at h, fun _ _ _ _ r h => by simp [jigsawref10_Same.l1] at h⟩
 | k + 1 => by
  obtain ⟨ih0, ih1⟩ := jigsawref10_Same.mono_l k
  refine ⟨?_, ?_⟩
  ·
   intro y0 y1 y2
   unfold jigsawref10_Same.l0
   exact leo_
  ·
   intro y0 y1 y2 y3
   unfold jigsawref10_Same.l1
   exact leo_
theorem jigsawref10_Same.mono : ∀ a0 a1 k, LeO (jigsawref10_Same.f k a0 a1) (jigsawref10_Same.f (k + 1) a0 a1) := by
 intro a0 a1 k
 obtain ⟨ih0, ih1⟩ := jigsawref10_Same.mono_l k
 unfold jigsawref10_Same.f
 exact leo_
set_option maxHeartbeats 8000000 in
set_option maxRecDepth 100000 in
theorem jigsawref10_Same.calls (k : Nat) (A0 : Option Addr) (c0 : Nat) (l0 : List (List Int)) (A1 : Option Addr) (c1 : Nat) (l1 : List (List Int)) (r : Bool) (w : World) (hr0 : Kd.C (Kd.slice 3 (Kd.int .i64)) w A0 l0.length l0) (hc0 : l0.length ≤ c0) (hr1 : Kd.C (Kd.slice 3 (Kd.int .i64)) w A1 l1.length l1) (hc1 : l1.length ≤ c1) (h : jigsawref10_Same.f k l0 l1 = some r) :
  Calls Tryz.prog 13 #[.slice A0 l0.length c0, .slice A1 l1.length c1] w fun e w' => e = .returned (.bool r) ∧ Drawn0 w w' := by
 have HR0 := Aside0.mk hr0
 have HC0 := Aside0.mk hc0
 clear hr0 hc0
 have HR1 := Aside0.mk hr1
 have HC1 := Aside0.mk hc1
 clear hr1 hc1
 have H : (if (l0.length : Int) = (l1.length : Int) then (jigsawref10_Same.l0 k l0 l1 0) else (none)) = some r := h
 clear h
 by_cases c3 : (l0.length : Int) = (l1.length : Int)
 ·
  rw [if_pos c3] at H
  have c3b0 : ((l0.length : Int) == (l1.length : Int)) = true := beq_iff_eq.mpr c3
  have c3b1 : ((l0.length : Int) != (l1.length : Int)) = false := bne_eq_false_iff_eq.mpr c3
  have c3b2 : (l0.length == l1.length) = true := by first | simpa using c3 | (simp at c3 ⊢; omega)
  clear c3
  have H' := Aside0.mk H
  clear H
  go_enter Tryz.func13, Tryz.ntmps13
  go_wp2
  repeat (go_quiet (fail); try go_wp2)
  go_loopg [5] k (fun kq v5 w' => ∃ (x5_1 : Int), v5 = .int .i64 x5_1 ∧ Aside0 (jigsawref10_Same.l0 kq l0 l1 x5_1 = some r) ∧ Aside0 (kq ≤ k) ∧ Drawn0 w w')
  case atStart => exact ⟨(0), eq_, H', ⟨Nat.le_refl _⟩, by repeat (first | exact Drawn0.refl _ | apply Drawn0.step)⟩
  case round =>
   clear H'
   try clear c1
   try clear p2
   try clear c3
   try clear c3b0
   try clear c3b1
   try clear c3b2
   obtain ⟨x5_1, rfl, HA, HK1, ⟨m1, rfl⟩⟩ := hrel
   cases gk with
   | zero => exact absurd HA.out (by simp [jigsawref10_Same.l0])
   | succ k1 =>
    have H := HA.out
    clear HA
    simp only [jigsawref10_Same.l0] at H
    by_cases c4 : x5_1 < (l0.length : Int)
    ·
     rw [if_pos c4] at H
     have c4b0 : decide (x5_1 < (l0.length : Int)) = true := decide_eq_true c4
     clear c4
     by_cases c5 : 0 ≤ x5_1
     ·
      rw [if_pos c5] at H
      have c5b0 : decide (0 ≤ x5_1) = true := decide_eq_true c5
      clear c5
      by_cases c6 : x5_1 < (l1.length : Int)
      ·
       rw [if_pos c6] at H
       have c6b0 : decide (x5_1 < (l1.length : Int)) = true := decide_eq_true c6
       clear c6
       by_cases c7 : ((rd_L7 l0 x5_1).length : Int) = ((rd_L7 l1 x5_1).length : Int)
       ·
        rw [if_pos c7] at H
        have c7b0 : (((rd_L7 l0 x5_1).length : Int) == ((rd_L7 l1 x5_1).length : Int)) = true := beq_iff_eq.mpr c7
        have c7b1 : (((rd_L7 l0 x5_1).length : Int) != ((rd_L7 l1 x5_1).length : Int)) = false := bne_eq_false_iff_eq.mpr c7
        have c7b2 : ((rd_L7 l0 x5_1).length == (rd_L7 l1 x5_1).length) = true := by first | simpa using c7 | (simp at c7 ⊢; omega)
        clear c7
        have H' := Aside0.mk H
        clear H
        have p480 : 0 ≤ (x5_1 : Int) := dq_
        have q480 : x5_1 < (l0.length : Int) := dq_
        obtain ⟨ad480, A480_0, c480_0, e480, hx480_0, hl480_0, hi480_0⟩ := at_L7 HR0.out x5_1 p480 q480
        cases e480
        have HC480_0 := Aside0.mk hl480_0
        clear hi480_0 hl480_0
        replace p480 := eq_true p480
        replace q480 := eq_true q480
        have p481 : 0 ≤ (x5_1 : Int) := dq_
        have q481 : x5_1 < (l1.length : Int) := dq_
        obtain ⟨ad481, A481_0, c481_0, e481, hx481_0, hl481_0, hi481_0⟩ := at_L7 HR1.out x5_1 p481 q481
        cases e481
        have HC481_0 := Aside0.mk hl481_0
        clear hi481_0 hl481_0
        replace p481 := eq_true p481
        replace q481 := eq_true q481
        go_wp2
        repeat (go_quiet (fail); try go_wp2)
        go_loopg [6] k1 (fun kq v6 w' => ∃ (x6_2 : Int), v6 = .int .i64 x6_2 ∧ Aside0 (jigsawref10_Same.l1 kq l0 l1 x5_1 x6_2 = some r) ∧ Aside0 (kq ≤ k1) ∧ Drawn0 w w')
        case atStart => exact ⟨(0), eq_, H', ⟨Nat.le_refl _⟩, by repeat (first | exact Drawn0.refl _ | apply Drawn0.step)⟩
        case round =>
         clear H'
         try clear c1
         try clear p2
         try clear c3
         try clear c3b0
         try clear c3b1
         try clear c3b2
         try clear c4
         try clear c4b0
         try clear p4
         try clear q4
         try clear hx4
         try clear c5
         try clear c5b0
         try clear c6
         try clear c6b0
         try clear c7
         try clear c7b0
         try clear c7b1
         try clear c7b2
         try clear hx480_0
         try clear hx481_0
         try clear p2
         try clear p480
         try clear p481
         try clear q480
         try clear q481
         obtain ⟨x6_2, rfl, HA, HK2, ⟨m2, rfl⟩⟩ := hrel
         cases gk with
         | zero => exact absurd HA.out (by simp [jigsawref10_Same.l1])
         | succ k2 =>
          have H := HA.out
          clear HA
          simp only [jigsawref10_Same.l1] at H
          by_cases c8 : 0 ≤ x5_1
          ·
           rw [if_pos c8] at H
           have c8b0 : decide (0 ≤ x5_1) = true := decide_eq_true c8
           clear c8
           by_cases c9 : x5_1 < (l0.length : Int)
           ·
            rw [if_pos c9] at H
            have c9b0 : decide (x5_1 < (l0.length : Int)) = true := decide_eq_true c9
            clear c9
            by_cases c10 : x6_2 < ((rd_L7 l0 x5_1).length : Int)
            ·
             rw [if_pos c10] at H
             have c10b0 : decide (x6_2 < ((rd_L7 l0 x5_1).length : Int)) = true := decide_eq_true c10
             clear c10
             by_cases c11 : 0 ≤ x6_2
             ·
              rw [if_pos c11] at H
              have c11b0 : decide (0 ≤ x6_2) = true := decide_eq_true c11
              clear c11
              by_cases c12 : x5_1 < (l1.length : Int)
              ·
               rw [if_pos c12] at H
               have c12b0 : decide (x5_1 < (l1.length : Int)) = true := decide_eq_true c12
               clear c12
               by_cases c13 : x6_2 < ((rd_L7 l1 x5_1).length : Int)
               ·
                rw [if_pos c13] at H
                have c13b0 : decide (x6_2 < ((rd_L7 l1 x5_1).length : Int)) = true := decide_eq_true c13
                clear c13
                by_cases c14 : (rd (rd_L7 l0 x5_1) x6_2) = (rd (rd_L7 l1 x5_1) x6_2)
                ·
                 rw [if_pos c14] at H
                 have c14b0 : ((rd (rd_L7 l0 x5_1) x6_2) == (rd (rd_L7 l1 x5_1) x6_2)) = true := beq_iff_eq.mpr c14
                 have c14b1 : ((rd (rd_L7 l0 x5_1) x6_2) != (rd (rd_L7 l1 x5_1) x6_2)) = false := bne_eq_false_iff_eq.mpr c14
                 clear c14
                 have H' := Aside0.mk H
                 clear H
                 have p482 : 0 ≤ (x5_1 : Int) := dq_
                 have q482 : x5_1 < (l0.length : Int) := dq_
                 obtain ⟨ad482, A482_0, c482_0, e482, hx482_0, hl482_0, hi482_0⟩ := at_L7 HR0.out x5_1 p482 q482
                 obtain rfl : ad480 = ad482 := (by injection e482)
                 have HC482_0 := Aside0.mk hl482_0
                 clear hi482_0 hl482_0
                 replace p482 := eq_true p482
                 replace q482 := eq_true q482
                 have p483 : 0 ≤ (x5_1 : Int) := dq_
                 have q483 : x5_1 < (l0.length : Int) := dq_
                 obtain ⟨ad483, A483_0, c483_0, e483, hx483_0, hl483_0, hi483_0⟩ := at_L7 HR0.out x5_1 p483 q483
                 obtain rfl : ad480 = ad483 := (by injection e483)
                 have HR483_0 := Aside0.mk hi483_0
                 have HC483_0 := Aside0.mk hl483_0
                 clear hi483_0 hl483_0
                 replace p483 := eq_true p483
                 replace q483 := eq_true q483
                 have ea_ := Option.some.inj (hx482_0.symm.trans hx483_0)
                 injection ea_ with ea_ en_ ec_
                 subst ea_
                 subst ec_
                 clear en_
                 have p484 : 0 ≤ (x6_2 : Int) := dq_
                 have q484 : x6_2 < ((rd_L7 l0 x5_1).length : Int) := dq_
                 obtain ⟨ad484, e484, hx484_0⟩ := Kd.at_int HR483_0.out x6_2 p484 q484
                 cases e484
                 replace p484 := eq_true p484
                 replace q484 := eq_true q484
                 have p485 : 0 ≤ (x5_1 : Int) := dq_
                 have q485 : x5_1 < (l1.length : Int) := dq_
                 obtain ⟨ad485, A485_0, c485_0, e485, hx485_0, hl485_0, hi485_0⟩ := at_L7 HR1.out x5_1 p485 q485
                 obtain rfl : ad481 = ad485 := (by injection e485)
                 have HR485_0 := Aside0.mk hi485_0
                 have HC485_0 := Aside0.mk hl485_0
                 clear hi485_0 hl485_0
                 replace p485 := eq_true p485
                 replace q485 := eq_true q485
                 have p486 : 0 ≤ (x6_2 : Int) := dq_
                 have q486 : x6_2 < ((rd_L7 l1 x5_1).length : Int) := dq_
                 obtain ⟨ad486, e486, hx486_0⟩ := Kd.at_int HR485_0.out x6_2 p486 q486
                 cases e486
                 replace p486 := eq_true p486
                 replace q486 := eq_true q486
                 go_wp2
                 repeat (go_quiet (fail); try go_wp2)
                 go_roundg k2
                 case measure => have := HK1.out; have := HK2.out; omega
                 case rel => exact ⟨(wrap64 (x6_2 + 1)), eq_, H', ⟨by have := HK1.out; have := HK2.out; omega⟩, by repeat (first | exact Drawn0.refl _ | apply Drawn0.step)⟩
                ·
                 rw [if_neg c14] at H
                 exact absurd H (by simp)
               ·
                rw [if_neg c13] at H
                exact absurd H (by simp)
              ·
               rw [if_neg c12] at H
               exact absurd H (by simp)
             ·
              rw [if_neg c11] at H
              exact absurd H (by simp)
            ·
             rw [if_neg c10] at H
             have c10b0 : decide (x6_2 < ((rd_L7 l0 x5_1).length : Int)) = false := decide_eq_false c10
             clear c10
             have H' := Aside0.mk H
             clear H
             have p482 : 0 ≤ (x5_1 : Int) := dq_
             have q482 : x5_1 < (l0.length : Int) := dq_
             obtain ⟨ad482, A482_0, c482_0, e482, hx482_0, hl482_0, hi482_0⟩ := at_L7 HR0.out x5_1 p482 q482
             obtain rfl : ad480 = ad482 := (by injection e482)
             have HC482_0 := Aside0.mk hl482_0
             clear hi482_0 hl482_0
             replace p482 := eq_true p482
             replace q482 := eq_true q482
             go_wp2
             repeat (go_quiet (fail); try go_wp2)
             go_roundg k2
             case measure => have := HK1.out; have := HK2.out; omega
             case rel => exact ⟨(wrap64 (x5_1 + 1)), eq_, H', ⟨by have := HK1.out; have := HK2.out; omega⟩, by repeat (first | exact Drawn0.refl _ | apply Drawn0.step)⟩
           ·
            rw [if_neg c9] at H
            exact absurd H (by simp)
          ·
           rw [if_neg c8] at H
           exact absurd H (by simp)
       ·
        rw [if_neg c7] at H
        exact absurd H (by simp)
      ·
       rw [if_neg c6] at H
       exact absurd H (by simp)
     ·
      rw [if_neg c5] at H
      exact absurd H (by simp)
    ·
     rw [if_neg c4] at H
     have c4b0 : decide (x5_1 < (l0.length : Int)) = false := decide_eq_false c4
     clear c4
     obtain rfl := Option.some.inj H
     go_wp2
     repeat (go_quiet (fail); try go_wp2)
     go_ret
     exact ⟨by first | rfl | (simp; done) | (simp [*]; done), by repeat (first | exact Drawn0.refl _ | apply Drawn0.step)⟩
 ·
  rw [if_neg c3] at H
  exact absurd H (by simp)

/-! ### jigsawlaw14_lists: function 14 -/
def jigsawlaw14_lists.l0 : Nat → List (List Int) → List (S58) → Int → Int → Option ((List (List Int)))
 | 0, _, _, _, _ => none
 | k + 1, x3, x6, x7, x8 => if x8 < x7 then (if 0 ≤ x8 then (if x8 < (x6.length : Int) then ((dom_Dom_List.f k ((rd_T58 x6 x8).f0) ((rd_T58 x6 x8).f1) ((rd_T58 x6 x8).f2) ((rd_T58 x6 x8).f3) ((rd_T58 x6 x8).f4)).bind fun t489 => (if x3.length < 5864062014805 then (jigsawlaw14_lists.l0 k (x3 ++ [t489]) x6 x7 (wrap64 (x8 + 1))) else (none))) else (none)) else (none)) else (some x3)
def jigsawlaw14_lists.f (k : Nat) (l0 : List (S58)) : Option ((List (List Int))) := jigsawlaw14_lists.l0 k ([] : List (List Int)) l0 (l0.length : Int) 0
theorem jigsawlaw14_lists.mono_l : ∀ k, (∀ y0 y1 y2 y3, LeO (jigsawlaw14_lists.l0 k y0 y1 y2 y3) (jigsawlaw14_lists.l0 (k + 1) y0 y1 y2 y3))
 | 0 => fun _ _ _ _ r h => by simp [jigsawlaw14_lists.l0] at h
 | k + 1 => by
  have ih0 := jigsawlaw14_lists.mono_l k
  ·
   intro y0 y1 y2 y3
   unfold jigsawlaw14_lists.l0
   have m0 := @dom_Dom_List.mono
   exact leo_
theorem jigsawlaw14_lists.mono : ∀ a0 k, LeO (jigsawlaw14_lists.f k a0) (jigsawlaw14_lists.f (k + 1) a0) := by
 intro a0 k
 have ih0 := jigsawlaw14_lists.mono_l k
 unfold jigsawlaw14_lists.f
 have m0 := @dom_Dom_List.mono
 exact leo_
set_option maxHeartbeats 8000000 in
set_option maxRecDepth 100000 in
theorem jigsawlaw14_lists.calls (k : Nat) (A0 : Option Addr) (c0 : Nat) (l0 : List (S58)) (r : List (List Int)) (w : World) (hr0 : Kd.C k58 w A0 l0.length l0) (hc0 : l0.length ≤ c0) (hrtab : Kd.C (Kd.int .u8) w (some ⟨0, 0, none⟩) tabL.length tabL) (h : jigsawlaw14_lists.f k l0 = some r) :
  Calls Tryz.prog 14 #[.slice A0 l0.length c0] w fun e w' => ∃ v0_ : Value, e = .returned (v0_) ∧ Kd.S (Kd.slice 3 (Kd.int .i64)) 30 w' w.heap.size (fun _ => True) v0_ r ∧ Below w.heap.size w w' := by
 have hu58 := Tryz.underlying58
 have HR0 := Aside0.mk hr0
 have HC0 := Aside0.mk hc0
 clear hr0 hc0
 have HRtab := Aside0.mk hrtab
 clear hrtab
 have HB := Aside0.mk (Below.refl w.heap.size w)
 have H : (jigsawlaw14_lists.l0 k ([] : List (List Int)) l0 (l0.length : Int) 0) = some r := h
 clear h
 have H' := Aside0.mk H
 clear H
 go_enter Tryz.func14, Tryz.ntmps14
 go_wp2
 go_loopg [3, 8] k (fun kq v3 v8 w' => ∃ (x3_1 : List (List Int)) (x8_1 : Int), v8 = .int .i64 x8_1 ∧ Aside0 (jigsawlaw14_lists.l0 kq x3_1 l0 (l0.length : Int) x8_1 = some r) ∧ Aside0 (kq ≤ k) ∧ Aside0 (Kd.S (Kd.slice 3 (Kd.int .i64)) 30 w' w.heap.size (fun _ => True) v3 x3_1) ∧ Aside0 (Below w.heap.size w w'))
 case atStart => exact ⟨(([] : List (List Int))), (0), eq_, H', ⟨Nat.le_refl _⟩, ⟨nil_⟩, ⟨bel_⟩⟩
 case round =>
  clear H'
  try clear c1
  obtain ⟨x3_1, x8_1, rfl, HA, HK1, HO_3, HB⟩ := hrel
  cases gk with
  | zero => exact absurd HA.out (by simp [jigsawlaw14_lists.l0])
  | succ k1 =>
   have H := HA.out
   clear HA
   simp only [jigsawlaw14_lists.l0] at H
   by_cases c2 : x8_1 < (l0.length : Int)
   ·
    rw [if_pos c2] at H
    have c2b0 : decide (x8_1 < (l0.length : Int)) = true := decide_eq_true c2
    clear c2
    by_cases c3 : 0 ≤ x8_1
    ·
     rw [if_pos c3] at H
     have c3b0 : decide (0 ≤ x8_1) = true := decide_eq_true c3
     clear c3
     by_cases c4 : x8_1 < (l0.length : Int)
     ·
      rw [if_pos c4] at H
      have c4b0 : decide (x8_1 < (l0.length : Int)) = true := decide_eq_true c4
      clear c4
      replace H := Option.bind_eq_some_iff.mp H
      obtain ⟨t489, A50, H⟩ := H
      try dsimp only at H
      have A5 := Aside0.mk A50
      clear A50
      by_cases c6 : x3_1.length < 5864062014805
      ·
       rw [if_pos c6] at H
       have LMc6 := Aside0.mk c6
       clear c6
       obtain ⟨y492, hy492⟩ : ∃ y_ : List (List Int), y_ = (x3_1 ++ [t489]) := ⟨_, rfl⟩
       replace H : (jigsawlaw14_lists.l0 k1 y492 l0 (l0.length : Int) (wrap64 (x8_1 + 1))) = some r := by first | (rw [hy492]; with_reducible exact H) | (have H2_ := (Option.bind_some _ _).symm.trans H; rw [hy492]; with_reducible exact H2_) | (have H2_ := (Option.bind_some _ _).symm.trans H; with_reducible exact H2_) | with_reducible exact H | (rw [hy492]; exact H) | exact H
       have Ny492 := Aside0.mk hy492
       clear hy492
       have H' := Aside0.mk H
       clear H
       have p487 : 0 ≤ (x8_1 : Int) := dq_
       have q487 : x8_1 < (l0.length : Int) := dq_
       obtain ⟨ad487, A487_1, c487_1, e487, hx487_0, hx487_1, hx487_2, hx487_3, hx487_4, hl487_1, hi487_1⟩ := at_T58 HR0.out x8_1 p487 q487
       cases e487
       replace hx487_0 := (HB.out.cell (World.block_lt_of_cell? w _ hx487_0)).trans hx487_0
       replace hx487_1 := (HB.out.cell (World.block_lt_of_cell? w _ hx487_1)).trans hx487_1
       replace hx487_2 := (HB.out.cell (World.block_lt_of_cell? w _ hx487_2)).trans hx487_2
       replace hx487_3 := (HB.out.cell (World.block_lt_of_cell? w _ hx487_3)).trans hx487_3
       replace hx487_4 := (HB.out.cell (World.block_lt_of_cell? w _ hx487_4)).trans hx487_4
       have HR487_1 := Aside0.mk hi487_1
       have HC487_1 := Aside0.mk hl487_1
       clear hi487_1 hl487_1
       replace p487 := eq_true p487
       replace q487 := eq_true q487
       go_wp2_with (first | ((with_reducible refine gate_dst (N := 5) rfl ?_); refine bxe_ (N := 5) (cs := #[.int .i64 0, .slice none 0 0, .int .i64 0, .int .i64 0, .int .i64 0]) (t := 58) ?_; intro gb488 hg w7 hbox hb; replace HO_3 := Aside0.mk (Kd.S_below (vS_ HO_3.out) hb); have BK488 := Aside0.mk (hbox); have GW488 := Aside0.mk (by rw [hg]; exact (below_size bel_) : w.heap.size ≤ gb488); have GE488 := GW488; replace HB := Aside0.mk (below_step bel_ hb); clear hb hbox hg; obtain ⟨_, _, _, _, _, _, _, _, _, _⟩ := cel5_ BK488.out) | ((with_reducible refine gate_callee (f := 22) rfl ?_); refine goesL_ (some 14) rfl rfl Tryz.func22 (by kernel_rfl) rfl #[.agg #[.int .i64 ((rd_T58 l0 x8_1).f0), .slice A487_1 ((rd_T58 l0 x8_1).f1).length c487_1, .int .i64 ((rd_T58 l0 x8_1).f2), .int .i64 ((rd_T58 l0 x8_1).f3), .int .i64 ((rd_T58 l0 x8_1).f4)]] rfl ar_ ?_; (with_reducible refine (dom_Dom_List.calls k1 ((rd_T58 l0 x8_1).f0) _ _ ((rd_T58 l0 x8_1).f1) ((rd_T58 l0 x8_1).f2) ((rd_T58 l0 x8_1).f3) ((rd_T58 l0 x8_1).f4) t489 _ ?_ ?_ ?_ A5.out).mono ?_); exact Kd.C_below HR487_1.out bel_; exact HC487_1.out; exact Kd.C_below HRtab.out bel_; rintro e w9 ⟨v490, rfl, ho0, hb⟩; refine ⟨_, rfl, ?_⟩; replace HO_3 := Aside0.mk (Kd.S_elder' (by refine vS_ ?_; exact (Kd.S_mono (Kd.S_far (Kd.S_far (Kd.S_far (Kd.S_far (Kd.S_far (Kd.S_types HO_3.out BK488.out (by decide)) (fun _ hk => hk.2) _) (fun _ hk => hk.2) _) (fun _ hk => hk.2) _) (fun _ hk => hk.2) _) (fun _ hk => hk.2) _) (fun _ h_ => h_.1))) (Kd.R_base ho0) hb); have HO491 := Aside0.mk (Kd.R_lower ho0 (below_size bel_)); replace HB := Aside0.mk (below_step bel_ hb); clear hb ho0; obtain ⟨Ao11, co11, eo11⟩ := Kd.R_slice HO491.out; subst eo11) | ((with_reducible refine gate_builtin (b := .append) (xs := #[.tmp 12, .tmp 15]) rfl ?_); at_builtin; refine Kd.S_append (Kd.slice 3 (Kd.int .i64)) (w0 := w) w.heap.size rfl (.tmp 12) (.tmp 15) 27 30 (.slice none 0 0) 24 rfl Tryz.underlying27 info30 rfl (by decide) (by omega) u3 x3_1 t489 [.slice Ao11 t489.length co11] (fun _ => True) (fun k_ => some k_ = (.slice Ao11 t489.length co11 : Value).ownBlock) rfl rfl ?aP (fun k_ hk_ => ((Kd.R_mono (ok' := fun k_ => ((fun _ => True)) k_ ∧ some k_ ≠ (u3 : Value).ownBlock) (Kd.R_apart' (HO491.out) (Kd.S_typed HO_3.out) (by decide)) (fun k_ hk => ⟨trivial, hk.2⟩))).1 k_ hk_.symm) ?aF ?aO ?aB ?aS ?aL ?_; (case aP => exact Kd.M_row (Kd.R_mono (Kd.R_tight rfl (Kd.R_mono (ok' := fun k_ => ((fun _ => True)) k_ ∧ some k_ ≠ (u3 : Value).ownBlock) (Kd.R_apart' (HO491.out) (Kd.S_typed HO_3.out) (by decide)) (fun k_ hk => ⟨trivial, hk.2⟩))) (fun _ h_ => h_))); (case aB => exact bel_); (case aF => exact (fun _ _ => trivial)); (case aO => exact (by refine vS_ ?_; exact Kd.S_mono HO_3.out (fun k_ hk => ⟨trivial, fun e_ => hk.2 e_⟩))); (case aS => exact (below_size bel_)); (case aL => have := LMc6.out; omega); intro v493 w10 ho hb hg hat; rw [← Ny492.out] at ho; replace HB := Aside0.mk (hb); have HO494 := Aside0.mk (ho); clear HO_3 HO491; clear ho hb hg hat))
       go_roundg k1
       case measure => have := HK1.out; omega
       case rel => exact ⟨(y492), (wrap64 (x8_1 + 1)), eq_, H', ⟨by have := HK1.out; omega⟩, ⟨by refine vS_ ?_; exact HO494.out⟩, ⟨bel_⟩⟩
      ·
       rw [if_neg c6] at H
       exact absurd H (by simp)
     ·
      rw [if_neg c4] at H
      exact absurd H (by simp)
    ·
     rw [if_neg c3] at H
     exact absurd H (by simp)
   ·
    rw [if_neg c2] at H
    have c2b0 : decide (x8_1 < (l0.length : Int)) = false := decide_eq_false c2
    clear c2
    obtain rfl := Option.some.inj H
    go_wp2
    go_ret
    exact ⟨_, by first | rfl | (simp [errW_none, errW_some] <;> rfl) | (simp [*, errW_none, errW_some] <;> rfl), by refine vS_ ?_; exact HO_3.out, bel_⟩

end Go.Proofs.YtmhchlbbfpmdgaaGreatDoor.XClauseKeeps
