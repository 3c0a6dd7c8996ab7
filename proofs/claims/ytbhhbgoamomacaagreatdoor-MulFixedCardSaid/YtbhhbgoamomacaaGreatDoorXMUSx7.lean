-- by xprint.py, a program of this session, over the kit's print
import Derived.Test.YtbhhbgoamomacaaGreatDoorXMUSx0
import Derived.Test.YtbhhbgoamomacaaGreatDoorXMUSx5
import Derived.Test.YtbhhbgoamomacaaGreatDoorSq
namespace Go.Proofs.YtbhhbgoamomacaaGreatDoor.XMulFixed
open Go.RowKit Go.Proofs.YtbhhbgoamomacaaGreatDoor.Sq Go.Proofs.YtbhhbgoamomacaaGreatDoorW.PrintWords Go.Proofs.YtbhhbgoamomacaaGreatDoorW.PrintLast Go.Proofs.YtbhhbgoamomacaaGreatDoorW.PrintMore
attribute [local go_sem] max2_int min2_int max_two min_two max_three min_three max_four min_four   -- for this text's walks alone
set_option linter.unusedVariables false
set_option linter.unusedSimpArgs false

/-! ### num_Mul: function 30 -/
mutual
def num_Mul.j0 : Nat → Int → Int → Bool → Option (Int × Bool)
 | 0, _, _, _ => none
 | k + 1, x0, x1, x12 => if x12 = true then (some (0, true)) else (if x0 = (-1) then (if x1 = (-9223372036854775808) then (num_Mul.j1 k x0 x1 true) else (if x1 = (-1) then (num_Mul.j1 k x0 x1 (x0 == (-9223372036854775808))) else (num_Mul.j1 k x0 x1 false))) else (if x1 = (-1) then (num_Mul.j1 k x0 x1 (x0 == (-9223372036854775808))) else (num_Mul.j1 k x0 x1 false)))
def num_Mul.j1 : Nat → Int → Int → Bool → Option (Int × Bool)
 | 0, _, _, _ => none
 | k + 1, x0, x1, x26 => if x26 = true then (some (0, false)) else (if x1 = 0 then (none) else (if (wrap64 (Int.tdiv (wrap64 (x0 * x1)) x1)) = x0 then (some (wrap64 (x0 * x1), true)) else (some (0, false))))
end
def num_Mul.f (k : Nat) (a0 : Int) (a1 : Int) : Option (Int × Bool) := if a0 = 0 then (num_Mul.j0 k a0 a1 true) else (num_Mul.j0 k a0 a1 (a1 == 0))
theorem num_Mul.mono_l : ∀ k, (∀ y0 y1 y2, LeO (num_Mul.j0 k y0 y1 y2) (num_Mul.j0 (k + 1) y0 y1 y2)) ∧ (∀ y0 y1 y2, LeO (num_Mul.j1 k y0 y1 y2) (num_Mul.j1 (k + 1) y0 y1 y2))
 | 0 => ⟨fun _ _ _ r h => by simp [num_Mul.j0] at h, fun _ _ _ r h => by simp [num_Mul.j1] at h⟩
 | k + 1 => by
  obtain ⟨ih0, ih1⟩ := num_Mul.mono_l k
  refine ⟨?_, ?_⟩
  ·
   intro y0 y1 y2
   unfold num_Mul.j0
   exact leo_
  ·
   intro y0 y1 y2
   unfold num_Mul.j1
   exact leo_
theorem num_Mul.mono : ∀ a0 a1 k, LeO (num_Mul.f k a0 a1) (num_Mul.f (k + 1) a0 a1) := by
 intro a0 a1 k
 obtain ⟨ih0, ih1⟩ := num_Mul.mono_l k
 unfold num_Mul.f
 exact leo_
set_option maxHeartbeats 8000000 in
set_option maxRecDepth 100000 in
theorem num_Mul.calls (k : Nat) (a0 : Int) (a1 : Int) (r1 : Int) (r2 : Bool) (w : World) (h : num_Mul.f k a0 a1 = some (r1, r2)) :
  Calls Tryz.prog 30 #[.int .i64 a0, .int .i64 a1] w fun e w' => e = .returned (.tuple #[.int .i64 r1, .bool r2]) ∧ Drawn0 w w' := by
 have H : (if a0 = 0 then (num_Mul.j0 k a0 a1 true) else (num_Mul.j0 k a0 a1 (a1 == 0))) = some (r1, r2) := h
 clear h
 have HC3 := Aside0.mk H
 clear H
 go_enter Tryz.func30, Tryz.ntmps30
 go_upto_region 1 with (fail)
 go_cut [12] (fun v12 wc => ∃ (kq : Nat) (x12_2 : Bool), v12 = .bool x12_2 ∧ Aside0 (num_Mul.j0 kq a0 a1 x12_2 = some (r1, r2)) ∧ Aside0 (kq ≤ k) ∧ Drawn0 w wc)
 case first =>
  have H := HC3.out
  clear HC3
  by_cases c4 : a0 = 0
  ·
   rw [if_pos c4] at H
   have c4b0 : (a0 == 0) = true := beq_iff_eq.mpr c4
   have c4b1 : (a0 != 0) = false := bne_eq_false_iff_eq.mpr c4
   clear c4
   (first | rw [c4b0] | (simp only [i64_w, i32_w]; rw [c4b0]) | skip)
   have H' := Aside0.mk H
   clear H
   go_wp2
   go_meet
   case rel => exact ⟨_, (true), eq_, H', ⟨by first | omega | exact Nat.le_refl _⟩, by repeat (first | exact Drawn0.refl _ | apply Drawn0.step)⟩
  ·
   rw [if_neg c4] at H
   have c4b0 : (a0 == 0) = false := beq_eq_false_iff_ne.mpr c4
   have c4b1 : (a0 != 0) = true := bne_iff_ne.mpr c4
   (first | rw [c4b0] | (simp only [i64_w, i32_w]; rw [c4b0]) | skip)
   have H' := Aside0.mk H
   clear H
   go_wp2
   go_meet
   case rel => exact ⟨_, ((a1 == 0)), eq_, H', ⟨by first | omega | exact Nat.le_refl _⟩, by repeat (first | exact Drawn0.refl _ | apply Drawn0.step)⟩
 case rest =>
  clear HC3
  try clear p2
  try clear c3
  try clear c4
  try clear c4b0
  try clear c4b1
  obtain ⟨kq, x12_2, rfl, HA, HJ2, ⟨mc2, rfl⟩⟩ := hcut
  cases kq with
  | zero => exact absurd HA.out (by simp [num_Mul.j0])
  | succ kj2 =>
   have H := HA.out
   clear HA
   simp only [num_Mul.j0] at H
   by_cases c5 : x12_2 = true
   ·
    subst c5
    have H1 : (some (0, true)) = some (r1, r2) := by rw [if_pos rfl] at H; exact H
    clear H
    have H := H1
    clear H1
    simp only [Option.some.injEq, Prod.mk.injEq] at H
    obtain ⟨rfl, rfl⟩ := H
    go_wp2
    go_ret2
    exact ⟨by first | rfl | (simp; done) | (simp [*]; done), by repeat (first | exact Drawn0.refl _ | apply Drawn0.step)⟩
   ·
    replace c5 := Bool.eq_false_iff.mpr c5
    subst c5
    have H1 : (if a0 = (-1) then (if a1 = (-9223372036854775808) then (num_Mul.j1 kj2 a0 a1 true) else (if a1 = (-1) then (num_Mul.j1 kj2 a0 a1 (a0 == (-9223372036854775808))) else (num_Mul.j1 kj2 a0 a1 false))) else (if a1 = (-1) then (num_Mul.j1 kj2 a0 a1 (a0 == (-9223372036854775808))) else (num_Mul.j1 kj2 a0 a1 false))) = some (r1, r2) := by rw [if_neg (show ¬ (false = true) by decide)] at H; exact H
    clear H
    have H := H1
    clear H1
    have HC6 := Aside0.mk H
    clear H
    go_upto_region 3 with (fail)
    go_cut [26] (fun v26 wc => ∃ (kq : Nat) (x26_5 : Bool), v26 = .bool x26_5 ∧ Aside0 (num_Mul.j1 kq a0 a1 x26_5 = some (r1, r2)) ∧ Aside0 (kq ≤ kj2) ∧ Drawn0 w wc)
    case first =>
     have H := HC6.out
     clear HC6
     by_cases c7 : a0 = (-1)
     ·
      rw [if_pos c7] at H
      have c7b0 : (a0 == (-1)) = true := beq_iff_eq.mpr c7
      have c7b1 : (a0 != (-1)) = false := bne_eq_false_iff_eq.mpr c7
      clear c7
      (first | rw [c7b0] | (simp only [i64_w, i32_w]; rw [c7b0]) | skip)
      by_cases c8 : a1 = (-9223372036854775808)
      ·
       rw [if_pos c8] at H
       have c8b0 : (a1 == (-9223372036854775808)) = true := beq_iff_eq.mpr c8
       have c8b1 : (a1 != (-9223372036854775808)) = false := bne_eq_false_iff_eq.mpr c8
       clear c8
       have H' := Aside0.mk H
       clear H
       go_wp2
       go_meet
       case rel => exact ⟨_, (true), eq_, H', ⟨by have := HJ2.out; first | omega | exact Nat.le_refl _⟩, by repeat (first | exact Drawn0.refl _ | apply Drawn0.step)⟩
      ·
       rw [if_neg c8] at H
       have c8b0 : (a1 == (-9223372036854775808)) = false := beq_eq_false_iff_ne.mpr c8
       have c8b1 : (a1 != (-9223372036854775808)) = true := bne_iff_ne.mpr c8
       by_cases c9 : a1 = (-1)
       ·
        rw [if_pos c9] at H
        have c9b0 : (a1 == (-1)) = true := beq_iff_eq.mpr c9
        have c9b1 : (a1 != (-1)) = false := bne_eq_false_iff_eq.mpr c9
        clear c9
        have H' := Aside0.mk H
        clear H
        go_wp2
        go_meet
        case rel => exact ⟨_, ((a0 == (-9223372036854775808))), eq_, H', ⟨by have := HJ2.out; first | omega | exact Nat.le_refl _⟩, by repeat (first | exact Drawn0.refl _ | apply Drawn0.step)⟩
       ·
        rw [if_neg c9] at H
        have c9b0 : (a1 == (-1)) = false := beq_eq_false_iff_ne.mpr c9
        have c9b1 : (a1 != (-1)) = true := bne_iff_ne.mpr c9
        have H' := Aside0.mk H
        clear H
        go_wp2
        go_meet
        case rel => exact ⟨_, (false), eq_, H', ⟨by have := HJ2.out; first | omega | exact Nat.le_refl _⟩, by repeat (first | exact Drawn0.refl _ | apply Drawn0.step)⟩
     ·
      rw [if_neg c7] at H
      have c7b0 : (a0 == (-1)) = false := beq_eq_false_iff_ne.mpr c7
      have c7b1 : (a0 != (-1)) = true := bne_iff_ne.mpr c7
      (first | rw [c7b0] | (simp only [i64_w, i32_w]; rw [c7b0]) | skip)
      by_cases c10 : a1 = (-1)
      ·
       rw [if_pos c10] at H
       have c10b0 : (a1 == (-1)) = true := beq_iff_eq.mpr c10
       have c10b1 : (a1 != (-1)) = false := bne_eq_false_iff_eq.mpr c10
       clear c10
       have H' := Aside0.mk H
       clear H
       go_wp2
       go_meet
       case rel => exact ⟨_, ((a0 == (-9223372036854775808))), eq_, H', ⟨by have := HJ2.out; first | omega | exact Nat.le_refl _⟩, by repeat (first | exact Drawn0.refl _ | apply Drawn0.step)⟩
      ·
       rw [if_neg c10] at H
       have c10b0 : (a1 == (-1)) = false := beq_eq_false_iff_ne.mpr c10
       have c10b1 : (a1 != (-1)) = true := bne_iff_ne.mpr c10
       have H' := Aside0.mk H
       clear H
       go_wp2
       go_meet
       case rel => exact ⟨_, (false), eq_, H', ⟨by have := HJ2.out; first | omega | exact Nat.le_refl _⟩, by repeat (first | exact Drawn0.refl _ | apply Drawn0.step)⟩
    case rest =>
     clear HC6
     try clear c1
     try clear c2
     try clear p2
     try clear c3
     try clear c4
     try clear c4b0
     try clear c4b1
     try clear c5
     try clear c7
     try clear c7b0
     try clear c7b1
     try clear c8
     try clear c8b0
     try clear c8b1
     try clear c9
     try clear c9b0
     try clear c9b1
     try clear c10
     try clear c10b0
     try clear c10b1
     try clear p2
     obtain ⟨kq, x26_5, rfl, HA, HJ5, ⟨mc5, rfl⟩⟩ := hcut
     cases kq with
     | zero => exact absurd HA.out (by simp [num_Mul.j1])
     | succ kj5 =>
      have H := HA.out
      clear HA
      simp only [num_Mul.j1] at H
      by_cases c11 : x26_5 = true
      ·
       subst c11
       have H1 : (some (0, false)) = some (r1, r2) := by rw [if_pos rfl] at H; exact H
       clear H
       have H := H1
       clear H1
       simp only [Option.some.injEq, Prod.mk.injEq] at H
       obtain ⟨rfl, rfl⟩ := H
       go_wp2
       go_ret2
       exact ⟨by first | rfl | (simp; done) | (simp [*]; done), by repeat (first | exact Drawn0.refl _ | apply Drawn0.step)⟩
      ·
       replace c11 := Bool.eq_false_iff.mpr c11
       subst c11
       have H1 : (if a1 = 0 then (none) else (if (wrap64 (Int.tdiv (wrap64 (a0 * a1)) a1)) = a0 then (some (wrap64 (a0 * a1), true)) else (some (0, false)))) = some (r1, r2) := by rw [if_neg (show ¬ (false = true) by decide)] at H; exact H
       clear H
       have H := H1
       clear H1
       by_cases c12 : a1 = 0
       ·
        rw [if_pos c12] at H
        exact absurd H (by simp)
       ·
        rw [if_neg c12] at H
        have c12b0 : (a1 == 0) = false := beq_eq_false_iff_ne.mpr c12
        have c12b1 : (a1 != 0) = true := bne_iff_ne.mpr c12
        by_cases c13 : (wrap64 (Int.tdiv (wrap64 (a0 * a1)) a1)) = a0
        ·
         rw [if_pos c13] at H
         have c13b0 : ((wrap64 (Int.tdiv (wrap64 (a0 * a1)) a1)) == a0) = true := beq_iff_eq.mpr c13
         have c13b1 : ((wrap64 (Int.tdiv (wrap64 (a0 * a1)) a1)) != a0) = false := bne_eq_false_iff_eq.mpr c13
         clear c13
         simp only [Option.some.injEq, Prod.mk.injEq] at H
         obtain ⟨rfl, rfl⟩ := H
         go_wp2
         go_ret2
         exact ⟨by first | rfl | (simp; done) | (simp [*]; done), by repeat (first | exact Drawn0.refl _ | apply Drawn0.step)⟩
        ·
         rw [if_neg c13] at H
         have c13b0 : ((wrap64 (Int.tdiv (wrap64 (a0 * a1)) a1)) == a0) = false := beq_eq_false_iff_ne.mpr c13
         have c13b1 : ((wrap64 (Int.tdiv (wrap64 (a0 * a1)) a1)) != a0) = true := bne_iff_ne.mpr c13
         simp only [Option.some.injEq, Prod.mk.injEq] at H
         obtain ⟨rfl, rfl⟩ := H
         go_wp2
         go_ret2
         exact ⟨by first | rfl | (simp; done) | (simp [*]; done), by repeat (first | exact Drawn0.refl _ | apply Drawn0.step)⟩

/-! ### num_right: function 68 -/
def num_right.f (a0 : Int) (a1 : Int) : Option (Bool) := if a1 = 0 then (some false) else (if a1 = (-1) then (some (a0 != (-9223372036854775808))) else (some true))
set_option maxHeartbeats 8000000 in
set_option maxRecDepth 100000 in
theorem num_right.calls (a0 : Int) (a1 : Int) (r : Bool) (w : World) (h : num_right.f a0 a1 = some r) :
  Calls Tryz.prog 68 #[.int .i64 a0, .int .i64 a1] w fun e w' => e = .returned (.bool r) ∧ Drawn0 w w' := by
 have H : (if a1 = 0 then (some false) else (if a1 = (-1) then (some (a0 != (-9223372036854775808))) else (some true))) = some r := h
 clear h
 by_cases c3 : a1 = 0
 ·
  rw [if_pos c3] at H
  have c3b0 : (a1 == 0) = true := beq_iff_eq.mpr c3
  have c3b1 : (a1 != 0) = false := bne_eq_false_iff_eq.mpr c3
  clear c3
  obtain rfl := Option.some.inj H
  go_enter Tryz.func68, Tryz.ntmps68
  go_wp2
  go_ret
  exact ⟨by first | rfl | (simp; done) | (simp [*]; done), by repeat (first | exact Drawn0.refl _ | apply Drawn0.step)⟩
 ·
  rw [if_neg c3] at H
  have c3b0 : (a1 == 0) = false := beq_eq_false_iff_ne.mpr c3
  have c3b1 : (a1 != 0) = true := bne_iff_ne.mpr c3
  by_cases c4 : a1 = (-1)
  ·
   rw [if_pos c4] at H
   have c4b0 : (a1 == (-1)) = true := beq_iff_eq.mpr c4
   have c4b1 : (a1 != (-1)) = false := bne_eq_false_iff_eq.mpr c4
   clear c4
   obtain rfl := Option.some.inj H
   go_enter Tryz.func68, Tryz.ntmps68
   go_wp2
   go_ret
   exact ⟨by first | rfl | (simp; done) | (simp [*]; done), by repeat (first | exact Drawn0.refl _ | apply Drawn0.step)⟩
  ·
   rw [if_neg c4] at H
   have c4b0 : (a1 == (-1)) = false := beq_eq_false_iff_ne.mpr c4
   have c4b1 : (a1 != (-1)) = true := bne_iff_ne.mpr c4
   obtain rfl := Option.some.inj H
   go_enter Tryz.func68, Tryz.ntmps68
   go_wp2
   go_ret
   exact ⟨by first | rfl | (simp; done) | (simp [*]; done), by repeat (first | exact Drawn0.refl _ | apply Drawn0.step)⟩

/-! ### num_Quo: function 31 -/
def num_Quo.f (a0 : Int) (a1 : Int) : Option (Int × Bool) := (num_right.f a0 a1).bind fun t185 => (if t185 = true then (if a1 = 0 then (none) else (some (wrap64 (Int.tdiv a0 a1), true))) else (some (0, false)))
set_option maxHeartbeats 8000000 in
set_option maxRecDepth 100000 in
theorem num_Quo.calls (a0 : Int) (a1 : Int) (r1 : Int) (r2 : Bool) (w : World) (h : num_Quo.f a0 a1 = some (r1, r2)) :
  Calls Tryz.prog 31 #[.int .i64 a0, .int .i64 a1] w fun e w' => e = .returned (.tuple #[.int .i64 r1, .bool r2]) ∧ Drawn0 w w' := by
 have H : ((num_right.f a0 a1).bind fun t185 => (if t185 = true then (if a1 = 0 then (none) else (some (wrap64 (Int.tdiv a0 a1), true))) else (some (0, false)))) = some (r1, r2) := h
 clear h
 replace H := Option.bind_eq_some_iff.mp H
 obtain ⟨t185, A30, H⟩ := H
 replace H : (if t185 = true then (if a1 = 0 then (none) else (some (wrap64 (Int.tdiv a0 a1), true))) else (some (0, false))) = some (r1, r2) := H
 have A3 := Aside0.mk A30
 clear A30
 by_cases c4 : t185 = true
 ·
  subst c4
  have H1 : (if a1 = 0 then (none) else (some (wrap64 (Int.tdiv a0 a1), true))) = some (r1, r2) := by rw [if_pos rfl] at H; exact H
  clear H
  have H := H1
  clear H1
  by_cases c5 : a1 = 0
  ·
   rw [if_pos c5] at H
   exact absurd H (by simp)
  ·
   rw [if_neg c5] at H
   have c5b0 : (a1 == 0) = false := beq_eq_false_iff_ne.mpr c5
   have c5b1 : (a1 != 0) = true := bne_iff_ne.mpr c5
   simp only [Option.some.injEq, Prod.mk.injEq] at H
   obtain ⟨rfl, rfl⟩ := H
   go_enter Tryz.func31, Tryz.ntmps31
   go_wp2_with (first | ((with_reducible refine gate_callee (f := 68) rfl ?_); refine goesL_ (some 8) rfl rfl Tryz.func68 (by kernel_rfl) rfl #[.int .i64 a0, .int .i64 a1] rfl ar_ ?_; (with_reducible refine (num_right.calls a0 a1 true _ A3.out).mono ?_); rintro e w' ⟨rfl, ⟨nd, rfl⟩⟩; refine ⟨_, rfl, ?_⟩))
   go_ret2
   exact ⟨by first | rfl | (simp; done) | (simp [*]; done), by repeat (first | exact Drawn0.refl _ | apply Drawn0.step)⟩
 ·
  replace c4 := Bool.eq_false_iff.mpr c4
  subst c4
  have H1 : (some (0, false)) = some (r1, r2) := by rw [if_neg (show ¬ (false = true) by decide)] at H; exact H
  clear H
  have H := H1
  clear H1
  simp only [Option.some.injEq, Prod.mk.injEq] at H
  obtain ⟨rfl, rfl⟩ := H
  go_enter Tryz.func31, Tryz.ntmps31
  go_wp2_with (first | ((with_reducible refine gate_callee (f := 68) rfl ?_); refine goesL_ (some 8) rfl rfl Tryz.func68 (by kernel_rfl) rfl #[.int .i64 a0, .int .i64 a1] rfl ar_ ?_; (with_reducible refine (num_right.calls a0 a1 false _ A3.out).mono ?_); rintro e w' ⟨rfl, ⟨nd, rfl⟩⟩; refine ⟨_, rfl, ?_⟩))
  go_ret2
  exact ⟨by first | rfl | (simp; done) | (simp [*]; done), by repeat (first | exact Drawn0.refl _ | apply Drawn0.step)⟩

/-! ### num_Rem: function 32 -/
def num_Rem.f (a0 : Int) (a1 : Int) : Option (Int × Bool) := (num_right.f a0 a1).bind fun t186 => (if t186 = true then (if a1 = 0 then (none) else (some (Int.tmod a0 a1, true))) else (some (0, false)))
set_option maxHeartbeats 8000000 in
set_option maxRecDepth 100000 in
theorem num_Rem.calls (a0 : Int) (a1 : Int) (r1 : Int) (r2 : Bool) (w : World) (h : num_Rem.f a0 a1 = some (r1, r2)) :
  Calls Tryz.prog 32 #[.int .i64 a0, .int .i64 a1] w fun e w' => e = .returned (.tuple #[.int .i64 r1, .bool r2]) ∧ Drawn0 w w' := by
 have H : ((num_right.f a0 a1).bind fun t186 => (if t186 = true then (if a1 = 0 then (none) else (some (Int.tmod a0 a1, true))) else (some (0, false)))) = some (r1, r2) := h
 clear h
 replace H := Option.bind_eq_some_iff.mp H
 obtain ⟨t186, A30, H⟩ := H
 replace H : (if t186 = true then (if a1 = 0 then (none) else (some (Int.tmod a0 a1, true))) else (some (0, false))) = some (r1, r2) := H
 have A3 := Aside0.mk A30
 clear A30
 by_cases c4 : t186 = true
 ·
  subst c4
  have H1 : (if a1 = 0 then (none) else (some (Int.tmod a0 a1, true))) = some (r1, r2) := by rw [if_pos rfl] at H; exact H
  clear H
  have H := H1
  clear H1
  by_cases c5 : a1 = 0
  ·
   rw [if_pos c5] at H
   exact absurd H (by simp)
  ·
   rw [if_neg c5] at H
   have c5b0 : (a1 == 0) = false := beq_eq_false_iff_ne.mpr c5
   have c5b1 : (a1 != 0) = true := bne_iff_ne.mpr c5
   simp only [Option.some.injEq, Prod.mk.injEq] at H
   obtain ⟨rfl, rfl⟩ := H
   go_enter Tryz.func32, Tryz.ntmps32
   go_wp2_with (first | ((with_reducible refine gate_callee (f := 68) rfl ?_); refine goesL_ (some 8) rfl rfl Tryz.func68 (by kernel_rfl) rfl #[.int .i64 a0, .int .i64 a1] rfl ar_ ?_; (with_reducible refine (num_right.calls a0 a1 true _ A3.out).mono ?_); rintro e w' ⟨rfl, ⟨nd, rfl⟩⟩; refine ⟨_, rfl, ?_⟩))
   go_ret2
   exact ⟨by first | rfl | (simp; done) | (simp [*]; done), by repeat (first | exact Drawn0.refl _ | apply Drawn0.step)⟩
 ·
  replace c4 := Bool.eq_false_iff.mpr c4
  subst c4
  have H1 : (some (0, false)) = some (r1, r2) := by rw [if_neg (show ¬ (false = true) by decide)] at H; exact H
  clear H
  have H := H1
  clear H1
  simp only [Option.some.injEq, Prod.mk.injEq] at H
  obtain ⟨rfl, rfl⟩ := H
  go_enter Tryz.func32, Tryz.ntmps32
  go_wp2_with (first | ((with_reducible refine gate_callee (f := 68) rfl ?_); refine goesL_ (some 8) rfl rfl Tryz.func68 (by kernel_rfl) rfl #[.int .i64 a0, .int .i64 a1] rfl ar_ ?_; (with_reducible refine (num_right.calls a0 a1 false _ A3.out).mono ?_); rintro e w' ⟨rfl, ⟨nd, rfl⟩⟩; refine ⟨_, rfl, ?_⟩))
  go_ret2
  exact ⟨by first | rfl | (simp; done) | (simp [*]; done), by repeat (first | exact Drawn0.refl _ | apply Drawn0.step)⟩

/-! ### dom_Dom_List: function 23 -/
mutual
def dom_Dom_List.l0 : Nat → List Int → List Int → Int → Int → Int → List Int → Int → Int → Int → Option (List Int)
 | 0, _, _, _, _, _, _, _, _, _ => none
 | k + 1, x3, x7, x8, x9, x188000, x188001, x188002, x188003, x188004 => if x9 < x8 then (if 0 ≤ x9 then (if x9 < (x7.length : Int) then (dom_Dom_List.l1 k x3 x9 (rd x7 x9) x7 x8 x9 x188000 x188001 x188002 x188003 x188004) else (none)) else (none)) else (some x3)
def dom_Dom_List.l1 : Nat → List Int → Int → Int → List Int → Int → Int → Int → List Int → Int → Int → Int → Option (List Int)
 | 0, _, _, _, _, _, _, _, _, _, _, _ => none
 | k + 1, x3, x4, x5, x7, x8, x9, x188000, x188001, x188002, x188003, x188004 => if x5 = 0 then (dom_Dom_List.l0 k x3 x7 x8 (wrap64 (x9 + 1)) x188000 x188001 x188002 x188003 x188004) else ((bits_TrailingZeros64.f x5).bind fun t189 => (if x3.length < 17592186044416 then (dom_Dom_List.l1 k (x3 ++ [wrap64 ((wrap64 (x188000 + (wrap64 (64 * x4)))) + t189)]) x4 (Go.bits .and .u64 x5 (IntKind.u64.wrap (x5 - 1))) x7 x8 x9 x188000 x188001 x188002 x188003 x188004) else (none)))
end
def dom_Dom_List.f (k : Nat) (a0_0 : Int) (l0_1 : List Int) (a0_2 : Int) (a0_3 : Int) (a0_4 : Int) : Option (List Int) := dom_Dom_List.l0 k ([] : List Int) l0_1 (l0_1.length : Int) 0 a0_0 l0_1 a0_2 a0_3 a0_4
theorem dom_Dom_List.mono_l : ∀ k, (∀ y0 y1 y2 y3 y4 y5 y6 y7 y8, LeO (dom_Dom_List.l0 k y0 y1 y2 y3 y4 y5 y6 y7 y8) (dom_Dom_List.l0 (k + 1) y0 y1 y2 y3 y4 y5 y6 y7 y8)) ∧ (∀ y0 y1 y2 y3 y4 y5 y6 y7 y8 y9 y10, LeO (dom_Dom_List.l1 k y0 y1 y2 y3 y4 y5 y6 y7 y8 y9 y10) (dom_Dom_List.l1 (k + 1) y0 y1 y2 y3 y4 y5 y6 y7 y8 y9 y10))
 | 0 => ⟨fun _ _ _ _ _ _ _ _ _ r h => by simp [dom_Dom_List.l0] at h, fun _ _ _ _ _ _ _ _ _ _ _ r h => by simp [dom_Dom_List.l1] at h⟩
 | k + 1 => by
  obtain ⟨ih0, ih1⟩ := dom_Dom_List.mono_l k
  refine ⟨?_, ?_⟩
  ·
   intro y0 y1 y2 y3 y4 y5 y6 y7 y8
   unfold dom_Dom_List.l0
   exact leo_
  ·
   intro y0 y1 y2 y3 y4 y5 y6 y7 y8 y9 y10
   unfold dom_Dom_List.l1
   exact leo_
theorem dom_Dom_List.mono : ∀ a0 a1 a2 a3 a4 k, LeO (dom_Dom_List.f k a0 a1 a2 a3 a4) (dom_Dom_List.f (k + 1) a0 a1 a2 a3 a4) := by
 intro a0 a1 a2 a3 a4 k
 obtain ⟨ih0, ih1⟩ := dom_Dom_List.mono_l k
 unfold dom_Dom_List.f
 exact leo_
def dom_Dom_List.T7 : Bool × List (List Nat × List Nat) := (true, [([], []), ([], []), ([1], [1]), ([], []), ([3], [3]), ([2, 4], [2, 4]), ([], []), ([6], [6]), ([5, 7], [5, 7]), ([8], [8]), ([0, 9, 7], [0, 9]), ([10, 10, 0, 1, 2, 3, 4, 5, 6, 7, 8, 9, 10], [0, 10])])
def dom_Dom_List.B7 : List Nat := [0, 0, 2, 0, 8, 30, 0, 64, 254, 510, 1023, 2047]
theorem dom_Dom_List.tab7 : rtab .any (opsOf Tryz.f23 7) = dom_Dom_List.T7 := by kernel_rfl
theorem dom_Dom_List.bits7 : waitsOk dom_Dom_List.T7.2 dom_Dom_List.B7 = true := by kernel_rfl
set_option maxHeartbeats 8000000 in
set_option maxRecDepth 100000 in
theorem dom_Dom_List.calls (k : Nat) (a0_0 : Int) (A0_1 : Option Addr) (c0_1 : Nat) (l0_1 : List Int) (a0_2 : Int) (a0_3 : Int) (a0_4 : Int) (r : List Int) (w : World) (hr0_1 : Kd.C (Kd.int .u64) w A0_1 l0_1.length l0_1) (hc0_1 : l0_1.length ≤ c0_1) (hrtab : Kd.C (Kd.int .u8) w (some ⟨0, 0, none⟩) tabL.length tabL) (h : dom_Dom_List.f k a0_0 l0_1 a0_2 a0_3 a0_4 = some r) :
  Calls Tryz.prog 23 #[.agg #[.int .i64 a0_0, .slice A0_1 l0_1.length c0_1, .int .i64 a0_2, .int .i64 a0_3, .int .i64 a0_4]] w fun e w' => ∃ v0_ : Value, e = .returned (v0_) ∧ Kd.R (Kd.int .i64) 3 w' w.heap.size (fun _ => True) v0_ r ∧ Below w.heap.size w w' := by
 have hu61 := Tryz.underlying61
 have HR0_1 := Aside0.mk hr0_1
 have HC0_1 := Aside0.mk hc0_1
 clear hr0_1 hc0_1
 have HRtab := Aside0.mk hrtab
 clear hrtab
 have HB := Aside0.mk (Below.refl w.heap.size w)
 have H : (dom_Dom_List.l0 k ([] : List Int) l0_1 (l0_1.length : Int) 0 a0_0 l0_1 a0_2 a0_3 a0_4) = some r := h
 clear h
 have H' := Aside0.mk H
 clear H
 go_enter Tryz.func23, Tryz.ntmps23
 go_wp2_with (first | ((with_reducible refine gate_dst (N := 1) rfl ?_); refine bxe_ (N := 1) (cs := #[.int .i64 a0_0, .slice A0_1 l0_1.length c0_1, .int .i64 a0_2, .int .i64 a0_3, .int .i64 a0_4]) (t := 61) ?_; intro gb187 hg w2 hbox hb; have BK187 := Aside0.mk (hbox); have GW187 := Aside0.mk (by rw [hg]; exact (below_size bel_) : w.heap.size ≤ gb187); have GE187 := GW187; replace HB := Aside0.mk (below_step bel_ hb); clear hb hbox hg; obtain ⟨hcz3_0, hcz3_1, hcz3_2, hcz3_3, hcz3_4, hfz3_0, hfz3_1, hfz3_2, hfz3_3, hfz3_4⟩ := cel5_ BK187.out))
 go_loopg [3, 9] k (fun kq v3 v9 w' => ∃ (x3_1 : List Int) (x9_1 : Int), v9 = .int .i64 x9_1 ∧ Aside0 (dom_Dom_List.l0 kq x3_1 l0_1 (l0_1.length : Int) x9_1 a0_0 l0_1 a0_2 a0_3 a0_4 = some r) ∧ Aside0 (kq ≤ k) ∧ Aside0 (Kd.R (Kd.int .i64) 3 w' w.heap.size (fun _ => True) v3 x3_1) ∧ Aside0 (w'.heap[gb187]? = some (.cells #[.int .i64 a0_0, (.slice A0_1 l0_1.length c0_1), .int .i64 a0_2, .int .i64 a0_3, .int .i64 a0_4] 61 (0, 0))) ∧ Aside0 (Below w.heap.size w w'))
 case atStart => exact ⟨(([] : List Int)), (0), eq_, H', ⟨Nat.le_refl _⟩, ⟨nil_⟩, ⟨by refine bk_ ?_; exact BK187.out⟩, ⟨bel_⟩⟩
 case round =>
  clear H'
  try clear c2
  try clear p2
  try clear hcz3_0
  try clear hcz3_1
  try clear hcz3_2
  try clear hcz3_3
  try clear hcz3_4
  try clear hfz3_0
  try clear hfz3_1
  try clear hfz3_2
  try clear hfz3_3
  try clear hfz3_4
  obtain ⟨x3_1, x9_1, rfl, HA, HK1, HO_3, BK187, HB⟩ := hrel
  cases gk with
  | zero => exact absurd HA.out (by simp [dom_Dom_List.l0])
  | succ k1 =>
   have H := HA.out
   clear HA
   simp only [dom_Dom_List.l0] at H
   by_cases c4 : x9_1 < (l0_1.length : Int)
   ·
    rw [if_pos c4] at H
    have c4b0 : decide (x9_1 < (l0_1.length : Int)) = true := decide_eq_true c4
    clear c4
    by_cases c5 : 0 ≤ x9_1
    ·
     rw [if_pos c5] at H
     have c5b0 : decide (0 ≤ x9_1) = true := decide_eq_true c5
     clear c5
     by_cases c6 : x9_1 < (l0_1.length : Int)
     ·
      rw [if_pos c6] at H
      have c6b0 : decide (x9_1 < (l0_1.length : Int)) = true := decide_eq_true c6
      clear c6
      have H' := Aside0.mk H
      clear H
      have p188 : 0 ≤ (x9_1 : Int) := dq_
      have q188 : x9_1 < (l0_1.length : Int) := dq_
      obtain ⟨ad188, e188, hx188_0⟩ := Kd.at_int HR0_1.out x9_1 p188 q188
      cases e188
      replace hx188_0 := (HB.out.cell (World.block_lt_of_cell? w _ hx188_0)).trans hx188_0
      replace p188 := eq_true p188
      replace q188 := eq_true q188
      go_wp2
      go_loopg [3, 5] k1 (fun kq v3 v5 w' => ∃ (x3_2 : List Int) (x5_2 : Int), v5 = .int .u64 x5_2 ∧ Aside0 (dom_Dom_List.l1 kq x3_2 x9_1 x5_2 l0_1 (l0_1.length : Int) x9_1 a0_0 l0_1 a0_2 a0_3 a0_4 = some r) ∧ Aside0 (kq ≤ k1) ∧ Aside0 (Kd.R (Kd.int .i64) 3 w' w.heap.size (fun _ => True) v3 x3_2) ∧ Aside0 (w'.heap[gb187]? = some (.cells #[.int .i64 a0_0, (.slice (some ad188) l0_1.length c0_1), .int .i64 a0_2, .int .i64 a0_3, .int .i64 a0_4] 61 (0, 0))) ∧ Aside0 (Below w.heap.size w w'))
      case atStart => exact ⟨(x3_1), (rd l0_1 x9_1), eq_, H', ⟨Nat.le_refl _⟩, ⟨by refine vR_ ?_; exact HO_3.out⟩, ⟨by refine bk_ ?_; exact BK187.out⟩, ⟨bel_⟩⟩
      case round =>
       clear H'
       try clear p1
       try clear q1
       try clear hx1
       try clear c2
       try clear p2
       try clear c4
       try clear c4b0
       try clear c5
       try clear c5b0
       try clear c6
       try clear c6b0
       try clear hcz3_0
       try clear hcz3_1
       try clear hcz3_2
       try clear hcz3_3
       try clear hcz3_4
       try clear hfz3_0
       try clear hfz3_1
       try clear hfz3_2
       try clear hfz3_3
       try clear hfz3_4
       try clear hx188_0
       try clear p188
       try clear p2
       try clear q188
       obtain ⟨x3_2, x5_2, rfl, HA, HK2, HO_3, BK187, HB⟩ := hrel
       cases gk with
       | zero => exact absurd HA.out (by simp [dom_Dom_List.l1])
       | succ k2 =>
        have H := HA.out
        clear HA
        simp only [dom_Dom_List.l1] at H
        by_cases c7 : x5_2 = 0
        ·
         rw [if_pos c7] at H
         have c7b0 : (x5_2 == 0) = true := beq_iff_eq.mpr c7
         have c7b1 : (x5_2 != 0) = false := bne_eq_false_iff_eq.mpr c7
         clear c7
         have H' := Aside0.mk H
         clear H
         go_wp2
         go_roundg k2
         case measure => have := HK1.out; have := HK2.out; omega
         case rel => exact ⟨(x3_2), (wrap64 (x9_1 + 1)), eq_, H', ⟨by have := HK1.out; have := HK2.out; omega⟩, ⟨by refine vR_ ?_; exact HO_3.out⟩, ⟨by refine bk_ ?_; exact BK187.out⟩, ⟨bel_⟩⟩
        ·
         rw [if_neg c7] at H
         have c7b0 : (x5_2 == 0) = false := beq_eq_false_iff_ne.mpr c7
         have c7b1 : (x5_2 != 0) = true := bne_iff_ne.mpr c7
         replace H := Option.bind_eq_some_iff.mp H
         obtain ⟨t189, A80, H⟩ := H
         try dsimp only at H
         have A8 := Aside0.mk A80
         clear A80
         by_cases c9 : x3_2.length < 17592186044416
         ·
          rw [if_pos c9] at H
          have LMc9 := Aside0.mk c9
          clear c9
          obtain ⟨y190, hy190⟩ : ∃ y_ : List Int, y_ = (x3_2 ++ [wrap64 ((wrap64 (a0_0 + (wrap64 (64 * x9_1)))) + t189)]) := ⟨_, rfl⟩
          replace H : (dom_Dom_List.l1 k2 y190 x9_1 (Go.bits .and .u64 x5_2 (IntKind.u64.wrap (x5_2 - 1))) l0_1 (l0_1.length : Int) x9_1 a0_0 l0_1 a0_2 a0_3 a0_4) = some r := by first | (rw [hy190]; with_reducible exact H) | (have H2_ := (Option.bind_some _ _).symm.trans H; rw [hy190]; with_reducible exact H2_) | (have H2_ := (Option.bind_some _ _).symm.trans H; with_reducible exact H2_) | with_reducible exact H | (rw [hy190]; exact H) | exact H
          have Ny190 := Aside0.mk hy190
          clear hy190
          have H' := Aside0.mk H
          clear H
          try go_wp2
          replace HO_3 := Aside0.mk (Kd.R_drew HO_3.out)
          replace BK187 := Aside0.mk (blk_drew BK187.out)
          replace HB := Aside0.mk (below_drew1 HB.out)
          refine start_ (n := 12) (S := fun w' => w'.cell? ⟨gb187, 0, none⟩ = some (.int .i64 a0_0) ∧ w'.cell? ⟨gb187, 1, none⟩ = some (.slice (some ad188) l0_1.length c0_1) ∧ w'.cell? ⟨gb187, 2, none⟩ = some (.int .i64 a0_2) ∧ w'.cell? ⟨gb187, 3, none⟩ = some (.int .i64 a0_3) ∧ w'.cell? ⟨gb187, 4, none⟩ = some (.int .i64 a0_4)) (ds := []) #[false, false, false, false, false, false, false, false, false, false, false, false] (by kernel_rfl) rfl rfl ⟨(blk_cell BK187.out 0).trans rfl, (blk_cell BK187.out 1).trans rfl, (blk_cell BK187.out 2).trans rfl, (blk_cell BK187.out 3).trans rfl, (blk_cell BK187.out 4).trans rfl⟩ (fun hHeld => ?_); refine with_tabW dom_Dom_List.tab7 dom_Dom_List.bits7 (fun HT_ HW_ => ?_)
          generalize wr.drew = w10 at HO_3 BK187 HB hHeld ⊢
          refine pur_ (i := 0) (N := some 20) #[true, false, false, false, false, false, false, false, false, false, false, false] (any_of HT_.out (by kernel_rfl)) ?_
          refine pur_ (i := 1) (N := some 21) #[true, true, false, false, false, false, false, false, false, false, false, false] (any_of HT_.out (by kernel_rfl)) ?_
          refine pur_ (i := 3) (N := some 23) #[true, true, false, true, false, false, false, false, false, false, false, false] (any_of HT_.out (by kernel_rfl)) ?_
          refine pur_ (i := 4) (N := some 24) #[true, true, false, true, true, false, false, false, false, false, false, false] (any_of HT_.out (by kernel_rfl)) ?_
          refine pur_ (i := 6) (N := some 26) #[true, true, false, true, true, false, true, false, false, false, false, false] (any_of HT_.out (by kernel_rfl)) ?_
          refine take_ (i := 2) (N := some 22) (v := ?_) (a' := ?_) #[true, true, true, true, true, false, true, false, false, false, false, false] rfl rfl (take_ofW HT_.out HW_.out (by kernel_rfl)) (fun _ _ _ h => h) (Or.inl ⟨by rfl, ?_⟩) hHeld ?_ ?_
          rotate_left
          ·
           rintro w' ⟨s0, s1, s2, s3, s4⟩
           go_simp
           with_reducible rfl
          rotate_left
          ·
           simp only [Act.put, List.setIfInBounds_toArray, List.set_cons_zero, List.set_cons_succ, i64_w, i32_w]
           rfl
          refine pur_ (i := 5) (N := some 25) #[true, true, true, true, true, true, true, false, false, false, false, false] (any_of HT_.out (by kernel_rfl)) ?_
          refine one_ (i := 7) (N := some 27) #[true, true, true, true, true, true, true, true, false, false, false, false] rfl rfl (one_of HT_.out (by kernel_rfl)) (by decide) (fun K hK => ?_)
          refine goes_ Tryz.func55 (by kernel_rfl) rfl #[.int .u64 x5_2] (by rfl) rfl rfl ar_ ?_
          with_reducible refine (bits_TrailingZeros64.calls x5_2 t189 _ ?_ A8.out).mono ?_
          exact ca_ ((Kd.C_below HRtab.out HB.out))
          rintro e w' ⟨rfl, ⟨nd, rfl⟩⟩
          refine ⟨_, rfl, ?_⟩
          refine hK.out _ _ ⟨(blk_cell BK187.out 0).trans rfl, (blk_cell BK187.out 1).trans rfl, (blk_cell BK187.out 2).trans rfl, (blk_cell BK187.out 3).trans rfl, (blk_cell BK187.out 4).trans rfl⟩ (fun hHeld => ?_)
          clear hK K
          refine nor_ (N := some 27) ?_
          refine pur_ (i := 8) (N := some 28) #[true, true, true, true, true, true, true, true, true, false, false, false] (any_of HT_.out (by kernel_rfl)) ?_
          refine one_ (i := 9) (N := some 29) #[true, true, true, true, true, true, true, true, true, true, false, false] rfl rfl (one_of HT_.out (by kernel_rfl)) (by decide) (fun K hK => ?_)
          refine value_ (w1 := ?_) (v := ?_) (by rfl) rfl ?_ ?_
          rotate_left 2
          ·
           go_simp
           constructor
           ·
            rfl
           ·
            rfl
          refine hK.out _ _ ⟨(blk_cell (blk_alloc BK187.out _) 0).trans rfl, (blk_cell (blk_alloc BK187.out _) 1).trans rfl, (blk_cell (blk_alloc BK187.out _) 2).trans rfl, (blk_cell (blk_alloc BK187.out _) 3).trans rfl, (blk_cell (blk_alloc BK187.out _) 4).trans rfl⟩ (fun hHeld => ?_)
          clear hK K
          refine nor_ (N := some 29) ?_
          refine one_ (i := 10) (N := some 30) #[true, true, true, true, true, true, true, true, true, true, true, false] rfl rfl (one_of HT_.out (by kernel_rfl)) (by decide) (fun K hK => ?_)
          refine Kd.R_append_step (Kd.int .i64) (w0 := w) w.heap.size (by rfl) (.tmp 20) (.tmp 29) 30 3 (.int .i64 0) 8 rfl Tryz.underlying30 info3 rfl (by decide) (by omega) u3 x3_2 (wrap64 ((wrap64 (a0_0 + (wrap64 (64 * x9_1)))) + t189)) [.int .i64 (wrap64 ((wrap64 (a0_0 + (wrap64 (64 * x9_1)))) + t189))] (fun _ => True) (fun _ => False) rfl rfl ?aP (fun _ hk => hk.elim) ?aF ?aO ?aB ?aS ?aL ?_
          (case aP => exact rfl)
          (case aB => exact bel_)
          (case aF => exact (fun _ _ => trivial))
          (case aO => exact (vR_ HO_3.out))
          (case aS => exact (below_size bel_))
          (case aL => have := LMc9.out; omega)
          intro v191 w11 ho hb hg hat
          rw [← Ny190.out] at ho
          replace BK187 := Aside0.mk (blk_grown (bk_ BK187.out) hg (Kd.R_ne HO_3.out BK187.out (by decide)))
          replace HB := Aside0.mk (hb)
          have HO192 := Aside0.mk (ho)
          clear HO_3
          clear ho hb hg hat
          refine hK.out _ _ ⟨(blk_cell BK187.out 0).trans rfl, (blk_cell BK187.out 1).trans rfl, (blk_cell BK187.out 2).trans rfl, (blk_cell BK187.out 3).trans rfl, (blk_cell BK187.out 4).trans rfl⟩ (fun hHeld => ?_)
          clear hK K
          refine nor_ (N := some 30) ?_
          refine pur_ (i := 11) (N := some 3) #[true, true, true, true, true, true, true, true, true, true, true, true] (any_of HT_.out (by kernel_rfl)) ?_
          refine done_ (done_of HT_.out (by kernel_rfl)) ?_
          try go_wp2
          go_roundg k2
          case measure => have := HK1.out; have := HK2.out; omega
          case rel => exact ⟨(y190), (Go.bits .and .u64 x5_2 (IntKind.u64.wrap (x5_2 - 1))), eq_, H', ⟨by have := HK1.out; have := HK2.out; omega⟩, ⟨by refine vR_ ?_; exact HO192.out⟩, ⟨by refine bk_ ?_; exact BK187.out⟩, ⟨bel_⟩⟩
         ·
          rw [if_neg c9] at H
          exact absurd H (by simp)
     ·
      rw [if_neg c6] at H
      exact absurd H (by simp)
    ·
     rw [if_neg c5] at H
     exact absurd H (by simp)
   ·
    rw [if_neg c4] at H
    have c4b0 : decide (x9_1 < (l0_1.length : Int)) = false := decide_eq_false c4
    clear c4
    obtain rfl := Option.some.inj H
    go_wp2
    go_ret
    exact ⟨_, by first | rfl | (simp [errW_none, errW_some] <;> rfl) | (simp [*, errW_none, errW_some] <;> rfl), by refine vR_ ?_; exact HO_3.out, bel_⟩

/-! ### dom_in: function 57 -/
def dom_in.f (a0 : Int) : Option (Bool) := if a0 ≥ (-1000000) then (some (decide (a0 ≤ 1000000))) else (some false)
set_option maxHeartbeats 8000000 in
set_option maxRecDepth 100000 in
theorem dom_in.calls (a0 : Int) (r : Bool) (w : World) (h : dom_in.f a0 = some r) :
  Calls Tryz.prog 57 #[.int .i64 a0] w fun e w' => e = .returned (.bool r) ∧ Drawn0 w w' := by
 have H : (if a0 ≥ (-1000000) then (some (decide (a0 ≤ 1000000))) else (some false)) = some r := h
 clear h
 by_cases c2 : a0 ≥ (-1000000)
 ·
  rw [if_pos c2] at H
  have c2b0 : decide ((-1000000) ≤ a0) = true := decide_eq_true c2
  clear c2
  obtain rfl := Option.some.inj H
  go_enter Tryz.func57, Tryz.ntmps57
  go_wp2
  go_ret
  exact ⟨by first | rfl | (simp; done) | (simp [*]; done), by repeat (first | exact Drawn0.refl _ | apply Drawn0.step)⟩
 ·
  rw [if_neg c2] at H
  have c2b0 : decide ((-1000000) ≤ a0) = false := decide_eq_false c2
  clear c2
  obtain rfl := Option.some.inj H
  go_enter Tryz.func57, Tryz.ntmps57
  go_wp2
  go_ret
  exact ⟨by first | rfl | (simp; done) | (simp [*]; done), by repeat (first | exact Drawn0.refl _ | apply Drawn0.step)⟩

/-! ### dom_Dom_word: function 58 -/
def dom_Dom_word.f (a0_0 : Int) (l0_1 : List Int) (a0_2 : Int) (a0_3 : Int) (a0_4 : Int) (a1 : Int) : Option (Int) := if a1 < a0_0 then (some 0) else (if (wrap64 (Int.tdiv (wrap64 (a1 - a0_0)) 64)) ≥ (l0_1.length : Int) then (some 0) else (if 0 ≤ (wrap64 (Int.tdiv (wrap64 (a1 - a0_0)) 64)) then (if (wrap64 (Int.tdiv (wrap64 (a1 - a0_0)) 64)) < (l0_1.length : Int) then (some (rd l0_1 (wrap64 (Int.tdiv (wrap64 (a1 - a0_0)) 64)))) else (none)) else (none)))
set_option maxHeartbeats 8000000 in
set_option maxRecDepth 100000 in
theorem dom_Dom_word.calls (a0_0 : Int) (A0_1 : Option Addr) (c0_1 : Nat) (l0_1 : List Int) (a0_2 : Int) (a0_3 : Int) (a0_4 : Int) (a1 : Int) (r : Int) (w : World) (hr0_1 : Kd.C (Kd.int .u64) w A0_1 l0_1.length l0_1) (hc0_1 : l0_1.length ≤ c0_1) (h : dom_Dom_word.f a0_0 l0_1 a0_2 a0_3 a0_4 a1 = some r) :
  Calls Tryz.prog 58 #[.agg #[.int .i64 a0_0, .slice A0_1 l0_1.length c0_1, .int .i64 a0_2, .int .i64 a0_3, .int .i64 a0_4], .int .i64 a1] w fun e w' => e = .returned (.int .u64 r) ∧ Below w.heap.size w w' := by
 have hu61 := Tryz.underlying61
 have HR0_1 := Aside0.mk hr0_1
 have HC0_1 := Aside0.mk hc0_1
 clear hr0_1 hc0_1
 have HB := Aside0.mk (Below.refl w.heap.size w)
 have H : (if a1 < a0_0 then (some 0) else (if (wrap64 (Int.tdiv (wrap64 (a1 - a0_0)) 64)) ≥ (l0_1.length : Int) then (some 0) else (if 0 ≤ (wrap64 (Int.tdiv (wrap64 (a1 - a0_0)) 64)) then (if (wrap64 (Int.tdiv (wrap64 (a1 - a0_0)) 64)) < (l0_1.length : Int) then (some (rd l0_1 (wrap64 (Int.tdiv (wrap64 (a1 - a0_0)) 64)))) else (none)) else (none)))) = some r := h
 clear h
 by_cases c3 : a1 < a0_0
 ·
  rw [if_pos c3] at H
  have c3b0 : decide (a1 < a0_0) = true := decide_eq_true c3
  clear c3
  obtain rfl := Option.some.inj H
  go_enter Tryz.func58, Tryz.ntmps58
  go_wp2_with (first | ((with_reducible refine gate_dst (N := 2) rfl ?_); (try (refine gate_guard (by rfl) ?_; dsimp only)); refine bxe_ (N := 2) (cs := #[.int .i64 a0_0, .slice A0_1 l0_1.length c0_1, .int .i64 a0_2, .int .i64 a0_3, .int .i64 a0_4]) (t := 61) ?_; intro gb193 hg w4 hbox hb; have BK193 := Aside0.mk (hbox); have GW193 := Aside0.mk (by rw [hg]; exact (below_size bel_) : w.heap.size ≤ gb193); have GE193 := GW193; replace HB := Aside0.mk (below_step bel_ hb); clear hb hbox hg; obtain ⟨_, _, _, _, _, _, _, _, _, _⟩ := cel5_ BK193.out))
  go_ret
  exact ⟨by first | rfl | (simp [errW_none, errW_some] <;> rfl) | (simp [*, errW_none, errW_some] <;> rfl), bel_⟩
 ·
  rw [if_neg c3] at H
  have c3b0 : decide (a1 < a0_0) = false := decide_eq_false c3
  clear c3
  by_cases c6 : (wrap64 (Int.tdiv (wrap64 (a1 - a0_0)) 64)) ≥ (l0_1.length : Int)
  ·
   rw [if_pos c6] at H
   have c6b0 : decide ((l0_1.length : Int) ≤ (wrap64 (Int.tdiv (wrap64 (a1 - a0_0)) 64))) = true := decide_eq_true c6
   clear c6
   obtain rfl := Option.some.inj H
   go_enter Tryz.func58, Tryz.ntmps58
   go_wp2_with (first | ((with_reducible refine gate_dst (N := 2) rfl ?_); (try (refine gate_guard (by rfl) ?_; dsimp only)); refine bxe_ (N := 2) (cs := #[.int .i64 a0_0, .slice A0_1 l0_1.length c0_1, .int .i64 a0_2, .int .i64 a0_3, .int .i64 a0_4]) (t := 61) ?_; intro gb193 hg w7 hbox hb; have BK193 := Aside0.mk (hbox); have GW193 := Aside0.mk (by rw [hg]; exact (below_size bel_) : w.heap.size ≤ gb193); have GE193 := GW193; replace HB := Aside0.mk (below_step bel_ hb); clear hb hbox hg; obtain ⟨_, _, _, _, _, _, _, _, _, _⟩ := cel5_ BK193.out))
   go_ret
   exact ⟨by first | rfl | (simp [errW_none, errW_some] <;> rfl) | (simp [*, errW_none, errW_some] <;> rfl), bel_⟩
  ·
   rw [if_neg c6] at H
   have c6b0 : decide ((l0_1.length : Int) ≤ (wrap64 (Int.tdiv (wrap64 (a1 - a0_0)) 64))) = false := decide_eq_false c6
   clear c6
   obtain ⟨ji9, hji9⟩ : ∃ j_ : Int, (wrap64 (Int.tdiv (wrap64 (a1 - a0_0)) 64)) = j_ := ⟨_, rfl⟩
   replace H : (if 0 ≤ (ji9) then (if (ji9) < (l0_1.length : Int) then (some (rd l0_1 (ji9))) else (none)) else (none)) = some r := by first | (rw [hji9] at H; exact H) | (simp only [hji9] at H ⊢; exact H)
   (try rw [hji9] at c6b0)
   have hji9w : (IntKind.i64.wrap (Int.tdiv (wrap64 (a1 - a0_0)) 64)) = ji9 := (i64_w _).trans hji9
   by_cases c10 : 0 ≤ (ji9)
   ·
    rw [if_pos c10] at H
    have c10b0 : decide (0 ≤ (ji9)) = true := decide_eq_true c10
    clear c10
    by_cases c11 : (ji9) < (l0_1.length : Int)
    ·
     rw [if_pos c11] at H
     have c11b0 : decide ((ji9) < (l0_1.length : Int)) = true := decide_eq_true c11
     clear c11
     obtain rfl := Option.some.inj H
     go_enter Tryz.func58, Tryz.ntmps58
     go_wp2_with (first | ((with_reducible refine gate_dst (N := 2) rfl ?_); (try (refine gate_guard (by rfl) ?_; dsimp only)); refine bxe_ (N := 2) (cs := #[.int .i64 a0_0, .slice A0_1 l0_1.length c0_1, .int .i64 a0_2, .int .i64 a0_3, .int .i64 a0_4]) (t := 61) ?_; intro gb193 hg w12 hbox hb; have BK193 := Aside0.mk (hbox); have GW193 := Aside0.mk (by rw [hg]; exact (below_size bel_) : w.heap.size ≤ gb193); have GE193 := GW193; replace HB := Aside0.mk (below_step bel_ hb); clear hb hbox hg; obtain ⟨_, _, _, _, _, _, _, _, _, _⟩ := cel5_ BK193.out; have p194 : 0 ≤ ((ji9) : Int) := dq_; have q194 : (ji9) < (l0_1.length : Int) := dq_; obtain ⟨ad194, e194, hx194_0⟩ := Kd.at_int HR0_1.out (ji9) p194 q194; cases e194; replace hx194_0 := (HB.out.cell (World.block_lt_of_cell? w _ hx194_0)).trans hx194_0; replace p194 := eq_true p194; replace q194 := eq_true q194))
     go_ret
     exact ⟨by first | rfl | (simp [errW_none, errW_some] <;> rfl) | (simp only [← hji9]; first | rfl | (simp [errW_none, errW_some] <;> rfl)) | (simp [*, errW_none, errW_some] <;> rfl), bel_⟩
    ·
     rw [if_neg c11] at H
     exact absurd H (by simp)
   ·
    rw [if_neg c10] at H
    exact absurd H (by simp)

end Go.Proofs.YtbhhbgoamomacaaGreatDoor.XMulFixed
