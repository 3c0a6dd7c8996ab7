-- by xprint.py, a program of this session, over the kit's print
import Derived.Test.YtbhhbgoamomacaaGreatDoorXMUSx0
import Derived.Test.YtbhhbgoamomacaaGreatDoorSq
namespace Go.Proofs.YtbhhbgoamomacaaGreatDoor.XMulFixed
open Go.RowKit Go.Proofs.YtbhhbgoamomacaaGreatDoor.Sq Go.Proofs.YtbhhbgoamomacaaGreatDoorW.PrintWords Go.Proofs.YtbhhbgoamomacaaGreatDoorW.PrintLast Go.Proofs.YtbhhbgoamomacaaGreatDoorW.PrintMore
attribute [local go_sem] max2_int min2_int max_two min_two max_three min_three max_four min_four   -- for this text's walks alone
set_option linter.unusedVariables false
set_option linter.unusedSimpArgs false

/-! ### jigsawref01_size: function 106 -/
def jigsawref01_size.f (a0 : Int) : Option (Int) := if a0 < 0 then (some (IntKind.u64.wrap ((IntKind.u64.wrap (wrap64 (-(wrap64 (a0 + 1))))) + 1))) else (some (IntKind.u64.wrap (a0)))
set_option maxHeartbeats 8000000 in
set_option maxRecDepth 100000 in
theorem jigsawref01_size.calls (a0 : Int) (r : Int) (w : World) (h : jigsawref01_size.f a0 = some r) :
  Calls Tryz.prog 106 #[.int .i64 a0] w fun e w' => e = .returned (.int .u64 r) ∧ Drawn0 w w' := by
 have H : (if a0 < 0 then (some (IntKind.u64.wrap ((IntKind.u64.wrap (wrap64 (-(wrap64 (a0 + 1))))) + 1))) else (some (IntKind.u64.wrap (a0)))) = some r := h
 clear h
 by_cases c2 : a0 < 0
 ·
  rw [if_pos c2] at H
  have c2b0 : decide (a0 < 0) = true := decide_eq_true c2
  clear c2
  obtain rfl := Option.some.inj H
  go_enter Tryz.func106, Tryz.ntmps106
  go_wp2
  go_ret
  exact ⟨by first | rfl | (simp; done) | (simp [*]; done), by repeat (first | exact Drawn0.refl _ | apply Drawn0.step)⟩
 ·
  rw [if_neg c2] at H
  have c2b0 : decide (a0 < 0) = false := decide_eq_false c2
  clear c2
  obtain rfl := Option.some.inj H
  go_enter Tryz.func106, Tryz.ntmps106
  go_wp2
  go_ret
  exact ⟨by first | rfl | (simp; done) | (simp [*]; done), by repeat (first | exact Drawn0.refl _ | apply Drawn0.step)⟩

/-! ### jigsawref01_Quo: function 84 -/
def jigsawref01_Quo.j0 : Nat → Int → Int → Bool → Option (Int × Bool)
 | 0, _, _, _ => none
 | k + 1, x0, x1, x16 => if x16 = true then (some (0, false)) else ((jigsawref01_size.f x0).bind fun t419 => ((jigsawref01_size.f x1).bind fun t420 => (if t420 = 0 then (none) else (if ((decide (x0 < 0)) != (decide (x1 < 0))) = true then (some (wrap64 (-(wrap64 (IntKind.u64.wrap (Int.tdiv t419 t420)))), true)) else (some (wrap64 (IntKind.u64.wrap (Int.tdiv t419 t420)), true))))))
def jigsawref01_Quo.f (k : Nat) (a0 : Int) (a1 : Int) : Option (Int × Bool) := if a1 = 0 then (jigsawref01_Quo.j0 k a0 a1 true) else (if a1 = (-1) then (jigsawref01_Quo.j0 k a0 a1 (a0 == (-9223372036854775808))) else (jigsawref01_Quo.j0 k a0 a1 false))
theorem jigsawref01_Quo.mono_l : ∀ k, (∀ y0 y1 y2, LeO (jigsawref01_Quo.j0 k y0 y1 y2) (jigsawref01_Quo.j0 (k + 1) y0 y1 y2))
 | 0 => fun _ _ _ r h => by simp [jigsawref01_Quo.j0] at h
 | k + 1 => by
  have ih0 := jigsawref01_Quo.mono_l k
  ·
   intro y0 y1 y2
   unfold jigsawref01_Quo.j0
   exact leo_
theorem jigsawref01_Quo.mono : ∀ a0 a1 k, LeO (jigsawref01_Quo.f k a0 a1) (jigsawref01_Quo.f (k + 1) a0 a1) := by
 intro a0 a1 k
 have ih0 := jigsawref01_Quo.mono_l k
 unfold jigsawref01_Quo.f
 exact leo_
set_option maxHeartbeats 8000000 in
set_option maxRecDepth 100000 in
theorem jigsawref01_Quo.calls (k : Nat) (a0 : Int) (a1 : Int) (r1 : Int) (r2 : Bool) (w : World) (h : jigsawref01_Quo.f k a0 a1 = some (r1, r2)) :
  Calls Tryz.prog 84 #[.int .i64 a0, .int .i64 a1] w fun e w' => e = .returned (.tuple #[.int .i64 r1, .bool r2]) ∧ Drawn0 w w' := by
 have H : (if a1 = 0 then (jigsawref01_Quo.j0 k a0 a1 true) else (if a1 = (-1) then (jigsawref01_Quo.j0 k a0 a1 (a0 == (-9223372036854775808))) else (jigsawref01_Quo.j0 k a0 a1 false))) = some (r1, r2) := h
 clear h
 have HC3 := Aside0.mk H
 clear H
 go_enter Tryz.func84, Tryz.ntmps84
 go_upto_region 1 with (fail)
 go_cut [16] (fun v16 wc => ∃ (kq : Nat) (x16_2 : Bool), v16 = .bool x16_2 ∧ Aside0 (jigsawref01_Quo.j0 kq a0 a1 x16_2 = some (r1, r2)) ∧ Aside0 (kq ≤ k) ∧ Drawn0 w wc)
 case first =>
  have H := HC3.out
  clear HC3
  by_cases c4 : a1 = 0
  ·
   rw [if_pos c4] at H
   have c4b0 : (a1 == 0) = true := beq_iff_eq.mpr c4
   have c4b1 : (a1 != 0) = false := bne_eq_false_iff_eq.mpr c4
   clear c4
   (first | rw [c4b0] | (simp only [i64_w, i32_w]; rw [c4b0]) | skip)
   have H' := Aside0.mk H
   clear H
   go_wp2
   go_meet
   case rel => exact ⟨_, (true), eq_, H', ⟨by first | omega | exact Nat.le_refl _⟩, by repeat (first | exact Drawn0.refl _ | apply Drawn0.step)⟩
  ·
   rw [if_neg c4] at H
   have c4b0 : (a1 == 0) = false := beq_eq_false_iff_ne.mpr c4
   have c4b1 : (a1 != 0) = true := bne_iff_ne.mpr c4
   (first | rw [c4b0] | (simp only [i64_w, i32_w]; rw [c4b0]) | skip)
   by_cases c5 : a1 = (-1)
   ·
    rw [if_pos c5] at H
    have c5b0 : (a1 == (-1)) = true := beq_iff_eq.mpr c5
    have c5b1 : (a1 != (-1)) = false := bne_eq_false_iff_eq.mpr c5
    clear c5
    have H' := Aside0.mk H
    clear H
    go_wp2
    go_meet
    case rel => exact ⟨_, ((a0 == (-9223372036854775808))), eq_, H', ⟨by first | omega | exact Nat.le_refl _⟩, by repeat (first | exact Drawn0.refl _ | apply Drawn0.step)⟩
   ·
    rw [if_neg c5] at H
    have c5b0 : (a1 == (-1)) = false := beq_eq_false_iff_ne.mpr c5
    have c5b1 : (a1 != (-1)) = true := bne_iff_ne.mpr c5
    have H' := Aside0.mk H
    clear H
    go_wp2
    go_meet
    case rel => exact ⟨_, (false), eq_, H', ⟨by first | omega | exact Nat.le_refl _⟩, by repeat (first | exact Drawn0.refl _ | apply Drawn0.step)⟩
 case rest =>
  clear HC3
  try clear p2
  try clear c4
  try clear c4b0
  try clear c4b1
  try clear c5
  try clear c5b0
  try clear c5b1
  obtain ⟨kq, x16_2, rfl, HA, HJ2, ⟨mc2, rfl⟩⟩ := hcut
  cases kq with
  | zero => exact absurd HA.out (by simp [jigsawref01_Quo.j0])
  | succ kj2 =>
   have H := HA.out
   clear HA
   simp only [jigsawref01_Quo.j0] at H
   by_cases c6 : x16_2 = true
   ·
    subst c6
    have H1 : (some (0, false)) = some (r1, r2) := by rw [if_pos rfl] at H; exact H
    clear H
    have H := H1
    clear H1
    simp only [Option.some.injEq, Prod.mk.injEq] at H
    obtain ⟨rfl, rfl⟩ := H
    go_wp2
    go_ret2
    exact ⟨by first | rfl | (simp; done) | (simp [*]; done), by repeat (first | exact Drawn0.refl _ | apply Drawn0.step)⟩
   ·
    replace c6 := Bool.eq_false_iff.mpr c6
    subst c6
    have H1 : ((jigsawref01_size.f a0).bind fun t419 => ((jigsawref01_size.f a1).bind fun t420 => (if t420 = 0 then (none) else (if ((decide (a0 < 0)) != (decide (a1 < 0))) = true then (some (wrap64 (-(wrap64 (IntKind.u64.wrap (Int.tdiv t419 t420)))), true)) else (some (wrap64 (IntKind.u64.wrap (Int.tdiv t419 t420)), true)))))) = some (r1, r2) := by rw [if_neg (show ¬ (false = true) by decide)] at H; exact H
    clear H
    have H := H1
    clear H1
    replace H := Option.bind_eq_some_iff.mp H
    obtain ⟨t419, A70, H⟩ := H
    replace H : ((jigsawref01_size.f a1).bind fun t420 => (if t420 = 0 then (none) else (if ((decide (a0 < 0)) != (decide (a1 < 0))) = true then (some (wrap64 (-(wrap64 (IntKind.u64.wrap (Int.tdiv t419 t420)))), true)) else (some (wrap64 (IntKind.u64.wrap (Int.tdiv t419 t420)), true))))) = some (r1, r2) := H
    have A7 := Aside0.mk A70
    clear A70
    replace H := Option.bind_eq_some_iff.mp H
    obtain ⟨t420, A80, H⟩ := H
    replace H : (if t420 = 0 then (none) else (if ((decide (a0 < 0)) != (decide (a1 < 0))) = true then (some (wrap64 (-(wrap64 (IntKind.u64.wrap (Int.tdiv t419 t420)))), true)) else (some (wrap64 (IntKind.u64.wrap (Int.tdiv t419 t420)), true)))) = some (r1, r2) := H
    have A8 := Aside0.mk A80
    clear A80
    by_cases c9 : t420 = 0
    ·
     rw [if_pos c9] at H
     exact absurd H (by simp)
    ·
     rw [if_neg c9] at H
     have c9b0 : (t420 == 0) = false := beq_eq_false_iff_ne.mpr c9
     have c9b1 : (t420 != 0) = true := bne_iff_ne.mpr c9
     by_cases c10 : ((decide (a0 < 0)) != (decide (a1 < 0))) = true
     ·
      rw [if_pos c10] at H
      have c10b0 : ((decide (a0 < 0)) != (decide (a1 < 0))) = true := c10
      (try (have c10b1 : decide ((decide (a0 < 0)) = (decide (a1 < 0))) = false := by simpa using c10))
      (try (have c10b2 : ((decide (a0 < 0)) == (decide (a1 < 0))) = false := by simpa using c10))
      (try (have c10b3 : ¬ ((decide (a0 < 0)) = (decide (a1 < 0))) := by simpa using c10))
      clear c10
      simp only [Option.some.injEq, Prod.mk.injEq] at H
      obtain ⟨rfl, rfl⟩ := H
      go_wp2_with (first | ((with_reducible refine gate_callee (f := 106) rfl ?_); refine goesL_ (some 18) rfl rfl Tryz.func106 (by kernel_rfl) rfl #[.int .i64 a0] rfl ar_ ?_; (with_reducible refine (jigsawref01_size.calls a0 t419 _ A7.out).mono ?_); rintro e w' ⟨rfl, ⟨nd, rfl⟩⟩; refine ⟨_, rfl, ?_⟩) | ((with_reducible refine gate_callee (f := 106) rfl ?_); refine goesL_ (some 20) rfl rfl Tryz.func106 (by kernel_rfl) rfl #[.int .i64 a1] rfl ar_ ?_; (with_reducible refine (jigsawref01_size.calls a1 t420 _ A8.out).mono ?_); rintro e w' ⟨rfl, ⟨nd, rfl⟩⟩; refine ⟨_, rfl, ?_⟩))
      go_ret2
      exact ⟨by first | rfl | (simp; done) | (simp [*]; done), by repeat (first | exact Drawn0.refl _ | apply Drawn0.step)⟩
     ·
      rw [if_neg c10] at H
      have c10b0 : ((decide (a0 < 0)) != (decide (a1 < 0))) = false := by simpa using c10
      (try (have c10b1 : decide ((decide (a0 < 0)) = (decide (a1 < 0))) = true := by simpa using c10))
      (try (have c10b2 : ((decide (a0 < 0)) == (decide (a1 < 0))) = true := by simpa using c10))
      clear c10
      simp only [Option.some.injEq, Prod.mk.injEq] at H
      obtain ⟨rfl, rfl⟩ := H
      go_wp2_with (first | ((with_reducible refine gate_callee (f := 106) rfl ?_); refine goesL_ (some 18) rfl rfl Tryz.func106 (by kernel_rfl) rfl #[.int .i64 a0] rfl ar_ ?_; (with_reducible refine (jigsawref01_size.calls a0 t419 _ A7.out).mono ?_); rintro e w' ⟨rfl, ⟨nd, rfl⟩⟩; refine ⟨_, rfl, ?_⟩) | ((with_reducible refine gate_callee (f := 106) rfl ?_); refine goesL_ (some 20) rfl rfl Tryz.func106 (by kernel_rfl) rfl #[.int .i64 a1] rfl ar_ ?_; (with_reducible refine (jigsawref01_size.calls a1 t420 _ A8.out).mono ?_); rintro e w' ⟨rfl, ⟨nd, rfl⟩⟩; refine ⟨_, rfl, ?_⟩))
      go_ret2
      exact ⟨by first | rfl | (simp; done) | (simp [*]; done), by repeat (first | exact Drawn0.refl _ | apply Drawn0.step)⟩

end Go.Proofs.YtbhhbgoamomacaaGreatDoor.XMulFixed
