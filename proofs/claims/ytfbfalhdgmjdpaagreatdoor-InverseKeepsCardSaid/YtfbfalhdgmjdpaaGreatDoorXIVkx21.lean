-- by xprint.py, a program of this session, over the kit's print
import Derived.Test.YtfbfalhdgmjdpaaGreatDoorXIVkx0
import Derived.Test.YtfbfalhdgmjdpaaGreatDoorSq
namespace Go.Proofs.YtfbfalhdgmjdpaaGreatDoor.XInverseKeeps
open Go.RowKit Go.Proofs.YtfbfalhdgmjdpaaGreatDoor.Sq Go.Proofs.YtfbfalhdgmjdpaaGreatDoorW.PrintWords Go.Proofs.YtfbfalhdgmjdpaaGreatDoorW.PrintLast Go.Proofs.YtfbfalhdgmjdpaaGreatDoorW.PrintMore
attribute [local go_sem] max2_int min2_int max_two min_two max_three min_three max_four min_four   -- for this text's walks alone
set_option linter.unusedVariables false
set_option linter.unusedSimpArgs false

/-! ### slices_Index_int_int: function 50 -/
def slices_Index_int_int.l0 : Nat → List Int → Int → Int → Int → Option (Int)
 | 0, _, _, _, _ => none
 | k + 1, b, c, d, a => if a < d then (if 0 ≤ a then (if a < (b.length : Int) then (if c = (rd b a) then (some a) else (slices_Index_int_int.l0 k b c d (wrap64 (a + 1)))) else (none)) else (none)) else (some (-1))
def slices_Index_int_int.f (k : Nat) (a : List Int) (b : Int) : Option (Int) := slices_Index_int_int.l0 k a b (a.length : Int) 0
theorem slices_Index_int_int.mono_l : ∀ k, (∀ a b c d, LeO (slices_Index_int_int.l0 k a b c d) (slices_Index_int_int.l0 (k + 1) a b c d))
 | 0 => by intros; exact LeO.none _
 | k + 1 => by
  have ih0 := slices_Index_int_int.mono_l k
  intro a b c d
  unfold slices_Index_int_int.l0
  exact leo_
theorem slices_Index_int_int.mono : ∀ a b k, LeO (slices_Index_int_int.f k a b) (slices_Index_int_int.f (k + 1) a b) := by
 intro a b k
 have ih0 := slices_Index_int_int.mono_l k
 unfold slices_Index_int_int.f
 exact leo_
set_option maxHeartbeats 8000000 in
set_option maxRecDepth 100000 in
theorem slices_Index_int_int.calls (k : Nat) (s : Option Addr) (c0 : Nat) (b : List Int) (d : Int) (r : Int) (w : World) (n : Kd.C (Kd.int .i64) w s b.length b) (o : b.length ≤ c0) (h : slices_Index_int_int.f k b d = some r) :
  Calls Tryz.prog 50 #[.slice s b.length c0, .int .i64 d] w fun e w' => e = .returned (.int .i64 r) ∧ Drawn0 w w' := by
 have p := a_ n
 have u := a_ o
 clear n o
 unfold slices_Index_int_int.f at h
 have H := h
 clear h
 have H' := a_ H
 clear H
 go_enter Tryz.func50, Tryz.ntmps50
 go_wp2
 go_loopg [8] k (fun kq t w' => ∃ (a : Int), t = .int .i64 a ∧ Aside0 (slices_Index_int_int.l0 kq b d (b.length : Int) a = some r) ∧ Aside0 (kq ≤ k) ∧ Drawn0 w w')
 case atStart => exact ⟨(0), eq_, H', ⟨lr_ _⟩, by repeat (first | exact d0_ _ | apply Drawn0.step)⟩
 clear H'
 try clear p2
 obtain ⟨a, rfl, HA, q, ⟨m1, rfl⟩⟩ := hrel
 cases gk with
 | zero => exact absurd HA.out (by simp [slices_Index_int_int.l0])
 | succ k1 =>
  have H := HA.out
  clear HA
  simp only [slices_Index_int_int.l0] at H
  by_cases c3 : a < (b.length : Int)
  rotate_left
  ·
   rw [ig_ c3] at H
   have c3b0 : decide (a < (b.length : Int)) = false := df_ c3
   clear c3
   obtain rfl := si_ H
   go_wp2
   go_ret
   exact ⟨by first | rfl | (simp; done) | (simp [*]; done), by repeat (first | exact d0_ _ | apply Drawn0.step)⟩
  rw [ip_ c3] at H
  have c3b0 : decide (a < (b.length : Int)) = true := dt_ c3
  clear c3
  by_cases c4 : 0 ≤ a
  rotate_left
  ·
   rw [ig_ c4] at H
   exact ab_ H
  rw [ip_ c4] at H
  have c4b0 : decide (0 ≤ a) = true := dt_ c4
  clear c4
  by_cases c5 : a < (b.length : Int)
  rotate_left
  ·
   rw [ig_ c5] at H
   exact ab_ H
  rw [ip_ c5] at H
  have c5b0 : decide (a < (b.length : Int)) = true := dt_ c5
  clear c5
  by_cases c6 : d = (rd b a)
  ·
   rw [ip_ c6] at H
   have c6b0 : (d == (rd b a)) = true := beq_iff_eq.mpr c6
   have c6b1 : (d != (rd b a)) = false := bn_.mpr c6
   clear c6
   obtain rfl := si_ H
   have p583 : 0 ≤ (a : Int) := dq_
   have c : a < (b.length : Int) := dq_
   obtain ⟨m, g, l⟩ := ai_ p.out a p583 c
   cases g
   replace p583 := et_ p583
   replace c := et_ c
   go_wp2
   go_ret
   exact ⟨by first | rfl | (simp; done) | (simp [*]; done), by repeat (first | exact d0_ _ | apply Drawn0.step)⟩
  rw [ig_ c6] at H
  have c6b0 : (d == (rd b a)) = false := be_.mpr c6
  have c6b1 : (d != (rd b a)) = true := ni_.mpr c6
  have H' := a_ H
  clear H
  have p583 : 0 ≤ (a : Int) := dq_
  have c : a < (b.length : Int) := dq_
  obtain ⟨m, g, l⟩ := ai_ p.out a p583 c
  cases g
  replace p583 := et_ p583
  replace c := et_ c
  go_wp2
  go_roundg k1
  case measure => have := q.out; omega
  exact ⟨(wrap64 (a + 1)), eq_, H', ⟨by have := q.out; omega⟩, by repeat (first | exact d0_ _ | apply Drawn0.step)⟩

/-! ### slices_Contains_int_int: function 23 -/
def slices_Contains_int_int.f (k : Nat) (b : List Int) (c : Int) : Option (Bool) := (slices_Index_int_int.f k b c).bind fun a => (some (decide (a ≥ 0)))
theorem slices_Contains_int_int.mono : ∀ a b k, LeO (slices_Contains_int_int.f k a b) (slices_Contains_int_int.f (k + 1) a b) := by
 intro a b k
 unfold slices_Contains_int_int.f
 have m0 := @slices_Index_int_int.mono
 exact leo_
set_option maxHeartbeats 8000000 in
set_option maxRecDepth 100000 in
theorem slices_Contains_int_int.calls (k : Nat) (g : Option Addr) (c0 : Nat) (a : List Int) (b : Int) (r : Bool) (w : World) (c : Kd.C (Kd.int .i64) w g a.length a) (d : a.length ≤ c0) (h : slices_Contains_int_int.f k a b = some r) :
  Calls Tryz.prog 23 #[.slice g a.length c0, .int .i64 b] w fun e w' => e = .returned (.bool r) ∧ Drawn0 w w' := by
 have m := a_ c
 have n := a_ d
 clear c d
 unfold slices_Contains_int_int.f at h
 have H := h
 clear h
 replace H := bo_ H
 obtain ⟨l, o, H⟩ := H
 try dsimp only at H
 obtain rfl := si_ H
 go_enter Tryz.func23, Tryz.ntmps23
 go_wp2_with (first | ((with_reducible refine gate_callee (f := 50) rfl ?_); refine goesL_ (some 7) rfl rfl Tryz.func50 kr_ rfl #[.slice g a.length c0, .int .i64 b] rfl ar_ ?_; (with_reducible refine (slices_Index_int_int.calls k _ _ a b l _ ?_ ?_ o.out).mono ?_); exact ca_ (m.out); exact n.out; rintro e w' ⟨rfl, ⟨nd, rfl⟩⟩; refine ⟨_, rfl, ?_⟩))
 go_ret
 exact ⟨by first | rfl | (simp; done) | (simp [*]; done), by repeat (first | exact d0_ _ | apply Drawn0.step)⟩

end Go.Proofs.YtfbfalhdgmjdpaaGreatDoor.XInverseKeeps
