-- by xprint.py, a program of this session, over the kit's print
import Derived.Test.YtijjhobjmehhoaaGreatDoorXGFix0
import Derived.Test.YtijjhobjmehhoaaGreatDoorSq
namespace Go.Proofs.YtijjhobjmehhoaaGreatDoor.XGccFilters
open Go.RowKit Go.Proofs.YtijjhobjmehhoaaGreatDoor.Sq Go.Proofs.YtijjhobjmehhoaaGreatDoorW.PrintWords Go.Proofs.YtijjhobjmehhoaaGreatDoorW.PrintLast Go.Proofs.YtijjhobjmehhoaaGreatDoorW.PrintMore
attribute [local go_sem] max2_int min2_int max_two min_two max_three min_three max_four min_four   -- for this text's walks alone
set_option linter.unusedVariables false
set_option linter.unusedSimpArgs false

/-! ### slices_Equal_int_int: function 34 -/
def slices_Equal_int_int.l0 : Nat → List Int → List Int → Int → Int → Option (Bool)
 | 0, _, _, _, _ => none
 | k + 1, c, d, b, a => if a < b then (if 0 ≤ a then (if a < (c.length : Int) then (if a < (d.length : Int) then (if (rd c a) = (rd d a) then (slices_Equal_int_int.l0 k c d b (wrap64 (a + 1))) else (none)) else (none)) else (none)) else (none)) else (some true)
def slices_Equal_int_int.f (k : Nat) (a : List Int) (b : List Int) : Option (Bool) := if (a.length : Int) = (b.length : Int) then (slices_Equal_int_int.l0 k a b (a.length : Int) 0) else (none)
theorem slices_Equal_int_int.mono_l : ∀ k, (∀ a b c d, LeO (slices_Equal_int_int.l0 k a b c d) (slices_Equal_int_int.l0 (k + 1) a b c d))
 | 0 => by intros; exact LeO.none _
 | k + 1 => by
  have ih0 := slices_Equal_int_int.mono_l k
  intro a b c d
  unfold slices_Equal_int_int.l0
  exact leo_
theorem slices_Equal_int_int.mono : ∀ a b k, LeO (slices_Equal_int_int.f k a b) (slices_Equal_int_int.f (k + 1) a b) := by
 intro a b k
 have ih0 := slices_Equal_int_int.mono_l k
 unfold slices_Equal_int_int.f
 exact leo_
set_option maxHeartbeats 8000000 in
set_option maxRecDepth 100000 in
theorem slices_Equal_int_int.calls (k : Nat) (v : Option Addr) (c0 : Nat) (b : List Int) (x : Option Addr) (c1 : Nat) (c : List Int) (r : Bool) (w : World) (l : Kd.C (Kd.int .i64) w v b.length b) (m : b.length ≤ c0) (n : Kd.C (Kd.int .i64) w x c.length c) (o : c.length ≤ c1) (h : slices_Equal_int_int.f k b c = some r) :
  Calls Tryz.prog 34 #[.slice v b.length c0, .slice x c.length c1] w fun e w' => e = .returned (.bool r) ∧ Drawn0 w w' := by
 have y := a_ l
 have F := a_ m
 clear l m
 have z := a_ n
 have G := a_ o
 clear n o
 unfold slices_Equal_int_int.f at h
 have H := h
 clear h
 by_cases c3 : (b.length : Int) = (c.length : Int)
 rotate_left
 ·
  rw [ig_ c3] at H
  exact ab_ H
 rw [ip_ c3] at H
 have c3b0 : ((b.length : Int) == (c.length : Int)) = true := beq_iff_eq.mpr c3
 have c3b1 : ((b.length : Int) != (c.length : Int)) = false := bn_.mpr c3
 have c3b2 : (b.length == c.length) = true := by first | simpa using c3 | (simp at c3 ⊢; omega)
 clear c3
 have H' := a_ H
 clear H
 go_enter Tryz.func34, Tryz.ntmps34
 go_wp2
 repeat (go_quiet (fail); try go_wp2)
 go_loopg [13] k (fun kq A w' => ∃ (a : Int), A = .int .i64 a ∧ Aside0 (slices_Equal_int_int.l0 kq b c (b.length : Int) a = some r) ∧ Aside0 (kq ≤ k) ∧ Drawn0 w w')
 case atStart => exact ⟨(0), eq_, H', ⟨lr_ _⟩, by repeat (first | exact d0_ _ | apply Drawn0.step)⟩
 clear H'
 try clear c1
 try clear p2
 try clear c3
 try clear c3b0
 try clear c3b1
 try clear c3b2
 obtain ⟨a, rfl, HA, p, ⟨m1, rfl⟩⟩ := hrel
 cases gk with
 | zero => exact absurd HA.out (by simp [slices_Equal_int_int.l0])
 | succ k1 =>
  have H := HA.out
  clear HA
  simp only [slices_Equal_int_int.l0] at H
  by_cases c4 : a < (b.length : Int)
  rotate_left
  ·
   rw [ig_ c4] at H
   have c4b0 : decide (a < (b.length : Int)) = false := df_ c4
   clear c4
   obtain rfl := si_ H
   go_wp2
   repeat (go_quiet (fail); try go_wp2)
   go_ret
   exact ⟨by first | rfl | (simp; done) | (simp [*]; done), by repeat (first | exact d0_ _ | apply Drawn0.step)⟩
  rw [ip_ c4] at H
  have c4b0 : decide (a < (b.length : Int)) = true := dt_ c4
  clear c4
  by_cases c5 : 0 ≤ a
  rotate_left
  ·
   rw [ig_ c5] at H
   exact ab_ H
  rw [ip_ c5] at H
  have c5b0 : decide (0 ≤ a) = true := dt_ c5
  clear c5
  by_cases c6 : a < (b.length : Int)
  rotate_left
  ·
   rw [ig_ c6] at H
   exact ab_ H
  rw [ip_ c6] at H
  have c6b0 : decide (a < (b.length : Int)) = true := dt_ c6
  clear c6
  by_cases c7 : a < (c.length : Int)
  rotate_left
  ·
   rw [ig_ c7] at H
   exact ab_ H
  rw [ip_ c7] at H
  have c7b0 : decide (a < (c.length : Int)) = true := dt_ c7
  clear c7
  by_cases c8 : (rd b a) = (rd c a)
  rotate_left
  ·
   rw [ig_ c8] at H
   exact ab_ H
  rw [ip_ c8] at H
  have c8b0 : ((rd b a) == (rd c a)) = true := beq_iff_eq.mpr c8
  have c8b1 : ((rd b a) != (rd c a)) = false := bn_.mpr c8
  clear c8
  have H' := a_ H
  clear H
  have p635 : 0 ≤ (a : Int) := dq_
  have d : a < (b.length : Int) := dq_
  obtain ⟨B, q, t⟩ := ai_ y.out a p635 d
  cases q
  replace p635 := et_ p635
  replace d := et_ d
  have p636 : 0 ≤ (a : Int) := dq_
  have g : a < (c.length : Int) := dq_
  obtain ⟨E, s, u⟩ := ai_ z.out a p636 g
  cases s
  replace p636 := et_ p636
  replace g := et_ g
  go_wp2
  repeat (go_quiet (fail); try go_wp2)
  go_roundg k1
  case measure => have := p.out; omega
  exact ⟨(wrap64 (a + 1)), eq_, H', ⟨by have := p.out; omega⟩, by repeat (first | exact d0_ _ | apply Drawn0.step)⟩

end Go.Proofs.YtijjhobjmehhoaaGreatDoor.XGccFilters
