-- by xprint.py, a program of this session, over the kit's print
import Derived.Test.YtckfbfdnlpnllaaGreatDoorXAFix0
import Derived.Test.YtckfbfdnlpnllaaGreatDoorSq
namespace Go.Proofs.YtckfbfdnlpnllaaGreatDoor.XAllDiffFilters
open Go.RowKit Go.Proofs.YtckfbfdnlpnllaaGreatDoor.Sq Go.Proofs.YtckfbfdnlpnllaaGreatDoorW.PrintWords Go.Proofs.YtckfbfdnlpnllaaGreatDoorW.PrintLast Go.Proofs.YtckfbfdnlpnllaaGreatDoorW.PrintMore
attribute [local go_sem] max2_int min2_int max_two min_two max_three min_three max_four min_four   -- for this text's walks alone
set_option linter.unusedVariables false
set_option linter.unusedSimpArgs false

/-! ### jigsawref02_Has: function 70 -/
def jigsawref02_Has.l0 : Nat → List Int → Int → Int → Option (Bool)
 | 0, _, _, _ => none
 | k + 1, b, c, a => if a < (b.length : Int) then (if 0 ≤ a then (if (rd b a) = c then (some true) else (jigsawref02_Has.l0 k b c (wrap64 (a + 1)))) else (none)) else (some false)
def jigsawref02_Has.f (k : Nat) (a : List Int) (b : Int) : Option (Bool) := jigsawref02_Has.l0 k a b 0
theorem jigsawref02_Has.mono_l : ∀ k, (∀ a b c, LeO (jigsawref02_Has.l0 k a b c) (jigsawref02_Has.l0 (k + 1) a b c))
 | 0 => by intros; exact LeO.none _
 | k + 1 => by
  have ih0 := jigsawref02_Has.mono_l k
  intro a b c
  unfold jigsawref02_Has.l0
  exact leo_
theorem jigsawref02_Has.mono : ∀ a b k, LeO (jigsawref02_Has.f k a b) (jigsawref02_Has.f (k + 1) a b) := by
 intro a b k
 have ih0 := jigsawref02_Has.mono_l k
 unfold jigsawref02_Has.f
 exact leo_
set_option maxHeartbeats 8000000 in
set_option maxRecDepth 100000 in
theorem jigsawref02_Has.calls (k : Nat) (s : Option Addr) (c0 : Nat) (b : List Int) (d : Int) (r : Bool) (w : World) (n : Kd.C (Kd.int .i64) w s b.length b) (o : b.length ≤ c0) (h : jigsawref02_Has.f k b d = some r) :
  Calls Tryz.prog 70 #[.slice s b.length c0, .int .i64 d] w fun e w' => e = .returned (.bool r) ∧ Drawn0 w w' := by
 have p := a_ n
 have u := a_ o
 clear n o
 unfold jigsawref02_Has.f at h
 have H := h
 clear h
 have H' := a_ H
 clear H
 go_enter Tryz.func70, Tryz.ntmps70
 go_wp2
 go_loopg [5] k (fun kq t w' => ∃ (a : Int), t = .int .i64 a ∧ Aside0 (jigsawref02_Has.l0 kq b d a = some r) ∧ Aside0 (kq ≤ k) ∧ Drawn0 w w')
 case atStart => exact ⟨(0), eq_, H', ⟨lr_ _⟩, by repeat (first | exact d0_ _ | apply Drawn0.step)⟩
 clear H'
 try clear p2
 obtain ⟨a, rfl, HA, q, ⟨m1, rfl⟩⟩ := hrel
 cases gk with
 | zero => exact absurd HA.out (by simp [jigsawref02_Has.l0])
 | succ k1 =>
  have H := HA.out
  clear HA
  simp only [jigsawref02_Has.l0] at H
  by_cases c3 : a < (b.length : Int)
  rotate_left
  ·
   rw [ig_ c3] at H
   have c3b0 : decide (a < (b.length : Int)) = false := df_ c3
   clear c3
   obtain rfl := si_ H
   go_wp2
   go_ret
   exact ⟨by first | rfl | (simp; done) | (simp [*]; done), by repeat (first | exact d0_ _ | apply Drawn0.step)⟩
  rw [ip_ c3] at H
  have c3b0 : decide (a < (b.length : Int)) = true := dt_ c3
  clear c3
  by_cases c4 : 0 ≤ a
  rotate_left
  ·
   rw [ig_ c4] at H
   exact ab_ H
  rw [ip_ c4] at H
  have c4b0 : decide (0 ≤ a) = true := dt_ c4
  clear c4
  by_cases c5 : (rd b a) = d
  ·
   rw [ip_ c5] at H
   have c5b0 : ((rd b a) == d) = true := beq_iff_eq.mpr c5
   have c5b1 : ((rd b a) != d) = false := bn_.mpr c5
   clear c5
   obtain rfl := si_ H
   have p126 : 0 ≤ (a : Int) := dq_
   have c : a < (b.length : Int) := dq_
   obtain ⟨m, g, l⟩ := ai_ p.out a p126 c
   cases g
   replace p126 := et_ p126
   replace c := et_ c
   go_wp2
   go_ret
   exact ⟨by first | rfl | (simp; done) | (simp [*]; done), by repeat (first | exact d0_ _ | apply Drawn0.step)⟩
  rw [ig_ c5] at H
  have c5b0 : ((rd b a) == d) = false := be_.mpr c5
  have c5b1 : ((rd b a) != d) = true := ni_.mpr c5
  have H' := a_ H
  clear H
  have p126 : 0 ≤ (a : Int) := dq_
  have c : a < (b.length : Int) := dq_
  obtain ⟨m, g, l⟩ := ai_ p.out a p126 c
  cases g
  replace p126 := et_ p126
  replace c := et_ c
  go_wp2
  go_roundg k1
  case measure => have := q.out; omega
  exact ⟨(wrap64 (a + 1)), eq_, H', ⟨by have := q.out; omega⟩, by repeat (first | exact d0_ _ | apply Drawn0.step)⟩

end Go.Proofs.YtckfbfdnlpnllaaGreatDoor.XAllDiffFilters
