-- by xprint.py, a program of this session, over the kit's print
import Derived.Test.YtbhhbgoamomacaaGreatDoorXMKex0
import Derived.Test.YtbhhbgoamomacaaGreatDoorXMKex22
import Derived.Test.YtbhhbgoamomacaaGreatDoorSq
namespace Go.Proofs.YtbhhbgoamomacaaGreatDoor.XMulKeeps
open Go.RowKit Go.Proofs.YtbhhbgoamomacaaGreatDoor.Sq Go.Proofs.YtbhhbgoamomacaaGreatDoorW.PrintWords Go.Proofs.YtbhhbgoamomacaaGreatDoorW.PrintLast Go.Proofs.YtbhhbgoamomacaaGreatDoorW.PrintMore
attribute [local go_sem] max2_int min2_int max_two min_two max_three min_three max_four min_four   -- for this text's walks alone
set_option linter.unusedVariables false
set_option linter.unusedSimpArgs false

/-! ### slices_Contains_int_int: function 24 -/
def slices_Contains_int_int.f (k : Nat) (b : List Int) (c : Int) : Option (Bool) := (slices_Index_int_int.f k b c).bind fun a => (some (decide (a ≥ 0)))
theorem slices_Contains_int_int.mono : ∀ a b k, LeO (slices_Contains_int_int.f k a b) (slices_Contains_int_int.f (k + 1) a b) := by
 intro a b k
 unfold slices_Contains_int_int.f
 have m0 := @slices_Index_int_int.mono
 exact leo_
set_option maxHeartbeats 8000000 in
set_option maxRecDepth 100000 in
theorem slices_Contains_int_int.calls (k : Nat) (l : Option Addr) (c0 : Nat) (a : List Int) (b : Int) (r : Bool) (w : World) (c : Kd.C (Kd.int .i64) w l a.length a) (d : a.length ≤ c0) (h : slices_Contains_int_int.f k a b = some r) :
  Calls Tryz.prog 24 #[.slice l a.length c0, .int .i64 b] w fun e w' => e = .returned (.bool r) ∧ Drawn0 w w' := by
 have n := a_ c
 have o := a_ d
 clear c d
 unfold slices_Contains_int_int.f at h
 have H := h
 clear h
 replace H := bs_.mp H
 obtain ⟨m, g, H⟩ := H
 try dsimp only at H
 have p := a_ g
 clear g
 obtain rfl := si_ H
 go_enter Tryz.func24, Tryz.ntmps24
 go_wp2_with (first | ((with_reducible refine gate_callee (f := 56) rfl ?_); refine goesL_ (some 7) rfl rfl Tryz.func56 (by kernel_rfl) rfl #[.slice l a.length c0, .int .i64 b] rfl ar_ ?_; (with_reducible refine (slices_Index_int_int.calls k _ _ a b m _ ?_ ?_ p.out).mono ?_); exact ca_ (n.out); exact o.out; rintro e w' ⟨rfl, ⟨nd, rfl⟩⟩; refine ⟨_, rfl, ?_⟩))
 go_ret
 exact ⟨by first | rfl | (simp; done) | (simp [*]; done), by repeat (first | exact d0_ _ | apply Drawn0.step)⟩

end Go.Proofs.YtbhhbgoamomacaaGreatDoor.XMulKeeps
