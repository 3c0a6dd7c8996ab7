-- by xprint.py, a program of this session, over the kit's print
import Derived.Test.YtbhhbgoamomacaaGreatDoorXMUSx0
import Derived.Test.YtbhhbgoamomacaaGreatDoorXMUSx1
import Derived.Test.YtbhhbgoamomacaaGreatDoorXMUSx5
import Derived.Test.YtbhhbgoamomacaaGreatDoorXMUSx11
import Derived.Test.YtbhhbgoamomacaaGreatDoorXMUSx12
import Derived.Test.YtbhhbgoamomacaaGreatDoorXMUSx13
import Derived.Test.YtbhhbgoamomacaaGreatDoorSq
namespace Go.Proofs.YtbhhbgoamomacaaGreatDoor.XMulFixed
open Go.RowKit Go.Proofs.YtbhhbgoamomacaaGreatDoor.Sq Go.Proofs.YtbhhbgoamomacaaGreatDoorW.PrintWords Go.Proofs.YtbhhbgoamomacaaGreatDoorW.PrintLast Go.Proofs.YtbhhbgoamomacaaGreatDoorW.PrintMore
attribute [local go_sem] max2_int min2_int max_two min_two max_three min_three max_four min_four   -- for this text's walks alone
set_option linter.unusedVariables false
set_option linter.unusedSimpArgs false

/-! ### mul_Filter: function 10 -/
def mul_Filter.f (k : Nat) (a0_0 : Int) (l0_1 : List Int) (l0_2 : List Int) (l0_3 : List Int) (l0_4 : List Int) (l0_5 : List Int) (a0_6 : Int) (l0_7 : List (List Int)) (l1 : List (S61)) : Option ((List (S61)) × Bool) := (prop_Fits.f k a0_0 l0_1 l0_2 l0_3 l0_4 l0_5 a0_6 l0_7 l1 5 7).bind fun t249 => (if t249 = true then (if 0 < (l1.length : Int) then ((dom_Dom_Size.f ((rd_T61 l1 0).f0) ((rd_T61 l1 0).f1) ((rd_T61 l1 0).f2) ((rd_T61 l1 0).f3) ((rd_T61 l1 0).f4)).bind fun t251 => (if 1 < (l1.length : Int) then ((dom_Dom_Size.f ((rd_T61 l1 1).f0) ((rd_T61 l1 1).f1) ((rd_T61 l1 1).f2) ((rd_T61 l1 1).f3) ((rd_T61 l1 1).f4)).bind fun t253 => (if (wrap64 (t251 * t253)) > 4096 then (none) else (if a0_0 = 6 then (if 2 < (l1.length : Int) then ((prop_Pairs_at_num_Quo.f k ((rd_T61 l1 0).f0) ((rd_T61 l1 0).f1) ((rd_T61 l1 0).f2) ((rd_T61 l1 0).f3) ((rd_T61 l1 0).f4) ((rd_T61 l1 1).f0) ((rd_T61 l1 1).f1) ((rd_T61 l1 1).f2) ((rd_T61 l1 1).f3) ((rd_T61 l1 1).f4) ((rd_T61 l1 2).f0) ((rd_T61 l1 2).f1) ((rd_T61 l1 2).f2) ((rd_T61 l1 2).f3) ((rd_T61 l1 2).f4)).bind fun bt257 => (some (bt257.1, bt257.2))) else (none)) else (if a0_0 = 7 then (if 2 < (l1.length : Int) then ((prop_Pairs_at_num_Rem.f k ((rd_T61 l1 0).f0) ((rd_T61 l1 0).f1) ((rd_T61 l1 0).f2) ((rd_T61 l1 0).f3) ((rd_T61 l1 0).f4) ((rd_T61 l1 1).f0) ((rd_T61 l1 1).f1) ((rd_T61 l1 1).f2) ((rd_T61 l1 1).f3) ((rd_T61 l1 1).f4) ((rd_T61 l1 2).f0) ((rd_T61 l1 2).f1) ((rd_T61 l1 2).f2) ((rd_T61 l1 2).f3) ((rd_T61 l1 2).f4)).bind fun bt264 => (some (bt264.1, bt264.2))) else (none)) else (if 2 < (l1.length : Int) then ((prop_Pairs_at_num_Mul.f k ((rd_T61 l1 0).f0) ((rd_T61 l1 0).f1) ((rd_T61 l1 0).f2) ((rd_T61 l1 0).f3) ((rd_T61 l1 0).f4) ((rd_T61 l1 1).f0) ((rd_T61 l1 1).f1) ((rd_T61 l1 1).f2) ((rd_T61 l1 1).f3) ((rd_T61 l1 1).f4) ((rd_T61 l1 2).f0) ((rd_T61 l1 2).f1) ((rd_T61 l1 2).f2) ((rd_T61 l1 2).f3) ((rd_T61 l1 2).f4)).bind fun bt271 => (some (bt271.1, bt271.2))) else (none)))))) else (none))) else (none)) else (some (([] : List (S61)), false)))
theorem mul_Filter.mono : ∀ a0 a1 a2 a3 a4 a5 a6 a7 a8 k, LeO (mul_Filter.f k a0 a1 a2 a3 a4 a5 a6 a7 a8) (mul_Filter.f (k + 1) a0 a1 a2 a3 a4 a5 a6 a7 a8) := by
 intro a0 a1 a2 a3 a4 a5 a6 a7 a8 k
 unfold mul_Filter.f
 have m0 := @prop_Fits.mono
 have m1 := @prop_Pairs_at_num_Mul.mono
 have m2 := @prop_Pairs_at_num_Quo.mono
 have m3 := @prop_Pairs_at_num_Rem.mono
 exact leo_
def mul_Filter.T3 : Bool × List (List Nat × List Nat) := (true, [([], []), ([0], [0]), ([1], [1]), ([2], [2]), ([], []), ([4], [4]), ([5], [5]), ([6, 3], [6]), ([3, 7], [3, 7]), ([8], [8])])
def mul_Filter.B3 : List Nat := [0, 1, 3, 7, 0, 16, 48, 127, 255, 511]
theorem mul_Filter.tab3 : rtab .any (opsOf Tryz.f10 3) = mul_Filter.T3 := by kernel_rfl
theorem mul_Filter.bits3 : waitsOk mul_Filter.T3.2 mul_Filter.B3 = true := by kernel_rfl
def mul_Filter.T11 : Bool × List (List Nat × List Nat) := (true, [([], []), ([0], [0]), ([1], [1]), ([], []), ([3], [3]), ([4], [4]), ([], []), ([6], [6]), ([7], [7]), ([], []), ([2, 5, 8, 9], [2, 5, 8, 9]), ([10], [10]), ([10], [10]), ([11, 10, 0, 1, 2, 3, 4, 5, 6, 7, 8, 9, 10, 11, 12], [11]), ([12, 13, 0, 1, 2, 3, 4, 5, 6, 7, 8, 9, 10, 11, 12, 13], [12])])
def mul_Filter.B11 : List Nat := [0, 1, 3, 0, 8, 24, 0, 64, 192, 0, 1023, 2047, 2047, 8191, 16383]
theorem mul_Filter.tab11 : rtab .any (opsOf Tryz.f10 11) = mul_Filter.T11 := by kernel_rfl
theorem mul_Filter.bits11 : waitsOk mul_Filter.T11.2 mul_Filter.B11 = true := by kernel_rfl
set_option maxHeartbeats 8000000 in
set_option maxRecDepth 100000 in
theorem mul_Filter.calls (k : Nat) (a0_0 : Int) (A0_1 : Option Addr) (c0_1 : Nat) (l0_1 : List Int) (A0_2 : Option Addr) (c0_2 : Nat) (l0_2 : List Int) (A0_3 : Option Addr) (c0_3 : Nat) (l0_3 : List Int) (A0_4 : Option Addr) (c0_4 : Nat) (l0_4 : List Int) (A0_5 : Option Addr) (c0_5 : Nat) (l0_5 : List Int) (a0_6 : Int) (A0_7 : Option Addr) (c0_7 : Nat) (l0_7 : List (List Int)) (A1 : Option Addr) (c1 : Nat) (l1 : List (S61)) (r1 : List (S61)) (r2 : Bool) (w : World) (hr0_1 : Kd.C (Kd.int .i64) w A0_1 l0_1.length l0_1) (hc0_1 : l0_1.length ≤ c0_1) (hr0_2 : Kd.C (Kd.int .i64) w A0_2 l0_2.length l0_2) (hc0_2 : l0_2.length ≤ c0_2) (hr0_3 : Kd.C (Kd.int .i64) w A0_3 l0_3.length l0_3) (hc0_3 : l0_3.length ≤ c0_3) (hr0_4 : Kd.C (Kd.int .i64) w A0_4 l0_4.length l0_4) (hc0_4 : l0_4.length ≤ c0_4) (hr0_5 : Kd.C (Kd.int .i64) w A0_5 l0_5.length l0_5) (hc0_5 : l0_5.length ≤ c0_5) (hr0_7 : Kd.C (Kd.slice 3 (Kd.int .i64)) w A0_7 l0_7.length l0_7) (hc0_7 : l0_7.length ≤ c0_7) (hr1 : Kd.C k61 w A1 l1.length l1) (hc1 : l1.length ≤ c1) (hrtab : Kd.C (Kd.int .u8) w (some ⟨0, 0, none⟩) tabL.length tabL) (h : mul_Filter.f k a0_0 l0_1 l0_2 l0_3 l0_4 l0_5 a0_6 l0_7 l1 = some (r1, r2)) :
  Calls Tryz.prog 10 #[.agg #[.int .i64 a0_0, .slice A0_1 l0_1.length c0_1, .slice A0_2 l0_2.length c0_2, .slice A0_3 l0_3.length c0_3, .slice A0_4 l0_4.length c0_4, .slice A0_5 l0_5.length c0_5, .int .i64 a0_6, .slice A0_7 l0_7.length c0_7], .slice A1 l1.length c1] w fun e w' => ∃ v0_ : Value, e = .returned (.tuple #[v0_, .bool r2]) ∧ Kd.N k61 61 w' w.heap.size (fun k_ => (w.heap.size ≤ k_)) v0_ r1 ∧ Below w.heap.size w w' := by
 have hu32 := Tryz.underlying32
 have hu61 := Tryz.underlying61
 have HR0_1 := Aside0.mk hr0_1
 have HC0_1 := Aside0.mk hc0_1
 clear hr0_1 hc0_1
 have HR0_2 := Aside0.mk hr0_2
 have HC0_2 := Aside0.mk hc0_2
 clear hr0_2 hc0_2
 have HR0_3 := Aside0.mk hr0_3
 have HC0_3 := Aside0.mk hc0_3
 clear hr0_3 hc0_3
 have HR0_4 := Aside0.mk hr0_4
 have HC0_4 := Aside0.mk hc0_4
 clear hr0_4 hc0_4
 have HR0_5 := Aside0.mk hr0_5
 have HC0_5 := Aside0.mk hc0_5
 clear hr0_5 hc0_5
 have HR0_7 := Aside0.mk hr0_7
 have HC0_7 := Aside0.mk hc0_7
 clear hr0_7 hc0_7
 have HR1 := Aside0.mk hr1
 have HC1 := Aside0.mk hc1
 clear hr1 hc1
 have HRtab := Aside0.mk hrtab
 clear hrtab
 have HB := Aside0.mk (Below.refl w.heap.size w)
 have H : ((prop_Fits.f k a0_0 l0_1 l0_2 l0_3 l0_4 l0_5 a0_6 l0_7 l1 5 7).bind fun t249 => (if t249 = true then (if 0 < (l1.length : Int) then ((dom_Dom_Size.f ((rd_T61 l1 0).f0) ((rd_T61 l1 0).f1) ((rd_T61 l1 0).f2) ((rd_T61 l1 0).f3) ((rd_T61 l1 0).f4)).bind fun t251 => (if 1 < (l1.length : Int) then ((dom_Dom_Size.f ((rd_T61 l1 1).f0) ((rd_T61 l1 1).f1) ((rd_T61 l1 1).f2) ((rd_T61 l1 1).f3) ((rd_T61 l1 1).f4)).bind fun t253 => (if (wrap64 (t251 * t253)) > 4096 then (none) else (if a0_0 = 6 then (if 2 < (l1.length : Int) then ((prop_Pairs_at_num_Quo.f k ((rd_T61 l1 0).f0) ((rd_T61 l1 0).f1) ((rd_T61 l1 0).f2) ((rd_T61 l1 0).f3) ((rd_T61 l1 0).f4) ((rd_T61 l1 1).f0) ((rd_T61 l1 1).f1) ((rd_T61 l1 1).f2) ((rd_T61 l1 1).f3) ((rd_T61 l1 1).f4) ((rd_T61 l1 2).f0) ((rd_T61 l1 2).f1) ((rd_T61 l1 2).f2) ((rd_T61 l1 2).f3) ((rd_T61 l1 2).f4)).bind fun bt257 => (some (bt257.1, bt257.2))) else (none)) else (if a0_0 = 7 then (if 2 < (l1.length : Int) then ((prop_Pairs_at_num_Rem.f k ((rd_T61 l1 0).f0) ((rd_T61 l1 0).f1) ((rd_T61 l1 0).f2) ((rd_T61 l1 0).f3) ((rd_T61 l1 0).f4) ((rd_T61 l1 1).f0) ((rd_T61 l1 1).f1) ((rd_T61 l1 1).f2) ((rd_T61 l1 1).f3) ((rd_T61 l1 1).f4) ((rd_T61 l1 2).f0) ((rd_T61 l1 2).f1) ((rd_T61 l1 2).f2) ((rd_T61 l1 2).f3) ((rd_T61 l1 2).f4)).bind fun bt264 => (some (bt264.1, bt264.2))) else (none)) else (if 2 < (l1.length : Int) then ((prop_Pairs_at_num_Mul.f k ((rd_T61 l1 0).f0) ((rd_T61 l1 0).f1) ((rd_T61 l1 0).f2) ((rd_T61 l1 0).f3) ((rd_T61 l1 0).f4) ((rd_T61 l1 1).f0) ((rd_T61 l1 1).f1) ((rd_T61 l1 1).f2) ((rd_T61 l1 1).f3) ((rd_T61 l1 1).f4) ((rd_T61 l1 2).f0) ((rd_T61 l1 2).f1) ((rd_T61 l1 2).f2) ((rd_T61 l1 2).f3) ((rd_T61 l1 2).f4)).bind fun bt271 => (some (bt271.1, bt271.2))) else (none)))))) else (none))) else (none)) else (some (([] : List (S61)), false)))) = some (r1, r2) := h
 clear h
 replace H := Option.bind_eq_some_iff.mp H
 obtain ⟨t249, A30, H⟩ := H
 replace H : (if t249 = true then (if 0 < (l1.length : Int) then ((dom_Dom_Size.f ((rd_T61 l1 0).f0) ((rd_T61 l1 0).f1) ((rd_T61 l1 0).f2) ((rd_T61 l1 0).f3) ((rd_T61 l1 0).f4)).bind fun t251 => (if 1 < (l1.length : Int) then ((dom_Dom_Size.f ((rd_T61 l1 1).f0) ((rd_T61 l1 1).f1) ((rd_T61 l1 1).f2) ((rd_T61 l1 1).f3) ((rd_T61 l1 1).f4)).bind fun t253 => (if (wrap64 (t251 * t253)) > 4096 then (none) else (if a0_0 = 6 then (if 2 < (l1.length : Int) then ((prop_Pairs_at_num_Quo.f k ((rd_T61 l1 0).f0) ((rd_T61 l1 0).f1) ((rd_T61 l1 0).f2) ((rd_T61 l1 0).f3) ((rd_T61 l1 0).f4) ((rd_T61 l1 1).f0) ((rd_T61 l1 1).f1) ((rd_T61 l1 1).f2) ((rd_T61 l1 1).f3) ((rd_T61 l1 1).f4) ((rd_T61 l1 2).f0) ((rd_T61 l1 2).f1) ((rd_T61 l1 2).f2) ((rd_T61 l1 2).f3) ((rd_T61 l1 2).f4)).bind fun bt257 => (some (bt257.1, bt257.2))) else (none)) else (if a0_0 = 7 then (if 2 < (l1.length : Int) then ((prop_Pairs_at_num_Rem.f k ((rd_T61 l1 0).f0) ((rd_T61 l1 0).f1) ((rd_T61 l1 0).f2) ((rd_T61 l1 0).f3) ((rd_T61 l1 0).f4) ((rd_T61 l1 1).f0) ((rd_T61 l1 1).f1) ((rd_T61 l1 1).f2) ((rd_T61 l1 1).f3) ((rd_T61 l1 1).f4) ((rd_T61 l1 2).f0) ((rd_T61 l1 2).f1) ((rd_T61 l1 2).f2) ((rd_T61 l1 2).f3) ((rd_T61 l1 2).f4)).bind fun bt264 => (some (bt264.1, bt264.2))) else (none)) else (if 2 < (l1.length : Int) then ((prop_Pairs_at_num_Mul.f k ((rd_T61 l1 0).f0) ((rd_T61 l1 0).f1) ((rd_T61 l1 0).f2) ((rd_T61 l1 0).f3) ((rd_T61 l1 0).f4) ((rd_T61 l1 1).f0) ((rd_T61 l1 1).f1) ((rd_T61 l1 1).f2) ((rd_T61 l1 1).f3) ((rd_T61 l1 1).f4) ((rd_T61 l1 2).f0) ((rd_T61 l1 2).f1) ((rd_T61 l1 2).f2) ((rd_T61 l1 2).f3) ((rd_T61 l1 2).f4)).bind fun bt271 => (some (bt271.1, bt271.2))) else (none)))))) else (none))) else (none)) else (some (([] : List (S61)), false))) = some (r1, r2) := H
 have A3 := Aside0.mk A30
 clear A30
 by_cases c4 : t249 = true
 ·
  subst c4
  have H1 : (if 0 < (l1.length : Int) then ((dom_Dom_Size.f ((rd_T61 l1 0).f0) ((rd_T61 l1 0).f1) ((rd_T61 l1 0).f2) ((rd_T61 l1 0).f3) ((rd_T61 l1 0).f4)).bind fun t251 => (if 1 < (l1.length : Int) then ((dom_Dom_Size.f ((rd_T61 l1 1).f0) ((rd_T61 l1 1).f1) ((rd_T61 l1 1).f2) ((rd_T61 l1 1).f3) ((rd_T61 l1 1).f4)).bind fun t253 => (if (wrap64 (t251 * t253)) > 4096 then (none) else (if a0_0 = 6 then (if 2 < (l1.length : Int) then ((prop_Pairs_at_num_Quo.f k ((rd_T61 l1 0).f0) ((rd_T61 l1 0).f1) ((rd_T61 l1 0).f2) ((rd_T61 l1 0).f3) ((rd_T61 l1 0).f4) ((rd_T61 l1 1).f0) ((rd_T61 l1 1).f1) ((rd_T61 l1 1).f2) ((rd_T61 l1 1).f3) ((rd_T61 l1 1).f4) ((rd_T61 l1 2).f0) ((rd_T61 l1 2).f1) ((rd_T61 l1 2).f2) ((rd_T61 l1 2).f3) ((rd_T61 l1 2).f4)).bind fun bt257 => (some (bt257.1, bt257.2))) else (none)) else (if a0_0 = 7 then (if 2 < (l1.length : Int) then ((prop_Pairs_at_num_Rem.f k ((rd_T61 l1 0).f0) ((rd_T61 l1 0).f1) ((rd_T61 l1 0).f2) ((rd_T61 l1 0).f3) ((rd_T61 l1 0).f4) ((rd_T61 l1 1).f0) ((rd_T61 l1 1).f1) ((rd_T61 l1 1).f2) ((rd_T61 l1 1).f3) ((rd_T61 l1 1).f4) ((rd_T61 l1 2).f0) ((rd_T61 l1 2).f1) ((rd_T61 l1 2).f2) ((rd_T61 l1 2).f3) ((rd_T61 l1 2).f4)).bind fun bt264 => (some (bt264.1, bt264.2))) else (none)) else (if 2 < (l1.length : Int) then ((prop_Pairs_at_num_Mul.f k ((rd_T61 l1 0).f0) ((rd_T61 l1 0).f1) ((rd_T61 l1 0).f2) ((rd_T61 l1 0).f3) ((rd_T61 l1 0).f4) ((rd_T61 l1 1).f0) ((rd_T61 l1 1).f1) ((rd_T61 l1 1).f2) ((rd_T61 l1 1).f3) ((rd_T61 l1 1).f4) ((rd_T61 l1 2).f0) ((rd_T61 l1 2).f1) ((rd_T61 l1 2).f2) ((rd_T61 l1 2).f3) ((rd_T61 l1 2).f4)).bind fun bt271 => (some (bt271.1, bt271.2))) else (none)))))) else (none))) else (none)) = some (r1, r2) := by rw [if_pos rfl] at H; exact H
  clear H
  have H := H1
  clear H1
  by_cases c5 : 0 < (l1.length : Int)
  ·
   rw [if_pos c5] at H
   have c5b0 : decide (0 < (l1.length : Int)) = true := decide_eq_true c5
   have c5b1 : decide (0 < l1.length) = true := decide_eq_true (by omega)
   clear c5
   replace H := Option.bind_eq_some_iff.mp H
   obtain ⟨t251, A60, H⟩ := H
   replace H : (if 1 < (l1.length : Int) then ((dom_Dom_Size.f ((rd_T61 l1 1).f0) ((rd_T61 l1 1).f1) ((rd_T61 l1 1).f2) ((rd_T61 l1 1).f3) ((rd_T61 l1 1).f4)).bind fun t253 => (if (wrap64 (t251 * t253)) > 4096 then (none) else (if a0_0 = 6 then (if 2 < (l1.length : Int) then ((prop_Pairs_at_num_Quo.f k ((rd_T61 l1 0).f0) ((rd_T61 l1 0).f1) ((rd_T61 l1 0).f2) ((rd_T61 l1 0).f3) ((rd_T61 l1 0).f4) ((rd_T61 l1 1).f0) ((rd_T61 l1 1).f1) ((rd_T61 l1 1).f2) ((rd_T61 l1 1).f3) ((rd_T61 l1 1).f4) ((rd_T61 l1 2).f0) ((rd_T61 l1 2).f1) ((rd_T61 l1 2).f2) ((rd_T61 l1 2).f3) ((rd_T61 l1 2).f4)).bind fun bt257 => (some (bt257.1, bt257.2))) else (none)) else (if a0_0 = 7 then (if 2 < (l1.length : Int) then ((prop_Pairs_at_num_Rem.f k ((rd_T61 l1 0).f0) ((rd_T61 l1 0).f1) ((rd_T61 l1 0).f2) ((rd_T61 l1 0).f3) ((rd_T61 l1 0).f4) ((rd_T61 l1 1).f0) ((rd_T61 l1 1).f1) ((rd_T61 l1 1).f2) ((rd_T61 l1 1).f3) ((rd_T61 l1 1).f4) ((rd_T61 l1 2).f0) ((rd_T61 l1 2).f1) ((rd_T61 l1 2).f2) ((rd_T61 l1 2).f3) ((rd_T61 l1 2).f4)).bind fun bt264 => (some (bt264.1, bt264.2))) else (none)) else (if 2 < (l1.length : Int) then ((prop_Pairs_at_num_Mul.f k ((rd_T61 l1 0).f0) ((rd_T61 l1 0).f1) ((rd_T61 l1 0).f2) ((rd_T61 l1 0).f3) ((rd_T61 l1 0).f4) ((rd_T61 l1 1).f0) ((rd_T61 l1 1).f1) ((rd_T61 l1 1).f2) ((rd_T61 l1 1).f3) ((rd_T61 l1 1).f4) ((rd_T61 l1 2).f0) ((rd_T61 l1 2).f1) ((rd_T61 l1 2).f2) ((rd_T61 l1 2).f3) ((rd_T61 l1 2).f4)).bind fun bt271 => (some (bt271.1, bt271.2))) else (none)))))) else (none)) = some (r1, r2) := H
   have A6 := Aside0.mk A60
   clear A60
   by_cases c7 : 1 < (l1.length : Int)
   ·
    rw [if_pos c7] at H
    have c7b0 : decide (1 < (l1.length : Int)) = true := decide_eq_true c7
    have c7b1 : decide (1 < l1.length) = true := decide_eq_true (by omega)
    clear c7
    replace H := Option.bind_eq_some_iff.mp H
    obtain ⟨t253, A80, H⟩ := H
    replace H : (if (wrap64 (t251 * t253)) > 4096 then (none) else (if a0_0 = 6 then (if 2 < (l1.length : Int) then ((prop_Pairs_at_num_Quo.f k ((rd_T61 l1 0).f0) ((rd_T61 l1 0).f1) ((rd_T61 l1 0).f2) ((rd_T61 l1 0).f3) ((rd_T61 l1 0).f4) ((rd_T61 l1 1).f0) ((rd_T61 l1 1).f1) ((rd_T61 l1 1).f2) ((rd_T61 l1 1).f3) ((rd_T61 l1 1).f4) ((rd_T61 l1 2).f0) ((rd_T61 l1 2).f1) ((rd_T61 l1 2).f2) ((rd_T61 l1 2).f3) ((rd_T61 l1 2).f4)).bind fun bt257 => (some (bt257.1, bt257.2))) else (none)) else (if a0_0 = 7 then (if 2 < (l1.length : Int) then ((prop_Pairs_at_num_Rem.f k ((rd_T61 l1 0).f0) ((rd_T61 l1 0).f1) ((rd_T61 l1 0).f2) ((rd_T61 l1 0).f3) ((rd_T61 l1 0).f4) ((rd_T61 l1 1).f0) ((rd_T61 l1 1).f1) ((rd_T61 l1 1).f2) ((rd_T61 l1 1).f3) ((rd_T61 l1 1).f4) ((rd_T61 l1 2).f0) ((rd_T61 l1 2).f1) ((rd_T61 l1 2).f2) ((rd_T61 l1 2).f3) ((rd_T61 l1 2).f4)).bind fun bt264 => (some (bt264.1, bt264.2))) else (none)) else (if 2 < (l1.length : Int) then ((prop_Pairs_at_num_Mul.f k ((rd_T61 l1 0).f0) ((rd_T61 l1 0).f1) ((rd_T61 l1 0).f2) ((rd_T61 l1 0).f3) ((rd_T61 l1 0).f4) ((rd_T61 l1 1).f0) ((rd_T61 l1 1).f1) ((rd_T61 l1 1).f2) ((rd_T61 l1 1).f3) ((rd_T61 l1 1).f4) ((rd_T61 l1 2).f0) ((rd_T61 l1 2).f1) ((rd_T61 l1 2).f2) ((rd_T61 l1 2).f3) ((rd_T61 l1 2).f4)).bind fun bt271 => (some (bt271.1, bt271.2))) else (none))))) = some (r1, r2) := H
    have A8 := Aside0.mk A80
    clear A80
    by_cases c9 : (wrap64 (t251 * t253)) > 4096
    ·
     rw [if_pos c9] at H
     exact absurd H (by simp)
    ·
     rw [if_neg c9] at H
     have c9b0 : decide (4096 < (wrap64 (t251 * t253))) = false := decide_eq_false c9
     clear c9
     by_cases c10 : a0_0 = 6
     ·
      rw [if_pos c10] at H
      have c10b0 : (a0_0 == 6) = true := beq_iff_eq.mpr c10
      have c10b1 : (a0_0 != 6) = false := bne_eq_false_iff_eq.mpr c10
      clear c10
      by_cases c11 : 2 < (l1.length : Int)
      ·
       rw [if_pos c11] at H
       have c11b0 : decide (2 < (l1.length : Int)) = true := decide_eq_true c11
       have c11b1 : decide (2 < l1.length) = true := decide_eq_true (by omega)
       clear c11
       replace H := Option.bind_eq_some_iff.mp H
       obtain ⟨⟨t257, t260⟩, A120, H⟩ := H
       replace H : (some (t257, t260)) = some (r1, r2) := H
       have A12 := Aside0.mk A120
       clear A120
       simp only [Option.some.injEq, Prod.mk.injEq] at H
       obtain ⟨rfl, rfl⟩ := H
       go_enter Tryz.func10, Tryz.ntmps10
       try go_wp2_with (first | ((with_reducible refine gate_dst (N := 2) rfl ?_); refine bxe_ (N := 2) (cs := #[.int .i64 a0_0, .slice A0_1 l0_1.length c0_1, .slice A0_2 l0_2.length c0_2, .slice A0_3 l0_3.length c0_3, .slice A0_4 l0_4.length c0_4, .slice A0_5 l0_5.length c0_5, .int .i64 a0_6, .slice A0_7 l0_7.length c0_7]) (t := 32) ?_; intro gb248 hg w13 hbox hb; have BK248 := Aside0.mk (hbox); have GW248 := Aside0.mk (by rw [hg]; exact (below_size bel_) : w.heap.size ≤ gb248); have GE248 := GW248; replace HB := Aside0.mk (below_step bel_ hb); clear hb hbox hg; obtain ⟨_, _, _, _, _, _, _, _, _, _, _, _, _, _, _, _⟩ := cel8_ BK248.out) | ((with_reducible refine gate_callee (f := 27) rfl ?_); refine goesL_ (some 9) rfl rfl Tryz.func27 (by kernel_rfl) rfl #[.agg #[.int .i64 a0_0, .slice A0_1 l0_1.length c0_1, .slice A0_2 l0_2.length c0_2, .slice A0_3 l0_3.length c0_3, .slice A0_4 l0_4.length c0_4, .slice A0_5 l0_5.length c0_5, .int .i64 a0_6, .slice A0_7 l0_7.length c0_7], .slice A1 l1.length c1, .int .i64 5, .int .i64 7] rfl ar_ ?_; (with_reducible refine (prop_Fits.calls k a0_0 _ _ l0_1 _ _ l0_2 _ _ l0_3 _ _ l0_4 _ _ l0_5 a0_6 _ _ l0_7 _ _ l1 5 7 true _ ?_ ?_ ?_ ?_ ?_ ?_ ?_ ?_ ?_ ?_ ?_ ?_ ?_ ?_ A3.out).mono ?_); exact ca_ ((Kd.C_below HR0_1.out HB.out)); exact HC0_1.out; exact ca_ ((Kd.C_below HR0_2.out HB.out)); exact HC0_2.out; exact ca_ ((Kd.C_below HR0_3.out HB.out)); exact HC0_3.out; exact ca_ ((Kd.C_below HR0_4.out HB.out)); exact HC0_4.out; exact ca_ ((Kd.C_below HR0_5.out HB.out)); exact HC0_5.out; exact ca_ ((Kd.C_below HR0_7.out HB.out)); exact HC0_7.out; exact ca_ ((Kd.C_below HR1.out HB.out)); exact HC1.out; rintro e w15 ⟨rfl, hb⟩; refine ⟨_, rfl, ?_⟩; replace BK248 := Aside0.mk (blk_below (bk_ BK248.out) hb); replace HB := Aside0.mk (below_step bel_ hb); clear hb))
       replace BK248 := Aside0.mk (blk_drew BK248.out)
       replace HB := Aside0.mk (below_drew1 HB.out)
       have p250 : 0 ≤ (0 : Int) := (by omega)
       have q250 : 0 < (l1.length : Int) := dq_
       obtain ⟨ad250, A250_1, c250_1, e250, hx250_0, hx250_1, hx250_2, hx250_3, hx250_4, hl250_1, hi250_1⟩ := at_T61 HR1.out 0 p250 q250
       have hw250_4 := hx250_4
       (try rw [show ((0 : Int)).toNat = 0 from rfl] at hw250_4)
       (try rw [show 0 * 5 = 0 from rfl] at hw250_4)
       (try rw [Addr.add_zero'] at hw250_4)
       have hw250_3 := hx250_3
       (try rw [show ((0 : Int)).toNat = 0 from rfl] at hw250_3)
       (try rw [show 0 * 5 = 0 from rfl] at hw250_3)
       (try rw [Addr.add_zero'] at hw250_3)
       have hw250_2 := hx250_2
       (try rw [show ((0 : Int)).toNat = 0 from rfl] at hw250_2)
       (try rw [show 0 * 5 = 0 from rfl] at hw250_2)
       (try rw [Addr.add_zero'] at hw250_2)
       have hw250_1 := hx250_1
       (try rw [show ((0 : Int)).toNat = 0 from rfl] at hw250_1)
       (try rw [show 0 * 5 = 0 from rfl] at hw250_1)
       (try rw [Addr.add_zero'] at hw250_1)
       have hw250_0 := hx250_0
       (try rw [show ((0 : Int)).toNat = 0 from rfl] at hw250_0)
       (try rw [show 0 * 5 = 0 from rfl] at hw250_0)
       (try rw [Addr.add_zero'] at hw250_0)
       cases e250
       have qi250 : (0 < l1.length) = True := eq_true (by omega)
       (try rw [show ((0 : Int)).toNat = 0 from rfl] at hx250_0)
       (try rw [show 0 * 5 = 0 from rfl] at hx250_0)
       (try rw [Addr.add_zero'] at hx250_0)
       (try rw [show ((0 : Int)).toNat = 0 from rfl] at hx250_1)
       (try rw [show 0 * 5 = 0 from rfl] at hx250_1)
       (try rw [Addr.add_zero'] at hx250_1)
       (try rw [show ((0 : Int)).toNat = 0 from rfl] at hx250_2)
       (try rw [show 0 * 5 = 0 from rfl] at hx250_2)
       (try rw [Addr.add_zero'] at hx250_2)
       (try rw [show ((0 : Int)).toNat = 0 from rfl] at hx250_3)
       (try rw [show 0 * 5 = 0 from rfl] at hx250_3)
       (try rw [Addr.add_zero'] at hx250_3)
       (try rw [show ((0 : Int)).toNat = 0 from rfl] at hx250_4)
       (try rw [show 0 * 5 = 0 from rfl] at hx250_4)
       (try rw [Addr.add_zero'] at hx250_4)
       replace hx250_0 := (HB.out.cell (World.block_lt_of_cell? w _ hx250_0)).trans hx250_0
       replace hx250_1 := (HB.out.cell (World.block_lt_of_cell? w _ hx250_1)).trans hx250_1
       replace hx250_2 := (HB.out.cell (World.block_lt_of_cell? w _ hx250_2)).trans hx250_2
       replace hx250_3 := (HB.out.cell (World.block_lt_of_cell? w _ hx250_3)).trans hx250_3
       replace hx250_4 := (HB.out.cell (World.block_lt_of_cell? w _ hx250_4)).trans hx250_4
       have HR250_1 := Aside0.mk hi250_1
       have HC250_1 := Aside0.mk hl250_1
       clear hi250_1 hl250_1
       replace p250 := eq_true p250
       replace q250 := eq_true q250
       have p252 : 0 ≤ (1 : Int) := (by omega)
       have q252 : 1 < (l1.length : Int) := dq_
       obtain ⟨ad252, A252_1, c252_1, e252, hx252_0, hx252_1, hx252_2, hx252_3, hx252_4, hl252_1, hi252_1⟩ := at_T61 HR1.out 1 p252 q252
       have hw252_4 := hx252_4
       (try rw [show ((1 : Int)).toNat = 1 from rfl] at hw252_4)
       (try rw [show 1 * 5 = 5 from rfl] at hw252_4)
       (try simp only [Nat.reduceMul, Nat.reduceEqDiff, Go.Addr.add, ↓reduceIte] at hw252_4)
       have hw252_3 := hx252_3
       (try rw [show ((1 : Int)).toNat = 1 from rfl] at hw252_3)
       (try rw [show 1 * 5 = 5 from rfl] at hw252_3)
       (try simp only [Nat.reduceMul, Nat.reduceEqDiff, Go.Addr.add, ↓reduceIte] at hw252_3)
       have hw252_2 := hx252_2
       (try rw [show ((1 : Int)).toNat = 1 from rfl] at hw252_2)
       (try rw [show 1 * 5 = 5 from rfl] at hw252_2)
       (try simp only [Nat.reduceMul, Nat.reduceEqDiff, Go.Addr.add, ↓reduceIte] at hw252_2)
       have hw252_1 := hx252_1
       (try rw [show ((1 : Int)).toNat = 1 from rfl] at hw252_1)
       (try rw [show 1 * 5 = 5 from rfl] at hw252_1)
       (try simp only [Nat.reduceMul, Nat.reduceEqDiff, Go.Addr.add, ↓reduceIte] at hw252_1)
       have hw252_0 := hx252_0
       (try rw [show ((1 : Int)).toNat = 1 from rfl] at hw252_0)
       (try rw [show 1 * 5 = 5 from rfl] at hw252_0)
       (try simp only [Nat.reduceMul, Nat.reduceEqDiff, Go.Addr.add, ↓reduceIte] at hw252_0)
       obtain rfl : ad250 = ad252 := (by injection e252)
       (try simp only [show (1 : Int).toNat = 1 from rfl, Nat.reduceMul, Nat.reduceEqDiff, Go.Addr.add, ↓reduceIte] at hx252_0)
       (try simp only [show (1 : Int).toNat = 1 from rfl, Nat.reduceMul, Nat.reduceEqDiff, Go.Addr.add, ↓reduceIte] at hx252_1)
       (try simp only [show (1 : Int).toNat = 1 from rfl, Nat.reduceMul, Nat.reduceEqDiff, Go.Addr.add, ↓reduceIte] at hx252_2)
       (try simp only [show (1 : Int).toNat = 1 from rfl, Nat.reduceMul, Nat.reduceEqDiff, Go.Addr.add, ↓reduceIte] at hx252_3)
       (try simp only [show (1 : Int).toNat = 1 from rfl, Nat.reduceMul, Nat.reduceEqDiff, Go.Addr.add, ↓reduceIte] at hx252_4)
       have qi252 : (1 < l1.length) = True := eq_true (by omega)
       (try rw [show ((1 : Int)).toNat = 1 from rfl] at hx252_0)
       (try rw [show 1 * 5 = 5 from rfl] at hx252_0)
       (try rw [show ((1 : Int)).toNat = 1 from rfl] at hx252_1)
       (try rw [show 1 * 5 = 5 from rfl] at hx252_1)
       (try rw [show ((1 : Int)).toNat = 1 from rfl] at hx252_2)
       (try rw [show 1 * 5 = 5 from rfl] at hx252_2)
       (try rw [show ((1 : Int)).toNat = 1 from rfl] at hx252_3)
       (try rw [show 1 * 5 = 5 from rfl] at hx252_3)
       (try rw [show ((1 : Int)).toNat = 1 from rfl] at hx252_4)
       (try rw [show 1 * 5 = 5 from rfl] at hx252_4)
       replace hx252_0 := (HB.out.cell (World.block_lt_of_cell? w _ hx252_0)).trans hx252_0
       replace hx252_1 := (HB.out.cell (World.block_lt_of_cell? w _ hx252_1)).trans hx252_1
       replace hx252_2 := (HB.out.cell (World.block_lt_of_cell? w _ hx252_2)).trans hx252_2
       replace hx252_3 := (HB.out.cell (World.block_lt_of_cell? w _ hx252_3)).trans hx252_3
       replace hx252_4 := (HB.out.cell (World.block_lt_of_cell? w _ hx252_4)).trans hx252_4
       have HR252_1 := Aside0.mk hi252_1
       have HC252_1 := Aside0.mk hl252_1
       clear hi252_1 hl252_1
       replace p252 := eq_true p252
       replace q252 := eq_true q252
       refine start_ (n := 10) (S := fun w' => w'.cell? ad250 = some (.int .i64 ((rd_T61 l1 0).f0)) ∧ w'.cell? ⟨ad250.block, ad250.off + 1, none⟩ = some (.slice A250_1 ((rd_T61 l1 0).f1).length c250_1) ∧ w'.cell? ⟨ad250.block, ad250.off + 2, none⟩ = some (.int .i64 ((rd_T61 l1 0).f2)) ∧ w'.cell? ⟨ad250.block, ad250.off + 3, none⟩ = some (.int .i64 ((rd_T61 l1 0).f3)) ∧ w'.cell? ⟨ad250.block, ad250.off + 4, none⟩ = some (.int .i64 ((rd_T61 l1 0).f4)) ∧ w'.cell? ⟨ad250.block, ad250.off + 5, none⟩ = some (.int .i64 ((rd_T61 l1 1).f0)) ∧ w'.cell? ⟨ad250.block, ad250.off + 5 + 1, none⟩ = some (.slice A252_1 ((rd_T61 l1 1).f1).length c252_1) ∧ w'.cell? ⟨ad250.block, ad250.off + 5 + 2, none⟩ = some (.int .i64 ((rd_T61 l1 1).f2)) ∧ w'.cell? ⟨ad250.block, ad250.off + 5 + 3, none⟩ = some (.int .i64 ((rd_T61 l1 1).f3)) ∧ w'.cell? ⟨ad250.block, ad250.off + 5 + 4, none⟩ = some (.int .i64 ((rd_T61 l1 1).f4))) (ds := []) #[false, false, false, false, false, false, false, false, false, false] (by kernel_rfl) rfl rfl ⟨((HB.out.cell (World.block_lt_of_cell? w _ hw250_0)).trans hw250_0), ((HB.out.cell (World.block_lt_of_cell? w _ hw250_1)).trans hw250_1), ((HB.out.cell (World.block_lt_of_cell? w _ hw250_2)).trans hw250_2), ((HB.out.cell (World.block_lt_of_cell? w _ hw250_3)).trans hw250_3), ((HB.out.cell (World.block_lt_of_cell? w _ hw250_4)).trans hw250_4), ((HB.out.cell (World.block_lt_of_cell? w _ hw252_0)).trans hw252_0), ((HB.out.cell (World.block_lt_of_cell? w _ hw252_1)).trans hw252_1), ((HB.out.cell (World.block_lt_of_cell? w _ hw252_2)).trans hw252_2), ((HB.out.cell (World.block_lt_of_cell? w _ hw252_3)).trans hw252_3), ((HB.out.cell (World.block_lt_of_cell? w _ hw252_4)).trans hw252_4)⟩ (fun hHeld => ?_); refine with_tabW mul_Filter.tab3 mul_Filter.bits3 (fun HT_ HW_ => ?_)
       generalize w15.drew = w16 at BK248 HB HR250_1 HR252_1 hx250_0 hx250_1 hx250_2 hx250_3 hx250_4 hx252_0 hx252_1 hx252_2 hx252_3 hx252_4 hHeld ⊢
       refine pur_ (i := 0) (N := some 11) #[true, false, false, false, false, false, false, false, false, false] (any_of HT_.out (by kernel_rfl)) ?_
       refine pur_ (i := 1) (N := some 12) #[true, true, false, false, false, false, false, false, false, false] (any_of HT_.out (by kernel_rfl)) ?_
       refine pur_ (i := 4) (N := some 15) #[true, true, false, false, true, false, false, false, false, false] (any_of HT_.out (by kernel_rfl)) ?_
       refine pur_ (i := 5) (N := some 16) #[true, true, false, false, true, true, false, false, false, false] (any_of HT_.out (by kernel_rfl)) ?_
       refine take_ (i := 2) (N := some 13) (v := ?_) (a' := ?_) #[true, true, true, false, true, true, false, false, false, false] rfl rfl (take_ofW HT_.out HW_.out (by kernel_rfl)) (fun _ _ _ h => h) (Or.inl ⟨by rfl, ?_⟩) hHeld ?_ ?_
       rotate_left
       ·
        rintro w' ⟨s0, s1, s2, s3, s4, s5, s6, s7, s8, s9⟩
        go_simp
        with_reducible rfl
       rotate_left
       ·
        simp only [Act.put, List.setIfInBounds_toArray, List.set_cons_zero, List.set_cons_succ, i64_w, i32_w]
        rfl
       refine take_ (i := 6) (N := some 17) (v := ?_) (a' := ?_) #[true, true, true, false, true, true, true, false, false, false] rfl rfl (take_ofW HT_.out HW_.out (by kernel_rfl)) (fun _ _ _ h => h) (Or.inl ⟨by rfl, ?_⟩) hHeld ?_ ?_
       rotate_left
       ·
        rintro w' ⟨s0, s1, s2, s3, s4, s5, s6, s7, s8, s9⟩
        go_simp
        with_reducible rfl
       rotate_left
       ·
        simp only [Act.put, List.setIfInBounds_toArray, List.set_cons_zero, List.set_cons_succ, i64_w, i32_w]
        rfl
       refine one_ (i := 3) (N := some 14) #[true, true, true, true, true, true, true, false, false, false] rfl rfl (one_of HT_.out (by kernel_rfl)) (by decide) (fun K hK => ?_)
       refine goes_ Tryz.func28 (by kernel_rfl) rfl #[.agg #[.int .i64 ((rd_T61 l1 0).f0), .slice A250_1 ((rd_T61 l1 0).f1).length c250_1, .int .i64 ((rd_T61 l1 0).f2), .int .i64 ((rd_T61 l1 0).f3), .int .i64 ((rd_T61 l1 0).f4)]] (by rfl) rfl rfl ar_ ?_
       with_reducible refine (dom_Dom_Size.calls ((rd_T61 l1 0).f0) _ _ ((rd_T61 l1 0).f1) ((rd_T61 l1 0).f2) ((rd_T61 l1 0).f3) ((rd_T61 l1 0).f4) t251 _ ?_ ?_ A6.out).mono ?_
       exact ca_ ((Kd.C_below HR250_1.out HB.out))
       exact HC250_1.out
       rintro e w17 ⟨rfl, hb⟩
       refine ⟨_, rfl, ?_⟩
       replace BK248 := Aside0.mk (blk_below (bk_ BK248.out) hb)
       replace HB := Aside0.mk (below_step bel_ hb)
       clear hb
       refine hK.out _ _ ⟨((HB.out.cell (World.block_lt_of_cell? w _ hw250_0)).trans hw250_0), ((HB.out.cell (World.block_lt_of_cell? w _ hw250_1)).trans hw250_1), ((HB.out.cell (World.block_lt_of_cell? w _ hw250_2)).trans hw250_2), ((HB.out.cell (World.block_lt_of_cell? w _ hw250_3)).trans hw250_3), ((HB.out.cell (World.block_lt_of_cell? w _ hw250_4)).trans hw250_4), ((HB.out.cell (World.block_lt_of_cell? w _ hw252_0)).trans hw252_0), ((HB.out.cell (World.block_lt_of_cell? w _ hw252_1)).trans hw252_1), ((HB.out.cell (World.block_lt_of_cell? w _ hw252_2)).trans hw252_2), ((HB.out.cell (World.block_lt_of_cell? w _ hw252_3)).trans hw252_3), ((HB.out.cell (World.block_lt_of_cell? w _ hw252_4)).trans hw252_4)⟩ (fun hHeld => ?_)
       clear hK K
       refine nor_ (N := some 14) ?_
       refine one_ (i := 7) (N := some 18) #[true, true, true, true, true, true, true, true, false, false] rfl rfl (one_of HT_.out (by kernel_rfl)) (by decide) (fun K hK => ?_)
       refine goes_ Tryz.func28 (by kernel_rfl) rfl #[.agg #[.int .i64 ((rd_T61 l1 1).f0), .slice A252_1 ((rd_T61 l1 1).f1).length c252_1, .int .i64 ((rd_T61 l1 1).f2), .int .i64 ((rd_T61 l1 1).f3), .int .i64 ((rd_T61 l1 1).f4)]] (by rfl) rfl rfl ar_ ?_
       with_reducible refine (dom_Dom_Size.calls ((rd_T61 l1 1).f0) _ _ ((rd_T61 l1 1).f1) ((rd_T61 l1 1).f2) ((rd_T61 l1 1).f3) ((rd_T61 l1 1).f4) t253 _ ?_ ?_ A8.out).mono ?_
       exact ca_ ((Kd.C_below HR252_1.out HB.out))
       exact HC252_1.out
       rintro e w18 ⟨rfl, hb⟩
       refine ⟨_, rfl, ?_⟩
       replace BK248 := Aside0.mk (blk_below (bk_ BK248.out) hb)
       replace HB := Aside0.mk (below_step bel_ hb)
       clear hb
       refine hK.out _ _ ⟨((HB.out.cell (World.block_lt_of_cell? w _ hw250_0)).trans hw250_0), ((HB.out.cell (World.block_lt_of_cell? w _ hw250_1)).trans hw250_1), ((HB.out.cell (World.block_lt_of_cell? w _ hw250_2)).trans hw250_2), ((HB.out.cell (World.block_lt_of_cell? w _ hw250_3)).trans hw250_3), ((HB.out.cell (World.block_lt_of_cell? w _ hw250_4)).trans hw250_4), ((HB.out.cell (World.block_lt_of_cell? w _ hw252_0)).trans hw252_0), ((HB.out.cell (World.block_lt_of_cell? w _ hw252_1)).trans hw252_1), ((HB.out.cell (World.block_lt_of_cell? w _ hw252_2)).trans hw252_2), ((HB.out.cell (World.block_lt_of_cell? w _ hw252_3)).trans hw252_3), ((HB.out.cell (World.block_lt_of_cell? w _ hw252_4)).trans hw252_4)⟩ (fun hHeld => ?_)
       clear hK K
       refine nor_ (N := some 18) ?_
       refine pur_ (i := 8) (N := some 19) #[true, true, true, true, true, true, true, true, true, false] (any_of HT_.out (by kernel_rfl)) ?_
       refine pur_ (i := 9) (N := some 20) #[true, true, true, true, true, true, true, true, true, true] (any_of HT_.out (by kernel_rfl)) ?_
       refine done_ (done_of HT_.out (by kernel_rfl)) ?_
       obtain ⟨_, _, _, _, _, _, _, _, _, _, _, _, _, _, _, _⟩ := cel8_ BK248.out
       try go_wp2
       replace BK248 := Aside0.mk (blk_drew BK248.out)
       replace HB := Aside0.mk (below_drew1 HB.out)
       have p254 : 0 ≤ (0 : Int) := (by omega)
       have q254 : 0 < (l1.length : Int) := dq_
       obtain ⟨ad254, A254_1, c254_1, e254, hx254_0, hx254_1, hx254_2, hx254_3, hx254_4, hl254_1, hi254_1⟩ := at_T61 HR1.out 0 p254 q254
       have hw254_4 := hx254_4
       (try rw [show ((0 : Int)).toNat = 0 from rfl] at hw254_4)
       (try rw [show 0 * 5 = 0 from rfl] at hw254_4)
       (try rw [Addr.add_zero'] at hw254_4)
       have hw254_3 := hx254_3
       (try rw [show ((0 : Int)).toNat = 0 from rfl] at hw254_3)
       (try rw [show 0 * 5 = 0 from rfl] at hw254_3)
       (try rw [Addr.add_zero'] at hw254_3)
       have hw254_2 := hx254_2
       (try rw [show ((0 : Int)).toNat = 0 from rfl] at hw254_2)
       (try rw [show 0 * 5 = 0 from rfl] at hw254_2)
       (try rw [Addr.add_zero'] at hw254_2)
       have hw254_1 := hx254_1
       (try rw [show ((0 : Int)).toNat = 0 from rfl] at hw254_1)
       (try rw [show 0 * 5 = 0 from rfl] at hw254_1)
       (try rw [Addr.add_zero'] at hw254_1)
       have hw254_0 := hx254_0
       (try rw [show ((0 : Int)).toNat = 0 from rfl] at hw254_0)
       (try rw [show 0 * 5 = 0 from rfl] at hw254_0)
       (try rw [Addr.add_zero'] at hw254_0)
       obtain rfl : ad250 = ad254 := (by injection e254)
       have qi254 : (0 < l1.length) = True := eq_true (by omega)
       (try rw [show ((0 : Int)).toNat = 0 from rfl] at hx254_0)
       (try rw [show 0 * 5 = 0 from rfl] at hx254_0)
       (try rw [Addr.add_zero'] at hx254_0)
       (try rw [show ((0 : Int)).toNat = 0 from rfl] at hx254_1)
       (try rw [show 0 * 5 = 0 from rfl] at hx254_1)
       (try rw [Addr.add_zero'] at hx254_1)
       (try rw [show ((0 : Int)).toNat = 0 from rfl] at hx254_2)
       (try rw [show 0 * 5 = 0 from rfl] at hx254_2)
       (try rw [Addr.add_zero'] at hx254_2)
       (try rw [show ((0 : Int)).toNat = 0 from rfl] at hx254_3)
       (try rw [show 0 * 5 = 0 from rfl] at hx254_3)
       (try rw [Addr.add_zero'] at hx254_3)
       (try rw [show ((0 : Int)).toNat = 0 from rfl] at hx254_4)
       (try rw [show 0 * 5 = 0 from rfl] at hx254_4)
       (try rw [Addr.add_zero'] at hx254_4)
       replace hx254_0 := (HB.out.cell (World.block_lt_of_cell? w _ hx254_0)).trans hx254_0
       replace hx254_1 := (HB.out.cell (World.block_lt_of_cell? w _ hx254_1)).trans hx254_1
       replace hx254_2 := (HB.out.cell (World.block_lt_of_cell? w _ hx254_2)).trans hx254_2
       replace hx254_3 := (HB.out.cell (World.block_lt_of_cell? w _ hx254_3)).trans hx254_3
       replace hx254_4 := (HB.out.cell (World.block_lt_of_cell? w _ hx254_4)).trans hx254_4
       have HR254_1 := Aside0.mk hi254_1
       have HC254_1 := Aside0.mk hl254_1
       clear hi254_1 hl254_1
       replace p254 := eq_true p254
       replace q254 := eq_true q254
       have p255 : 0 ≤ (1 : Int) := (by omega)
       have q255 : 1 < (l1.length : Int) := dq_
       obtain ⟨ad255, A255_1, c255_1, e255, hx255_0, hx255_1, hx255_2, hx255_3, hx255_4, hl255_1, hi255_1⟩ := at_T61 HR1.out 1 p255 q255
       have hw255_4 := hx255_4
       (try rw [show ((1 : Int)).toNat = 1 from rfl] at hw255_4)
       (try rw [show 1 * 5 = 5 from rfl] at hw255_4)
       (try simp only [Nat.reduceMul, Nat.reduceEqDiff, Go.Addr.add, ↓reduceIte] at hw255_4)
       have hw255_3 := hx255_3
       (try rw [show ((1 : Int)).toNat = 1 from rfl] at hw255_3)
       (try rw [show 1 * 5 = 5 from rfl] at hw255_3)
       (try simp only [Nat.reduceMul, Nat.reduceEqDiff, Go.Addr.add, ↓reduceIte] at hw255_3)
       have hw255_2 := hx255_2
       (try rw [show ((1 : Int)).toNat = 1 from rfl] at hw255_2)
       (try rw [show 1 * 5 = 5 from rfl] at hw255_2)
       (try simp only [Nat.reduceMul, Nat.reduceEqDiff, Go.Addr.add, ↓reduceIte] at hw255_2)
       have hw255_1 := hx255_1
       (try rw [show ((1 : Int)).toNat = 1 from rfl] at hw255_1)
       (try rw [show 1 * 5 = 5 from rfl] at hw255_1)
       (try simp only [Nat.reduceMul, Nat.reduceEqDiff, Go.Addr.add, ↓reduceIte] at hw255_1)
       have hw255_0 := hx255_0
       (try rw [show ((1 : Int)).toNat = 1 from rfl] at hw255_0)
       (try rw [show 1 * 5 = 5 from rfl] at hw255_0)
       (try simp only [Nat.reduceMul, Nat.reduceEqDiff, Go.Addr.add, ↓reduceIte] at hw255_0)
       obtain rfl : ad250 = ad255 := (by injection e255)
       (try simp only [show (1 : Int).toNat = 1 from rfl, Nat.reduceMul, Nat.reduceEqDiff, Go.Addr.add, ↓reduceIte] at hx255_0)
       (try simp only [show (1 : Int).toNat = 1 from rfl, Nat.reduceMul, Nat.reduceEqDiff, Go.Addr.add, ↓reduceIte] at hx255_1)
       (try simp only [show (1 : Int).toNat = 1 from rfl, Nat.reduceMul, Nat.reduceEqDiff, Go.Addr.add, ↓reduceIte] at hx255_2)
       (try simp only [show (1 : Int).toNat = 1 from rfl, Nat.reduceMul, Nat.reduceEqDiff, Go.Addr.add, ↓reduceIte] at hx255_3)
       (try simp only [show (1 : Int).toNat = 1 from rfl, Nat.reduceMul, Nat.reduceEqDiff, Go.Addr.add, ↓reduceIte] at hx255_4)
       have qi255 : (1 < l1.length) = True := eq_true (by omega)
       (try rw [show ((1 : Int)).toNat = 1 from rfl] at hx255_0)
       (try rw [show 1 * 5 = 5 from rfl] at hx255_0)
       (try rw [show ((1 : Int)).toNat = 1 from rfl] at hx255_1)
       (try rw [show 1 * 5 = 5 from rfl] at hx255_1)
       (try rw [show ((1 : Int)).toNat = 1 from rfl] at hx255_2)
       (try rw [show 1 * 5 = 5 from rfl] at hx255_2)
       (try rw [show ((1 : Int)).toNat = 1 from rfl] at hx255_3)
       (try rw [show 1 * 5 = 5 from rfl] at hx255_3)
       (try rw [show ((1 : Int)).toNat = 1 from rfl] at hx255_4)
       (try rw [show 1 * 5 = 5 from rfl] at hx255_4)
       replace hx255_0 := (HB.out.cell (World.block_lt_of_cell? w _ hx255_0)).trans hx255_0
       replace hx255_1 := (HB.out.cell (World.block_lt_of_cell? w _ hx255_1)).trans hx255_1
       replace hx255_2 := (HB.out.cell (World.block_lt_of_cell? w _ hx255_2)).trans hx255_2
       replace hx255_3 := (HB.out.cell (World.block_lt_of_cell? w _ hx255_3)).trans hx255_3
       replace hx255_4 := (HB.out.cell (World.block_lt_of_cell? w _ hx255_4)).trans hx255_4
       have HR255_1 := Aside0.mk hi255_1
       have HC255_1 := Aside0.mk hl255_1
       clear hi255_1 hl255_1
       replace p255 := eq_true p255
       replace q255 := eq_true q255
       have p256 : 0 ≤ (2 : Int) := (by omega)
       have q256 : 2 < (l1.length : Int) := dq_
       obtain ⟨ad256, A256_1, c256_1, e256, hx256_0, hx256_1, hx256_2, hx256_3, hx256_4, hl256_1, hi256_1⟩ := at_T61 HR1.out 2 p256 q256
       have hw256_4 := hx256_4
       (try rw [show ((2 : Int)).toNat = 2 from rfl] at hw256_4)
       (try rw [show 2 * 5 = 10 from rfl] at hw256_4)
       (try simp only [Nat.reduceMul, Nat.reduceEqDiff, Go.Addr.add, ↓reduceIte] at hw256_4)
       have hw256_3 := hx256_3
       (try rw [show ((2 : Int)).toNat = 2 from rfl] at hw256_3)
       (try rw [show 2 * 5 = 10 from rfl] at hw256_3)
       (try simp only [Nat.reduceMul, Nat.reduceEqDiff, Go.Addr.add, ↓reduceIte] at hw256_3)
       have hw256_2 := hx256_2
       (try rw [show ((2 : Int)).toNat = 2 from rfl] at hw256_2)
       (try rw [show 2 * 5 = 10 from rfl] at hw256_2)
       (try simp only [Nat.reduceMul, Nat.reduceEqDiff, Go.Addr.add, ↓reduceIte] at hw256_2)
       have hw256_1 := hx256_1
       (try rw [show ((2 : Int)).toNat = 2 from rfl] at hw256_1)
       (try rw [show 2 * 5 = 10 from rfl] at hw256_1)
       (try simp only [Nat.reduceMul, Nat.reduceEqDiff, Go.Addr.add, ↓reduceIte] at hw256_1)
       have hw256_0 := hx256_0
       (try rw [show ((2 : Int)).toNat = 2 from rfl] at hw256_0)
       (try rw [show 2 * 5 = 10 from rfl] at hw256_0)
       (try simp only [Nat.reduceMul, Nat.reduceEqDiff, Go.Addr.add, ↓reduceIte] at hw256_0)
       obtain rfl : ad250 = ad256 := (by injection e256)
       (try simp only [show (2 : Int).toNat = 2 from rfl, Nat.reduceMul, Nat.reduceEqDiff, Go.Addr.add, ↓reduceIte] at hx256_0)
       (try simp only [show (2 : Int).toNat = 2 from rfl, Nat.reduceMul, Nat.reduceEqDiff, Go.Addr.add, ↓reduceIte] at hx256_1)
       (try simp only [show (2 : Int).toNat = 2 from rfl, Nat.reduceMul, Nat.reduceEqDiff, Go.Addr.add, ↓reduceIte] at hx256_2)
       (try simp only [show (2 : Int).toNat = 2 from rfl, Nat.reduceMul, Nat.reduceEqDiff, Go.Addr.add, ↓reduceIte] at hx256_3)
       (try simp only [show (2 : Int).toNat = 2 from rfl, Nat.reduceMul, Nat.reduceEqDiff, Go.Addr.add, ↓reduceIte] at hx256_4)
       have qi256 : (2 < l1.length) = True := eq_true (by omega)
       (try rw [show ((2 : Int)).toNat = 2 from rfl] at hx256_0)
       (try rw [show 2 * 5 = 10 from rfl] at hx256_0)
       (try rw [show ((2 : Int)).toNat = 2 from rfl] at hx256_1)
       (try rw [show 2 * 5 = 10 from rfl] at hx256_1)
       (try rw [show ((2 : Int)).toNat = 2 from rfl] at hx256_2)
       (try rw [show 2 * 5 = 10 from rfl] at hx256_2)
       (try rw [show ((2 : Int)).toNat = 2 from rfl] at hx256_3)
       (try rw [show 2 * 5 = 10 from rfl] at hx256_3)
       (try rw [show ((2 : Int)).toNat = 2 from rfl] at hx256_4)
       (try rw [show 2 * 5 = 10 from rfl] at hx256_4)
       replace hx256_0 := (HB.out.cell (World.block_lt_of_cell? w _ hx256_0)).trans hx256_0
       replace hx256_1 := (HB.out.cell (World.block_lt_of_cell? w _ hx256_1)).trans hx256_1
       replace hx256_2 := (HB.out.cell (World.block_lt_of_cell? w _ hx256_2)).trans hx256_2
       replace hx256_3 := (HB.out.cell (World.block_lt_of_cell? w _ hx256_3)).trans hx256_3
       replace hx256_4 := (HB.out.cell (World.block_lt_of_cell? w _ hx256_4)).trans hx256_4
       have HR256_1 := Aside0.mk hi256_1
       have HC256_1 := Aside0.mk hl256_1
       clear hi256_1 hl256_1
       replace p256 := eq_true p256
       replace q256 := eq_true q256
       refine start_ (n := 15) (S := fun w' => w'.cell? ad250 = some (.int .i64 ((rd_T61 l1 0).f0)) ∧ w'.cell? ⟨ad250.block, ad250.off + 1, none⟩ = some (.slice A254_1 ((rd_T61 l1 0).f1).length c254_1) ∧ w'.cell? ⟨ad250.block, ad250.off + 2, none⟩ = some (.int .i64 ((rd_T61 l1 0).f2)) ∧ w'.cell? ⟨ad250.block, ad250.off + 3, none⟩ = some (.int .i64 ((rd_T61 l1 0).f3)) ∧ w'.cell? ⟨ad250.block, ad250.off + 4, none⟩ = some (.int .i64 ((rd_T61 l1 0).f4)) ∧ w'.cell? ⟨ad250.block, ad250.off + 5, none⟩ = some (.int .i64 ((rd_T61 l1 1).f0)) ∧ w'.cell? ⟨ad250.block, ad250.off + 5 + 1, none⟩ = some (.slice A255_1 ((rd_T61 l1 1).f1).length c255_1) ∧ w'.cell? ⟨ad250.block, ad250.off + 5 + 2, none⟩ = some (.int .i64 ((rd_T61 l1 1).f2)) ∧ w'.cell? ⟨ad250.block, ad250.off + 5 + 3, none⟩ = some (.int .i64 ((rd_T61 l1 1).f3)) ∧ w'.cell? ⟨ad250.block, ad250.off + 5 + 4, none⟩ = some (.int .i64 ((rd_T61 l1 1).f4)) ∧ w'.cell? ⟨ad250.block, ad250.off + 10, none⟩ = some (.int .i64 ((rd_T61 l1 2).f0)) ∧ w'.cell? ⟨ad250.block, ad250.off + 10 + 1, none⟩ = some (.slice A256_1 ((rd_T61 l1 2).f1).length c256_1) ∧ w'.cell? ⟨ad250.block, ad250.off + 10 + 2, none⟩ = some (.int .i64 ((rd_T61 l1 2).f2)) ∧ w'.cell? ⟨ad250.block, ad250.off + 10 + 3, none⟩ = some (.int .i64 ((rd_T61 l1 2).f3)) ∧ w'.cell? ⟨ad250.block, ad250.off + 10 + 4, none⟩ = some (.int .i64 ((rd_T61 l1 2).f4))) (ds := []) #[false, false, false, false, false, false, false, false, false, false, false, false, false, false, false] (by kernel_rfl) rfl rfl ⟨((HB.out.cell (World.block_lt_of_cell? w _ hw254_0)).trans hw254_0), ((HB.out.cell (World.block_lt_of_cell? w _ hw254_1)).trans hw254_1), ((HB.out.cell (World.block_lt_of_cell? w _ hw254_2)).trans hw254_2), ((HB.out.cell (World.block_lt_of_cell? w _ hw254_3)).trans hw254_3), ((HB.out.cell (World.block_lt_of_cell? w _ hw254_4)).trans hw254_4), ((HB.out.cell (World.block_lt_of_cell? w _ hw255_0)).trans hw255_0), ((HB.out.cell (World.block_lt_of_cell? w _ hw255_1)).trans hw255_1), ((HB.out.cell (World.block_lt_of_cell? w _ hw255_2)).trans hw255_2), ((HB.out.cell (World.block_lt_of_cell? w _ hw255_3)).trans hw255_3), ((HB.out.cell (World.block_lt_of_cell? w _ hw255_4)).trans hw255_4), ((HB.out.cell (World.block_lt_of_cell? w _ hw256_0)).trans hw256_0), ((HB.out.cell (World.block_lt_of_cell? w _ hw256_1)).trans hw256_1), ((HB.out.cell (World.block_lt_of_cell? w _ hw256_2)).trans hw256_2), ((HB.out.cell (World.block_lt_of_cell? w _ hw256_3)).trans hw256_3), ((HB.out.cell (World.block_lt_of_cell? w _ hw256_4)).trans hw256_4)⟩ (fun hHeld => ?_); refine with_tabW mul_Filter.tab11 mul_Filter.bits11 (fun HT_ HW_ => ?_)
       generalize w18.drew = w20 at BK248 HB HR254_1 HR255_1 HR256_1 hx254_0 hx254_1 hx254_2 hx254_3 hx254_4 hx255_0 hx255_1 hx255_2 hx255_3 hx255_4 hx256_0 hx256_1 hx256_2 hx256_3 hx256_4 hHeld ⊢
       refine pur_ (i := 0) (N := some 32) #[true, false, false, false, false, false, false, false, false, false, false, false, false, false, false] (any_of HT_.out (by kernel_rfl)) ?_
       refine pur_ (i := 1) (N := some 33) #[true, true, false, false, false, false, false, false, false, false, false, false, false, false, false] (any_of HT_.out (by kernel_rfl)) ?_
       refine pur_ (i := 3) (N := some 35) #[true, true, false, true, false, false, false, false, false, false, false, false, false, false, false] (any_of HT_.out (by kernel_rfl)) ?_
       refine pur_ (i := 4) (N := some 36) #[true, true, false, true, true, false, false, false, false, false, false, false, false, false, false] (any_of HT_.out (by kernel_rfl)) ?_
       refine pur_ (i := 6) (N := some 38) #[true, true, false, true, true, false, true, false, false, false, false, false, false, false, false] (any_of HT_.out (by kernel_rfl)) ?_
       refine pur_ (i := 7) (N := some 39) #[true, true, false, true, true, false, true, true, false, false, false, false, false, false, false] (any_of HT_.out (by kernel_rfl)) ?_
       refine pur_ (i := 9) (N := some 41) #[true, true, false, true, true, false, true, true, false, true, false, false, false, false, false] (any_of HT_.out (by kernel_rfl)) ?_
       refine take_ (i := 2) (N := some 34) (v := ?_) (a' := ?_) #[true, true, true, true, true, false, true, true, false, true, false, false, false, false, false] rfl rfl (take_ofW HT_.out HW_.out (by kernel_rfl)) (fun _ _ _ h => h) (Or.inl ⟨by rfl, ?_⟩) hHeld ?_ ?_
       rotate_left
       ·
        rintro w' ⟨s0, s1, s2, s3, s4, s5, s6, s7, s8, s9, s10, s11, s12, s13, s14⟩
        go_simp
        with_reducible rfl
       rotate_left
       ·
        simp only [Act.put, List.setIfInBounds_toArray, List.set_cons_zero, List.set_cons_succ, i64_w, i32_w]
        rfl
       refine take_ (i := 5) (N := some 37) (v := ?_) (a' := ?_) #[true, true, true, true, true, true, true, true, false, true, false, false, false, false, false] rfl rfl (take_ofW HT_.out HW_.out (by kernel_rfl)) (fun _ _ _ h => h) (Or.inl ⟨by rfl, ?_⟩) hHeld ?_ ?_
       rotate_left
       ·
        rintro w' ⟨s0, s1, s2, s3, s4, s5, s6, s7, s8, s9, s10, s11, s12, s13, s14⟩
        go_simp
        with_reducible rfl
       rotate_left
       ·
        simp only [Act.put, List.setIfInBounds_toArray, List.set_cons_zero, List.set_cons_succ, i64_w, i32_w]
        rfl
       refine take_ (i := 8) (N := some 40) (v := ?_) (a' := ?_) #[true, true, true, true, true, true, true, true, true, true, false, false, false, false, false] rfl rfl (take_ofW HT_.out HW_.out (by kernel_rfl)) (fun _ _ _ h => h) (Or.inl ⟨by rfl, ?_⟩) hHeld ?_ ?_
       rotate_left
       ·
        rintro w' ⟨s0, s1, s2, s3, s4, s5, s6, s7, s8, s9, s10, s11, s12, s13, s14⟩
        go_simp
        with_reducible rfl
       rotate_left
       ·
        simp only [Act.put, List.setIfInBounds_toArray, List.set_cons_zero, List.set_cons_succ, i64_w, i32_w]
        rfl
       refine one_ (i := 10) (N := some 42) #[true, true, true, true, true, true, true, true, true, true, true, false, false, false, false] rfl rfl (one_of HT_.out (by kernel_rfl)) (by decide) (fun K hK => ?_)
       refine goes_ Tryz.func33 (by kernel_rfl) rfl #[.agg #[.int .i64 ((rd_T61 l1 0).f0), .slice A254_1 ((rd_T61 l1 0).f1).length c254_1, .int .i64 ((rd_T61 l1 0).f2), .int .i64 ((rd_T61 l1 0).f3), .int .i64 ((rd_T61 l1 0).f4)], .agg #[.int .i64 ((rd_T61 l1 1).f0), .slice A255_1 ((rd_T61 l1 1).f1).length c255_1, .int .i64 ((rd_T61 l1 1).f2), .int .i64 ((rd_T61 l1 1).f3), .int .i64 ((rd_T61 l1 1).f4)], .agg #[.int .i64 ((rd_T61 l1 2).f0), .slice A256_1 ((rd_T61 l1 2).f1).length c256_1, .int .i64 ((rd_T61 l1 2).f2), .int .i64 ((rd_T61 l1 2).f3), .int .i64 ((rd_T61 l1 2).f4)], .func (.func 31) #[] #[]] (by rfl) rfl rfl ar_ ?_
       with_reducible refine (prop_Pairs_at_num_Quo.calls k ((rd_T61 l1 0).f0) _ _ ((rd_T61 l1 0).f1) ((rd_T61 l1 0).f2) ((rd_T61 l1 0).f3) ((rd_T61 l1 0).f4) ((rd_T61 l1 1).f0) _ _ ((rd_T61 l1 1).f1) ((rd_T61 l1 1).f2) ((rd_T61 l1 1).f3) ((rd_T61 l1 1).f4) ((rd_T61 l1 2).f0) _ _ ((rd_T61 l1 2).f1) ((rd_T61 l1 2).f2) ((rd_T61 l1 2).f3) ((rd_T61 l1 2).f4) t257 t260 _ ?_ ?_ ?_ ?_ ?_ ?_ ?_ A12.out).mono ?_
       exact ca_ ((Kd.C_below HR254_1.out HB.out))
       exact HC254_1.out
       exact ca_ ((Kd.C_below HR255_1.out HB.out))
       exact HC255_1.out
       exact ca_ ((Kd.C_below HR256_1.out HB.out))
       exact HC256_1.out
       exact ca_ ((Kd.C_below HRtab.out HB.out))
       rintro e w21 ⟨v258, rfl, ho0, hb⟩
       refine ⟨_, rfl, ?_⟩
       have HO259 := Aside0.mk (Kd.N_lower (Kd.N_mono (ok' := fun k_ => (w.heap.size ≤ k_) ∧ k_ ≠ gb248) ho0 (fun k_ hk_ => ⟨(Nat.le_trans (below_size bel_) hk_), (Kd.freshB (bk_ BK248.out) k_ hk_)⟩)) (below_size bel_))
       replace HB := Aside0.mk (below_step bel_ hb)
       clear hb ho0
       refine hK.out _ _ ⟨((HB.out.cell (World.block_lt_of_cell? w _ hw254_0)).trans hw254_0), ((HB.out.cell (World.block_lt_of_cell? w _ hw254_1)).trans hw254_1), ((HB.out.cell (World.block_lt_of_cell? w _ hw254_2)).trans hw254_2), ((HB.out.cell (World.block_lt_of_cell? w _ hw254_3)).trans hw254_3), ((HB.out.cell (World.block_lt_of_cell? w _ hw254_4)).trans hw254_4), ((HB.out.cell (World.block_lt_of_cell? w _ hw255_0)).trans hw255_0), ((HB.out.cell (World.block_lt_of_cell? w _ hw255_1)).trans hw255_1), ((HB.out.cell (World.block_lt_of_cell? w _ hw255_2)).trans hw255_2), ((HB.out.cell (World.block_lt_of_cell? w _ hw255_3)).trans hw255_3), ((HB.out.cell (World.block_lt_of_cell? w _ hw255_4)).trans hw255_4), ((HB.out.cell (World.block_lt_of_cell? w _ hw256_0)).trans hw256_0), ((HB.out.cell (World.block_lt_of_cell? w _ hw256_1)).trans hw256_1), ((HB.out.cell (World.block_lt_of_cell? w _ hw256_2)).trans hw256_2), ((HB.out.cell (World.block_lt_of_cell? w _ hw256_3)).trans hw256_3), ((HB.out.cell (World.block_lt_of_cell? w _ hw256_4)).trans hw256_4)⟩ (fun hHeld => ?_)
       clear hK K
       refine nor_ (N := some 42) ?_
       refine pur_ (i := 11) (N := some 43) #[true, true, true, true, true, true, true, true, true, true, true, true, false, false, false] (any_of HT_.out (by kernel_rfl)) ?_
       refine pur_ (i := 12) (N := some 44) #[true, true, true, true, true, true, true, true, true, true, true, true, true, false, false] (any_of HT_.out (by kernel_rfl)) ?_
       refine pur_ (i := 13) (N := some 4) #[true, true, true, true, true, true, true, true, true, true, true, true, true, true, false] (any_of HT_.out (by kernel_rfl)) ?_
       refine pur_ (i := 14) (N := some 5) #[true, true, true, true, true, true, true, true, true, true, true, true, true, true, true] (any_of HT_.out (by kernel_rfl)) ?_
       refine done_ (done_of HT_.out (by kernel_rfl)) ?_
       try go_wp2
       go_ret2
       exact ⟨_, by first | rfl | (simp [errW_none, errW_some] <;> rfl) | (simp [*, errW_none, errW_some] <;> rfl), by refine vN_ ?_; exact Kd.N_mono HO259.out (fun _ hk => hk.1), bel_⟩
      ·
       rw [if_neg c11] at H
       exact absurd H (by simp)
     ·
      rw [if_neg c10] at H
      have c10b0 : (a0_0 == 6) = false := beq_eq_false_iff_ne.mpr c10
      have c10b1 : (a0_0 != 6) = true := bne_iff_ne.mpr c10
      by_cases c22 : a0_0 = 7
      ·
       rw [if_pos c22] at H
       have c22b0 : (a0_0 == 7) = true := beq_iff_eq.mpr c22
       have c22b1 : (a0_0 != 7) = false := bne_eq_false_iff_eq.mpr c22
       clear c22
       by_cases c23 : 2 < (l1.length : Int)
       ·
        rw [if_pos c23] at H
        have c23b0 : decide (2 < (l1.length : Int)) = true := decide_eq_true c23
        have c23b1 : decide (2 < l1.length) = true := decide_eq_true (by omega)
        clear c23
        replace H := Option.bind_eq_some_iff.mp H
        obtain ⟨⟨t264, t267⟩, A240, H⟩ := H
        replace H : (some (t264, t267)) = some (r1, r2) := H
        have A24 := Aside0.mk A240
        clear A240
        simp only [Option.some.injEq, Prod.mk.injEq] at H
        obtain ⟨rfl, rfl⟩ := H
        go_enter Tryz.func10, Tryz.ntmps10
        try go_wp2_with (first | ((with_reducible refine gate_dst (N := 2) rfl ?_); refine bxe_ (N := 2) (cs := #[.int .i64 a0_0, .slice A0_1 l0_1.length c0_1, .slice A0_2 l0_2.length c0_2, .slice A0_3 l0_3.length c0_3, .slice A0_4 l0_4.length c0_4, .slice A0_5 l0_5.length c0_5, .int .i64 a0_6, .slice A0_7 l0_7.length c0_7]) (t := 32) ?_; intro gb248 hg w25 hbox hb; have BK248 := Aside0.mk (hbox); have GW248 := Aside0.mk (by rw [hg]; exact (below_size bel_) : w.heap.size ≤ gb248); have GE248 := GW248; replace HB := Aside0.mk (below_step bel_ hb); clear hb hbox hg; obtain ⟨_, _, _, _, _, _, _, _, _, _, _, _, _, _, _, _⟩ := cel8_ BK248.out) | ((with_reducible refine gate_callee (f := 27) rfl ?_); refine goesL_ (some 9) rfl rfl Tryz.func27 (by kernel_rfl) rfl #[.agg #[.int .i64 a0_0, .slice A0_1 l0_1.length c0_1, .slice A0_2 l0_2.length c0_2, .slice A0_3 l0_3.length c0_3, .slice A0_4 l0_4.length c0_4, .slice A0_5 l0_5.length c0_5, .int .i64 a0_6, .slice A0_7 l0_7.length c0_7], .slice A1 l1.length c1, .int .i64 5, .int .i64 7] rfl ar_ ?_; (with_reducible refine (prop_Fits.calls k a0_0 _ _ l0_1 _ _ l0_2 _ _ l0_3 _ _ l0_4 _ _ l0_5 a0_6 _ _ l0_7 _ _ l1 5 7 true _ ?_ ?_ ?_ ?_ ?_ ?_ ?_ ?_ ?_ ?_ ?_ ?_ ?_ ?_ A3.out).mono ?_); exact ca_ ((Kd.C_below HR0_1.out HB.out)); exact HC0_1.out; exact ca_ ((Kd.C_below HR0_2.out HB.out)); exact HC0_2.out; exact ca_ ((Kd.C_below HR0_3.out HB.out)); exact HC0_3.out; exact ca_ ((Kd.C_below HR0_4.out HB.out)); exact HC0_4.out; exact ca_ ((Kd.C_below HR0_5.out HB.out)); exact HC0_5.out; exact ca_ ((Kd.C_below HR0_7.out HB.out)); exact HC0_7.out; exact ca_ ((Kd.C_below HR1.out HB.out)); exact HC1.out; rintro e w27 ⟨rfl, hb⟩; refine ⟨_, rfl, ?_⟩; replace BK248 := Aside0.mk (blk_below (bk_ BK248.out) hb); replace HB := Aside0.mk (below_step bel_ hb); clear hb))
        replace BK248 := Aside0.mk (blk_drew BK248.out)
        replace HB := Aside0.mk (below_drew1 HB.out)
        have p250 : 0 ≤ (0 : Int) := (by omega)
        have q250 : 0 < (l1.length : Int) := dq_
        obtain ⟨ad250, A250_1, c250_1, e250, hx250_0, hx250_1, hx250_2, hx250_3, hx250_4, hl250_1, hi250_1⟩ := at_T61 HR1.out 0 p250 q250
        have hw250_4 := hx250_4
        (try rw [show ((0 : Int)).toNat = 0 from rfl] at hw250_4)
        (try rw [show 0 * 5 = 0 from rfl] at hw250_4)
        (try rw [Addr.add_zero'] at hw250_4)
        have hw250_3 := hx250_3
        (try rw [show ((0 : Int)).toNat = 0 from rfl] at hw250_3)
        (try rw [show 0 * 5 = 0 from rfl] at hw250_3)
        (try rw [Addr.add_zero'] at hw250_3)
        have hw250_2 := hx250_2
        (try rw [show ((0 : Int)).toNat = 0 from rfl] at hw250_2)
        (try rw [show 0 * 5 = 0 from rfl] at hw250_2)
        (try rw [Addr.add_zero'] at hw250_2)
        have hw250_1 := hx250_1
        (try rw [show ((0 : Int)).toNat = 0 from rfl] at hw250_1)
        (try rw [show 0 * 5 = 0 from rfl] at hw250_1)
        (try rw [Addr.add_zero'] at hw250_1)
        have hw250_0 := hx250_0
        (try rw [show ((0 : Int)).toNat = 0 from rfl] at hw250_0)
        (try rw [show 0 * 5 = 0 from rfl] at hw250_0)
        (try rw [Addr.add_zero'] at hw250_0)
        cases e250
        have qi250 : (0 < l1.length) = True := eq_true (by omega)
        (try rw [show ((0 : Int)).toNat = 0 from rfl] at hx250_0)
        (try rw [show 0 * 5 = 0 from rfl] at hx250_0)
        (try rw [Addr.add_zero'] at hx250_0)
        (try rw [show ((0 : Int)).toNat = 0 from rfl] at hx250_1)
        (try rw [show 0 * 5 = 0 from rfl] at hx250_1)
        (try rw [Addr.add_zero'] at hx250_1)
        (try rw [show ((0 : Int)).toNat = 0 from rfl] at hx250_2)
        (try rw [show 0 * 5 = 0 from rfl] at hx250_2)
        (try rw [Addr.add_zero'] at hx250_2)
        (try rw [show ((0 : Int)).toNat = 0 from rfl] at hx250_3)
        (try rw [show 0 * 5 = 0 from rfl] at hx250_3)
        (try rw [Addr.add_zero'] at hx250_3)
        (try rw [show ((0 : Int)).toNat = 0 from rfl] at hx250_4)
        (try rw [show 0 * 5 = 0 from rfl] at hx250_4)
        (try rw [Addr.add_zero'] at hx250_4)
        replace hx250_0 := (HB.out.cell (World.block_lt_of_cell? w _ hx250_0)).trans hx250_0
        replace hx250_1 := (HB.out.cell (World.block_lt_of_cell? w _ hx250_1)).trans hx250_1
        replace hx250_2 := (HB.out.cell (World.block_lt_of_cell? w _ hx250_2)).trans hx250_2
        replace hx250_3 := (HB.out.cell (World.block_lt_of_cell? w _ hx250_3)).trans hx250_3
        replace hx250_4 := (HB.out.cell (World.block_lt_of_cell? w _ hx250_4)).trans hx250_4
        have HR250_1 := Aside0.mk hi250_1
        have HC250_1 := Aside0.mk hl250_1
        clear hi250_1 hl250_1
        replace p250 := eq_true p250
        replace q250 := eq_true q250
        have p252 : 0 ≤ (1 : Int) := (by omega)
        have q252 : 1 < (l1.length : Int) := dq_
        obtain ⟨ad252, A252_1, c252_1, e252, hx252_0, hx252_1, hx252_2, hx252_3, hx252_4, hl252_1, hi252_1⟩ := at_T61 HR1.out 1 p252 q252
        have hw252_4 := hx252_4
        (try rw [show ((1 : Int)).toNat = 1 from rfl] at hw252_4)
        (try rw [show 1 * 5 = 5 from rfl] at hw252_4)
        (try simp only [Nat.reduceMul, Nat.reduceEqDiff, Go.Addr.add, ↓reduceIte] at hw252_4)
        have hw252_3 := hx252_3
        (try rw [show ((1 : Int)).toNat = 1 from rfl] at hw252_3)
        (try rw [show 1 * 5 = 5 from rfl] at hw252_3)
        (try simp only [Nat.reduceMul, Nat.reduceEqDiff, Go.Addr.add, ↓reduceIte] at hw252_3)
        have hw252_2 := hx252_2
        (try rw [show ((1 : Int)).toNat = 1 from rfl] at hw252_2)
        (try rw [show 1 * 5 = 5 from rfl] at hw252_2)
        (try simp only [Nat.reduceMul, Nat.reduceEqDiff, Go.Addr.add, ↓reduceIte] at hw252_2)
        have hw252_1 := hx252_1
        (try rw [show ((1 : Int)).toNat = 1 from rfl] at hw252_1)
        (try rw [show 1 * 5 = 5 from rfl] at hw252_1)
        (try simp only [Nat.reduceMul, Nat.reduceEqDiff, Go.Addr.add, ↓reduceIte] at hw252_1)
        have hw252_0 := hx252_0
        (try rw [show ((1 : Int)).toNat = 1 from rfl] at hw252_0)
        (try rw [show 1 * 5 = 5 from rfl] at hw252_0)
        (try simp only [Nat.reduceMul, Nat.reduceEqDiff, Go.Addr.add, ↓reduceIte] at hw252_0)
        obtain rfl : ad250 = ad252 := (by injection e252)
        (try simp only [show (1 : Int).toNat = 1 from rfl, Nat.reduceMul, Nat.reduceEqDiff, Go.Addr.add, ↓reduceIte] at hx252_0)
        (try simp only [show (1 : Int).toNat = 1 from rfl, Nat.reduceMul, Nat.reduceEqDiff, Go.Addr.add, ↓reduceIte] at hx252_1)
        (try simp only [show (1 : Int).toNat = 1 from rfl, Nat.reduceMul, Nat.reduceEqDiff, Go.Addr.add, ↓reduceIte] at hx252_2)
        (try simp only [show (1 : Int).toNat = 1 from rfl, Nat.reduceMul, Nat.reduceEqDiff, Go.Addr.add, ↓reduceIte] at hx252_3)
        (try simp only [show (1 : Int).toNat = 1 from rfl, Nat.reduceMul, Nat.reduceEqDiff, Go.Addr.add, ↓reduceIte] at hx252_4)
        have qi252 : (1 < l1.length) = True := eq_true (by omega)
        (try rw [show ((1 : Int)).toNat = 1 from rfl] at hx252_0)
        (try rw [show 1 * 5 = 5 from rfl] at hx252_0)
        (try rw [show ((1 : Int)).toNat = 1 from rfl] at hx252_1)
        (try rw [show 1 * 5 = 5 from rfl] at hx252_1)
        (try rw [show ((1 : Int)).toNat = 1 from rfl] at hx252_2)
        (try rw [show 1 * 5 = 5 from rfl] at hx252_2)
        (try rw [show ((1 : Int)).toNat = 1 from rfl] at hx252_3)
        (try rw [show 1 * 5 = 5 from rfl] at hx252_3)
        (try rw [show ((1 : Int)).toNat = 1 from rfl] at hx252_4)
        (try rw [show 1 * 5 = 5 from rfl] at hx252_4)
        replace hx252_0 := (HB.out.cell (World.block_lt_of_cell? w _ hx252_0)).trans hx252_0
        replace hx252_1 := (HB.out.cell (World.block_lt_of_cell? w _ hx252_1)).trans hx252_1
        replace hx252_2 := (HB.out.cell (World.block_lt_of_cell? w _ hx252_2)).trans hx252_2
        replace hx252_3 := (HB.out.cell (World.block_lt_of_cell? w _ hx252_3)).trans hx252_3
        replace hx252_4 := (HB.out.cell (World.block_lt_of_cell? w _ hx252_4)).trans hx252_4
        have HR252_1 := Aside0.mk hi252_1
        have HC252_1 := Aside0.mk hl252_1
        clear hi252_1 hl252_1
        replace p252 := eq_true p252
        replace q252 := eq_true q252
        refine start_ (n := 10) (S := fun w' => w'.cell? ad250 = some (.int .i64 ((rd_T61 l1 0).f0)) ∧ w'.cell? ⟨ad250.block, ad250.off + 1, none⟩ = some (.slice A250_1 ((rd_T61 l1 0).f1).length c250_1) ∧ w'.cell? ⟨ad250.block, ad250.off + 2, none⟩ = some (.int .i64 ((rd_T61 l1 0).f2)) ∧ w'.cell? ⟨ad250.block, ad250.off + 3, none⟩ = some (.int .i64 ((rd_T61 l1 0).f3)) ∧ w'.cell? ⟨ad250.block, ad250.off + 4, none⟩ = some (.int .i64 ((rd_T61 l1 0).f4)) ∧ w'.cell? ⟨ad250.block, ad250.off + 5, none⟩ = some (.int .i64 ((rd_T61 l1 1).f0)) ∧ w'.cell? ⟨ad250.block, ad250.off + 5 + 1, none⟩ = some (.slice A252_1 ((rd_T61 l1 1).f1).length c252_1) ∧ w'.cell? ⟨ad250.block, ad250.off + 5 + 2, none⟩ = some (.int .i64 ((rd_T61 l1 1).f2)) ∧ w'.cell? ⟨ad250.block, ad250.off + 5 + 3, none⟩ = some (.int .i64 ((rd_T61 l1 1).f3)) ∧ w'.cell? ⟨ad250.block, ad250.off + 5 + 4, none⟩ = some (.int .i64 ((rd_T61 l1 1).f4))) (ds := []) #[false, false, false, false, false, false, false, false, false, false] (by kernel_rfl) rfl rfl ⟨((HB.out.cell (World.block_lt_of_cell? w _ hw250_0)).trans hw250_0), ((HB.out.cell (World.block_lt_of_cell? w _ hw250_1)).trans hw250_1), ((HB.out.cell (World.block_lt_of_cell? w _ hw250_2)).trans hw250_2), ((HB.out.cell (World.block_lt_of_cell? w _ hw250_3)).trans hw250_3), ((HB.out.cell (World.block_lt_of_cell? w _ hw250_4)).trans hw250_4), ((HB.out.cell (World.block_lt_of_cell? w _ hw252_0)).trans hw252_0), ((HB.out.cell (World.block_lt_of_cell? w _ hw252_1)).trans hw252_1), ((HB.out.cell (World.block_lt_of_cell? w _ hw252_2)).trans hw252_2), ((HB.out.cell (World.block_lt_of_cell? w _ hw252_3)).trans hw252_3), ((HB.out.cell (World.block_lt_of_cell? w _ hw252_4)).trans hw252_4)⟩ (fun hHeld => ?_); refine with_tabW mul_Filter.tab3 mul_Filter.bits3 (fun HT_ HW_ => ?_)
        generalize w27.drew = w28 at BK248 HB HR250_1 HR252_1 hx250_0 hx250_1 hx250_2 hx250_3 hx250_4 hx252_0 hx252_1 hx252_2 hx252_3 hx252_4 hHeld ⊢
        refine pur_ (i := 0) (N := some 11) #[true, false, false, false, false, false, false, false, false, false] (any_of HT_.out (by kernel_rfl)) ?_
        refine pur_ (i := 1) (N := some 12) #[true, true, false, false, false, false, false, false, false, false] (any_of HT_.out (by kernel_rfl)) ?_
        refine pur_ (i := 4) (N := some 15) #[true, true, false, false, true, false, false, false, false, false] (any_of HT_.out (by kernel_rfl)) ?_
        refine pur_ (i := 5) (N := some 16) #[true, true, false, false, true, true, false, false, false, false] (any_of HT_.out (by kernel_rfl)) ?_
        refine take_ (i := 2) (N := some 13) (v := ?_) (a' := ?_) #[true, true, true, false, true, true, false, false, false, false] rfl rfl (take_ofW HT_.out HW_.out (by kernel_rfl)) (fun _ _ _ h => h) (Or.inl ⟨by rfl, ?_⟩) hHeld ?_ ?_
        rotate_left
        ·
         rintro w' ⟨s0, s1, s2, s3, s4, s5, s6, s7, s8, s9⟩
         go_simp
         with_reducible rfl
        rotate_left
        ·
         simp only [Act.put, List.setIfInBounds_toArray, List.set_cons_zero, List.set_cons_succ, i64_w, i32_w]
         rfl
        refine take_ (i := 6) (N := some 17) (v := ?_) (a' := ?_) #[true, true, true, false, true, true, true, false, false, false] rfl rfl (take_ofW HT_.out HW_.out (by kernel_rfl)) (fun _ _ _ h => h) (Or.inl ⟨by rfl, ?_⟩) hHeld ?_ ?_
        rotate_left
        ·
         rintro w' ⟨s0, s1, s2, s3, s4, s5, s6, s7, s8, s9⟩
         go_simp
         with_reducible rfl
        rotate_left
        ·
         simp only [Act.put, List.setIfInBounds_toArray, List.set_cons_zero, List.set_cons_succ, i64_w, i32_w]
         rfl
        refine one_ (i := 3) (N := some 14) #[true, true, true, true, true, true, true, false, false, false] rfl rfl (one_of HT_.out (by kernel_rfl)) (by decide) (fun K hK => ?_)
        refine goes_ Tryz.func28 (by kernel_rfl) rfl #[.agg #[.int .i64 ((rd_T61 l1 0).f0), .slice A250_1 ((rd_T61 l1 0).f1).length c250_1, .int .i64 ((rd_T61 l1 0).f2), .int .i64 ((rd_T61 l1 0).f3), .int .i64 ((rd_T61 l1 0).f4)]] (by rfl) rfl rfl ar_ ?_
        with_reducible refine (dom_Dom_Size.calls ((rd_T61 l1 0).f0) _ _ ((rd_T61 l1 0).f1) ((rd_T61 l1 0).f2) ((rd_T61 l1 0).f3) ((rd_T61 l1 0).f4) t251 _ ?_ ?_ A6.out).mono ?_
        exact ca_ ((Kd.C_below HR250_1.out HB.out))
        exact HC250_1.out
        rintro e w29 ⟨rfl, hb⟩
        refine ⟨_, rfl, ?_⟩
        replace BK248 := Aside0.mk (blk_below (bk_ BK248.out) hb)
        replace HB := Aside0.mk (below_step bel_ hb)
        clear hb
        refine hK.out _ _ ⟨((HB.out.cell (World.block_lt_of_cell? w _ hw250_0)).trans hw250_0), ((HB.out.cell (World.block_lt_of_cell? w _ hw250_1)).trans hw250_1), ((HB.out.cell (World.block_lt_of_cell? w _ hw250_2)).trans hw250_2), ((HB.out.cell (World.block_lt_of_cell? w _ hw250_3)).trans hw250_3), ((HB.out.cell (World.block_lt_of_cell? w _ hw250_4)).trans hw250_4), ((HB.out.cell (World.block_lt_of_cell? w _ hw252_0)).trans hw252_0), ((HB.out.cell (World.block_lt_of_cell? w _ hw252_1)).trans hw252_1), ((HB.out.cell (World.block_lt_of_cell? w _ hw252_2)).trans hw252_2), ((HB.out.cell (World.block_lt_of_cell? w _ hw252_3)).trans hw252_3), ((HB.out.cell (World.block_lt_of_cell? w _ hw252_4)).trans hw252_4)⟩ (fun hHeld => ?_)
        clear hK K
        refine nor_ (N := some 14) ?_
        refine one_ (i := 7) (N := some 18) #[true, true, true, true, true, true, true, true, false, false] rfl rfl (one_of HT_.out (by kernel_rfl)) (by decide) (fun K hK => ?_)
        refine goes_ Tryz.func28 (by kernel_rfl) rfl #[.agg #[.int .i64 ((rd_T61 l1 1).f0), .slice A252_1 ((rd_T61 l1 1).f1).length c252_1, .int .i64 ((rd_T61 l1 1).f2), .int .i64 ((rd_T61 l1 1).f3), .int .i64 ((rd_T61 l1 1).f4)]] (by rfl) rfl rfl ar_ ?_
        with_reducible refine (dom_Dom_Size.calls ((rd_T61 l1 1).f0) _ _ ((rd_T61 l1 1).f1) ((rd_T61 l1 1).f2) ((rd_T61 l1 1).f3) ((rd_T61 l1 1).f4) t253 _ ?_ ?_ A8.out).mono ?_
        exact ca_ ((Kd.C_below HR252_1.out HB.out))
        exact HC252_1.out
        rintro e w30 ⟨rfl, hb⟩
        refine ⟨_, rfl, ?_⟩
        replace BK248 := Aside0.mk (blk_below (bk_ BK248.out) hb)
        replace HB := Aside0.mk (below_step bel_ hb)
        clear hb
        refine hK.out _ _ ⟨((HB.out.cell (World.block_lt_of_cell? w _ hw250_0)).trans hw250_0), ((HB.out.cell (World.block_lt_of_cell? w _ hw250_1)).trans hw250_1), ((HB.out.cell (World.block_lt_of_cell? w _ hw250_2)).trans hw250_2), ((HB.out.cell (World.block_lt_of_cell? w _ hw250_3)).trans hw250_3), ((HB.out.cell (World.block_lt_of_cell? w _ hw250_4)).trans hw250_4), ((HB.out.cell (World.block_lt_of_cell? w _ hw252_0)).trans hw252_0), ((HB.out.cell (World.block_lt_of_cell? w _ hw252_1)).trans hw252_1), ((HB.out.cell (World.block_lt_of_cell? w _ hw252_2)).trans hw252_2), ((HB.out.cell (World.block_lt_of_cell? w _ hw252_3)).trans hw252_3), ((HB.out.cell (World.block_lt_of_cell? w _ hw252_4)).trans hw252_4)⟩ (fun hHeld => ?_)
        clear hK K
        refine nor_ (N := some 18) ?_
        refine pur_ (i := 8) (N := some 19) #[true, true, true, true, true, true, true, true, true, false] (any_of HT_.out (by kernel_rfl)) ?_
        refine pur_ (i := 9) (N := some 20) #[true, true, true, true, true, true, true, true, true, true] (any_of HT_.out (by kernel_rfl)) ?_
        refine done_ (done_of HT_.out (by kernel_rfl)) ?_
        obtain ⟨_, _, _, _, _, _, _, _, _, _, _, _, _, _, _, _⟩ := cel8_ BK248.out
        try go_wp2
        replace BK248 := Aside0.mk (blk_drew BK248.out)
        replace HB := Aside0.mk (below_drew1 HB.out)
        have p261 : 0 ≤ (0 : Int) := (by omega)
        have q261 : 0 < (l1.length : Int) := dq_
        obtain ⟨ad261, A261_1, c261_1, e261, hx261_0, hx261_1, hx261_2, hx261_3, hx261_4, hl261_1, hi261_1⟩ := at_T61 HR1.out 0 p261 q261
        have hw261_4 := hx261_4
        (try rw [show ((0 : Int)).toNat = 0 from rfl] at hw261_4)
        (try rw [show 0 * 5 = 0 from rfl] at hw261_4)
        (try rw [Addr.add_zero'] at hw261_4)
        have hw261_3 := hx261_3
        (try rw [show ((0 : Int)).toNat = 0 from rfl] at hw261_3)
        (try rw [show 0 * 5 = 0 from rfl] at hw261_3)
        (try rw [Addr.add_zero'] at hw261_3)
        have hw261_2 := hx261_2
        (try rw [show ((0 : Int)).toNat = 0 from rfl] at hw261_2)
        (try rw [show 0 * 5 = 0 from rfl] at hw261_2)
        (try rw [Addr.add_zero'] at hw261_2)
        have hw261_1 := hx261_1
        (try rw [show ((0 : Int)).toNat = 0 from rfl] at hw261_1)
        (try rw [show 0 * 5 = 0 from rfl] at hw261_1)
        (try rw [Addr.add_zero'] at hw261_1)
        have hw261_0 := hx261_0
        (try rw [show ((0 : Int)).toNat = 0 from rfl] at hw261_0)
        (try rw [show 0 * 5 = 0 from rfl] at hw261_0)
        (try rw [Addr.add_zero'] at hw261_0)
        obtain rfl : ad250 = ad261 := (by injection e261)
        have qi261 : (0 < l1.length) = True := eq_true (by omega)
        (try rw [show ((0 : Int)).toNat = 0 from rfl] at hx261_0)
        (try rw [show 0 * 5 = 0 from rfl] at hx261_0)
        (try rw [Addr.add_zero'] at hx261_0)
        (try rw [show ((0 : Int)).toNat = 0 from rfl] at hx261_1)
        (try rw [show 0 * 5 = 0 from rfl] at hx261_1)
        (try rw [Addr.add_zero'] at hx261_1)
        (try rw [show ((0 : Int)).toNat = 0 from rfl] at hx261_2)
        (try rw [show 0 * 5 = 0 from rfl] at hx261_2)
        (try rw [Addr.add_zero'] at hx261_2)
        (try rw [show ((0 : Int)).toNat = 0 from rfl] at hx261_3)
        (try rw [show 0 * 5 = 0 from rfl] at hx261_3)
        (try rw [Addr.add_zero'] at hx261_3)
        (try rw [show ((0 : Int)).toNat = 0 from rfl] at hx261_4)
        (try rw [show 0 * 5 = 0 from rfl] at hx261_4)
        (try rw [Addr.add_zero'] at hx261_4)
        replace hx261_0 := (HB.out.cell (World.block_lt_of_cell? w _ hx261_0)).trans hx261_0
        replace hx261_1 := (HB.out.cell (World.block_lt_of_cell? w _ hx261_1)).trans hx261_1
        replace hx261_2 := (HB.out.cell (World.block_lt_of_cell? w _ hx261_2)).trans hx261_2
        replace hx261_3 := (HB.out.cell (World.block_lt_of_cell? w _ hx261_3)).trans hx261_3
        replace hx261_4 := (HB.out.cell (World.block_lt_of_cell? w _ hx261_4)).trans hx261_4
        have HR261_1 := Aside0.mk hi261_1
        have HC261_1 := Aside0.mk hl261_1
        clear hi261_1 hl261_1
        replace p261 := eq_true p261
        replace q261 := eq_true q261
        have p262 : 0 ≤ (1 : Int) := (by omega)
        have q262 : 1 < (l1.length : Int) := dq_
        obtain ⟨ad262, A262_1, c262_1, e262, hx262_0, hx262_1, hx262_2, hx262_3, hx262_4, hl262_1, hi262_1⟩ := at_T61 HR1.out 1 p262 q262
        have hw262_4 := hx262_4
        (try rw [show ((1 : Int)).toNat = 1 from rfl] at hw262_4)
        (try rw [show 1 * 5 = 5 from rfl] at hw262_4)
        (try simp only [Nat.reduceMul, Nat.reduceEqDiff, Go.Addr.add, ↓reduceIte] at hw262_4)
        have hw262_3 := hx262_3
        (try rw [show ((1 : Int)).toNat = 1 from rfl] at hw262_3)
        (try rw [show 1 * 5 = 5 from rfl] at hw262_3)
        (try simp only [Nat.reduceMul, Nat.reduceEqDiff, Go.Addr.add, ↓reduceIte] at hw262_3)
        have hw262_2 := hx262_2
        (try rw [show ((1 : Int)).toNat = 1 from rfl] at hw262_2)
        (try rw [show 1 * 5 = 5 from rfl] at hw262_2)
        (try simp only [Nat.reduceMul, Nat.reduceEqDiff, Go.Addr.add, ↓reduceIte] at hw262_2)
        have hw262_1 := hx262_1
        (try rw [show ((1 : Int)).toNat = 1 from rfl] at hw262_1)
        (try rw [show 1 * 5 = 5 from rfl] at hw262_1)
        (try simp only [Nat.reduceMul, Nat.reduceEqDiff, Go.Addr.add, ↓reduceIte] at hw262_1)
        have hw262_0 := hx262_0
        (try rw [show ((1 : Int)).toNat = 1 from rfl] at hw262_0)
        (try rw [show 1 * 5 = 5 from rfl] at hw262_0)
        (try simp only [Nat.reduceMul, Nat.reduceEqDiff, Go.Addr.add, ↓reduceIte] at hw262_0)
        obtain rfl : ad250 = ad262 := (by injection e262)
        (try simp only [show (1 : Int).toNat = 1 from rfl, Nat.reduceMul, Nat.reduceEqDiff, Go.Addr.add, ↓reduceIte] at hx262_0)
        (try simp only [show (1 : Int).toNat = 1 from rfl, Nat.reduceMul, Nat.reduceEqDiff, Go.Addr.add, ↓reduceIte] at hx262_1)
        (try simp only [show (1 : Int).toNat = 1 from rfl, Nat.reduceMul, Nat.reduceEqDiff, Go.Addr.add, ↓reduceIte] at hx262_2)
        (try simp only [show (1 : Int).toNat = 1 from rfl, Nat.reduceMul, Nat.reduceEqDiff, Go.Addr.add, ↓reduceIte] at hx262_3)
        (try simp only [show (1 : Int).toNat = 1 from rfl, Nat.reduceMul, Nat.reduceEqDiff, Go.Addr.add, ↓reduceIte] at hx262_4)
        have qi262 : (1 < l1.length) = True := eq_true (by omega)
        (try rw [show ((1 : Int)).toNat = 1 from rfl] at hx262_0)
        (try rw [show 1 * 5 = 5 from rfl] at hx262_0)
        (try rw [show ((1 : Int)).toNat = 1 from rfl] at hx262_1)
        (try rw [show 1 * 5 = 5 from rfl] at hx262_1)
        (try rw [show ((1 : Int)).toNat = 1 from rfl] at hx262_2)
        (try rw [show 1 * 5 = 5 from rfl] at hx262_2)
        (try rw [show ((1 : Int)).toNat = 1 from rfl] at hx262_3)
        (try rw [show 1 * 5 = 5 from rfl] at hx262_3)
        (try rw [show ((1 : Int)).toNat = 1 from rfl] at hx262_4)
        (try rw [show 1 * 5 = 5 from rfl] at hx262_4)
        replace hx262_0 := (HB.out.cell (World.block_lt_of_cell? w _ hx262_0)).trans hx262_0
        replace hx262_1 := (HB.out.cell (World.block_lt_of_cell? w _ hx262_1)).trans hx262_1
        replace hx262_2 := (HB.out.cell (World.block_lt_of_cell? w _ hx262_2)).trans hx262_2
        replace hx262_3 := (HB.out.cell (World.block_lt_of_cell? w _ hx262_3)).trans hx262_3
        replace hx262_4 := (HB.out.cell (World.block_lt_of_cell? w _ hx262_4)).trans hx262_4
        have HR262_1 := Aside0.mk hi262_1
        have HC262_1 := Aside0.mk hl262_1
        clear hi262_1 hl262_1
        replace p262 := eq_true p262
        replace q262 := eq_true q262
        have p263 : 0 ≤ (2 : Int) := (by omega)
        have q263 : 2 < (l1.length : Int) := dq_
        obtain ⟨ad263, A263_1, c263_1, e263, hx263_0, hx263_1, hx263_2, hx263_3, hx263_4, hl263_1, hi263_1⟩ := at_T61 HR1.out 2 p263 q263
        have hw263_4 := hx263_4
        (try rw [show ((2 : Int)).toNat = 2 from rfl] at hw263_4)
        (try rw [show 2 * 5 = 10 from rfl] at hw263_4)
        (try simp only [Nat.reduceMul, Nat.reduceEqDiff, Go.Addr.add, ↓reduceIte] at hw263_4)
        have hw263_3 := hx263_3
        (try rw [show ((2 : Int)).toNat = 2 from rfl] at hw263_3)
        (try rw [show 2 * 5 = 10 from rfl] at hw263_3)
        (try simp only [Nat.reduceMul, Nat.reduceEqDiff, Go.Addr.add, ↓reduceIte] at hw263_3)
        have hw263_2 := hx263_2
        (try rw [show ((2 : Int)).toNat = 2 from rfl] at hw263_2)
        (try rw [show 2 * 5 = 10 from rfl] at hw263_2)
        (try simp only [Nat.reduceMul, Nat.reduceEqDiff, Go.Addr.add, ↓reduceIte] at hw263_2)
        have hw263_1 := hx263_1
        (try rw [show ((2 : Int)).toNat = 2 from rfl] at hw263_1)
        (try rw [show 2 * 5 = 10 from rfl] at hw263_1)
        (try simp only [Nat.reduceMul, Nat.reduceEqDiff, Go.Addr.add, ↓reduceIte] at hw263_1)
        have hw263_0 := hx263_0
        (try rw [show ((2 : Int)).toNat = 2 from rfl] at hw263_0)
        (try rw [show 2 * 5 = 10 from rfl] at hw263_0)
        (try simp only [Nat.reduceMul, Nat.reduceEqDiff, Go.Addr.add, ↓reduceIte] at hw263_0)
        obtain rfl : ad250 = ad263 := (by injection e263)
        (try simp only [show (2 : Int).toNat = 2 from rfl, Nat.reduceMul, Nat.reduceEqDiff, Go.Addr.add, ↓reduceIte] at hx263_0)
        (try simp only [show (2 : Int).toNat = 2 from rfl, Nat.reduceMul, Nat.reduceEqDiff, Go.Addr.add, ↓reduceIte] at hx263_1)
        (try simp only [show (2 : Int).toNat = 2 from rfl, Nat.reduceMul, Nat.reduceEqDiff, Go.Addr.add, ↓reduceIte] at hx263_2)
        (try simp only [show (2 : Int).toNat = 2 from rfl, Nat.reduceMul, Nat.reduceEqDiff, Go.Addr.add, ↓reduceIte] at hx263_3)
        (try simp only [show (2 : Int).toNat = 2 from rfl, Nat.reduceMul, Nat.reduceEqDiff, Go.Addr.add, ↓reduceIte] at hx263_4)
        have qi263 : (2 < l1.length) = True := eq_true (by omega)
        (try rw [show ((2 : Int)).toNat = 2 from rfl] at hx263_0)
        (try rw [show 2 * 5 = 10 from rfl] at hx263_0)
        (try rw [show ((2 : Int)).toNat = 2 from rfl] at hx263_1)
        (try rw [show 2 * 5 = 10 from rfl] at hx263_1)
        (try rw [show ((2 : Int)).toNat = 2 from rfl] at hx263_2)
        (try rw [show 2 * 5 = 10 from rfl] at hx263_2)
        (try rw [show ((2 : Int)).toNat = 2 from rfl] at hx263_3)
        (try rw [show 2 * 5 = 10 from rfl] at hx263_3)
        (try rw [show ((2 : Int)).toNat = 2 from rfl] at hx263_4)
        (try rw [show 2 * 5 = 10 from rfl] at hx263_4)
        replace hx263_0 := (HB.out.cell (World.block_lt_of_cell? w _ hx263_0)).trans hx263_0
        replace hx263_1 := (HB.out.cell (World.block_lt_of_cell? w _ hx263_1)).trans hx263_1
        replace hx263_2 := (HB.out.cell (World.block_lt_of_cell? w _ hx263_2)).trans hx263_2
        replace hx263_3 := (HB.out.cell (World.block_lt_of_cell? w _ hx263_3)).trans hx263_3
        replace hx263_4 := (HB.out.cell (World.block_lt_of_cell? w _ hx263_4)).trans hx263_4
        have HR263_1 := Aside0.mk hi263_1
        have HC263_1 := Aside0.mk hl263_1
        clear hi263_1 hl263_1
        replace p263 := eq_true p263
        replace q263 := eq_true q263
        refine start_ (n := 15) (S := fun w' => w'.cell? ad250 = some (.int .i64 ((rd_T61 l1 0).f0)) ∧ w'.cell? ⟨ad250.block, ad250.off + 1, none⟩ = some (.slice A261_1 ((rd_T61 l1 0).f1).length c261_1) ∧ w'.cell? ⟨ad250.block, ad250.off + 2, none⟩ = some (.int .i64 ((rd_T61 l1 0).f2)) ∧ w'.cell? ⟨ad250.block, ad250.off + 3, none⟩ = some (.int .i64 ((rd_T61 l1 0).f3)) ∧ w'.cell? ⟨ad250.block, ad250.off + 4, none⟩ = some (.int .i64 ((rd_T61 l1 0).f4)) ∧ w'.cell? ⟨ad250.block, ad250.off + 5, none⟩ = some (.int .i64 ((rd_T61 l1 1).f0)) ∧ w'.cell? ⟨ad250.block, ad250.off + 5 + 1, none⟩ = some (.slice A262_1 ((rd_T61 l1 1).f1).length c262_1) ∧ w'.cell? ⟨ad250.block, ad250.off + 5 + 2, none⟩ = some (.int .i64 ((rd_T61 l1 1).f2)) ∧ w'.cell? ⟨ad250.block, ad250.off + 5 + 3, none⟩ = some (.int .i64 ((rd_T61 l1 1).f3)) ∧ w'.cell? ⟨ad250.block, ad250.off + 5 + 4, none⟩ = some (.int .i64 ((rd_T61 l1 1).f4)) ∧ w'.cell? ⟨ad250.block, ad250.off + 10, none⟩ = some (.int .i64 ((rd_T61 l1 2).f0)) ∧ w'.cell? ⟨ad250.block, ad250.off + 10 + 1, none⟩ = some (.slice A263_1 ((rd_T61 l1 2).f1).length c263_1) ∧ w'.cell? ⟨ad250.block, ad250.off + 10 + 2, none⟩ = some (.int .i64 ((rd_T61 l1 2).f2)) ∧ w'.cell? ⟨ad250.block, ad250.off + 10 + 3, none⟩ = some (.int .i64 ((rd_T61 l1 2).f3)) ∧ w'.cell? ⟨ad250.block, ad250.off + 10 + 4, none⟩ = some (.int .i64 ((rd_T61 l1 2).f4))) (ds := []) #[false, false, false, false, false, false, false, false, false, false, false, false, false, false, false] (by kernel_rfl) rfl rfl ⟨((HB.out.cell (World.block_lt_of_cell? w _ hw261_0)).trans hw261_0), ((HB.out.cell (World.block_lt_of_cell? w _ hw261_1)).trans hw261_1), ((HB.out.cell (World.block_lt_of_cell? w _ hw261_2)).trans hw261_2), ((HB.out.cell (World.block_lt_of_cell? w _ hw261_3)).trans hw261_3), ((HB.out.cell (World.block_lt_of_cell? w _ hw261_4)).trans hw261_4), ((HB.out.cell (World.block_lt_of_cell? w _ hw262_0)).trans hw262_0), ((HB.out.cell (World.block_lt_of_cell? w _ hw262_1)).trans hw262_1), ((HB.out.cell (World.block_lt_of_cell? w _ hw262_2)).trans hw262_2), ((HB.out.cell (World.block_lt_of_cell? w _ hw262_3)).trans hw262_3), ((HB.out.cell (World.block_lt_of_cell? w _ hw262_4)).trans hw262_4), ((HB.out.cell (World.block_lt_of_cell? w _ hw263_0)).trans hw263_0), ((HB.out.cell (World.block_lt_of_cell? w _ hw263_1)).trans hw263_1), ((HB.out.cell (World.block_lt_of_cell? w _ hw263_2)).trans hw263_2), ((HB.out.cell (World.block_lt_of_cell? w _ hw263_3)).trans hw263_3), ((HB.out.cell (World.block_lt_of_cell? w _ hw263_4)).trans hw263_4)⟩ (fun hHeld => ?_); refine with_tabW mul_Filter.tab11 mul_Filter.bits11 (fun HT_ HW_ => ?_)
        generalize w30.drew = w32 at BK248 HB HR261_1 HR262_1 HR263_1 hx261_0 hx261_1 hx261_2 hx261_3 hx261_4 hx262_0 hx262_1 hx262_2 hx262_3 hx262_4 hx263_0 hx263_1 hx263_2 hx263_3 hx263_4 hHeld ⊢
        refine pur_ (i := 0) (N := some 32) #[true, false, false, false, false, false, false, false, false, false, false, false, false, false, false] (any_of HT_.out (by kernel_rfl)) ?_
        refine pur_ (i := 1) (N := some 33) #[true, true, false, false, false, false, false, false, false, false, false, false, false, false, false] (any_of HT_.out (by kernel_rfl)) ?_
        refine pur_ (i := 3) (N := some 35) #[true, true, false, true, false, false, false, false, false, false, false, false, false, false, false] (any_of HT_.out (by kernel_rfl)) ?_
        refine pur_ (i := 4) (N := some 36) #[true, true, false, true, true, false, false, false, false, false, false, false, false, false, false] (any_of HT_.out (by kernel_rfl)) ?_
        refine pur_ (i := 6) (N := some 38) #[true, true, false, true, true, false, true, false, false, false, false, false, false, false, false] (any_of HT_.out (by kernel_rfl)) ?_
        refine pur_ (i := 7) (N := some 39) #[true, true, false, true, true, false, true, true, false, false, false, false, false, false, false] (any_of HT_.out (by kernel_rfl)) ?_
        refine pur_ (i := 9) (N := some 41) #[true, true, false, true, true, false, true, true, false, true, false, false, false, false, false] (any_of HT_.out (by kernel_rfl)) ?_
        refine take_ (i := 2) (N := some 34) (v := ?_) (a' := ?_) #[true, true, true, true, true, false, true, true, false, true, false, false, false, false, false] rfl rfl (take_ofW HT_.out HW_.out (by kernel_rfl)) (fun _ _ _ h => h) (Or.inl ⟨by rfl, ?_⟩) hHeld ?_ ?_
        rotate_left
        ·
         rintro w' ⟨s0, s1, s2, s3, s4, s5, s6, s7, s8, s9, s10, s11, s12, s13, s14⟩
         go_simp
         with_reducible rfl
        rotate_left
        ·
         simp only [Act.put, List.setIfInBounds_toArray, List.set_cons_zero, List.set_cons_succ, i64_w, i32_w]
         rfl
        refine take_ (i := 5) (N := some 37) (v := ?_) (a' := ?_) #[true, true, true, true, true, true, true, true, false, true, false, false, false, false, false] rfl rfl (take_ofW HT_.out HW_.out (by kernel_rfl)) (fun _ _ _ h => h) (Or.inl ⟨by rfl, ?_⟩) hHeld ?_ ?_
        rotate_left
        ·
         rintro w' ⟨s0, s1, s2, s3, s4, s5, s6, s7, s8, s9, s10, s11, s12, s13, s14⟩
         go_simp
         with_reducible rfl
        rotate_left
        ·
         simp only [Act.put, List.setIfInBounds_toArray, List.set_cons_zero, List.set_cons_succ, i64_w, i32_w]
         rfl
        refine take_ (i := 8) (N := some 40) (v := ?_) (a' := ?_) #[true, true, true, true, true, true, true, true, true, true, false, false, false, false, false] rfl rfl (take_ofW HT_.out HW_.out (by kernel_rfl)) (fun _ _ _ h => h) (Or.inl ⟨by rfl, ?_⟩) hHeld ?_ ?_
        rotate_left
        ·
         rintro w' ⟨s0, s1, s2, s3, s4, s5, s6, s7, s8, s9, s10, s11, s12, s13, s14⟩
         go_simp
         with_reducible rfl
        rotate_left
        ·
         simp only [Act.put, List.setIfInBounds_toArray, List.set_cons_zero, List.set_cons_succ, i64_w, i32_w]
         rfl
        refine one_ (i := 10) (N := some 42) #[true, true, true, true, true, true, true, true, true, true, true, false, false, false, false] rfl rfl (one_of HT_.out (by kernel_rfl)) (by decide) (fun K hK => ?_)
        refine goes_ Tryz.func33 (by kernel_rfl) rfl #[.agg #[.int .i64 ((rd_T61 l1 0).f0), .slice A261_1 ((rd_T61 l1 0).f1).length c261_1, .int .i64 ((rd_T61 l1 0).f2), .int .i64 ((rd_T61 l1 0).f3), .int .i64 ((rd_T61 l1 0).f4)], .agg #[.int .i64 ((rd_T61 l1 1).f0), .slice A262_1 ((rd_T61 l1 1).f1).length c262_1, .int .i64 ((rd_T61 l1 1).f2), .int .i64 ((rd_T61 l1 1).f3), .int .i64 ((rd_T61 l1 1).f4)], .agg #[.int .i64 ((rd_T61 l1 2).f0), .slice A263_1 ((rd_T61 l1 2).f1).length c263_1, .int .i64 ((rd_T61 l1 2).f2), .int .i64 ((rd_T61 l1 2).f3), .int .i64 ((rd_T61 l1 2).f4)], .func (.func 32) #[] #[]] (by rfl) rfl rfl ar_ ?_
        with_reducible refine (prop_Pairs_at_num_Rem.calls k ((rd_T61 l1 0).f0) _ _ ((rd_T61 l1 0).f1) ((rd_T61 l1 0).f2) ((rd_T61 l1 0).f3) ((rd_T61 l1 0).f4) ((rd_T61 l1 1).f0) _ _ ((rd_T61 l1 1).f1) ((rd_T61 l1 1).f2) ((rd_T61 l1 1).f3) ((rd_T61 l1 1).f4) ((rd_T61 l1 2).f0) _ _ ((rd_T61 l1 2).f1) ((rd_T61 l1 2).f2) ((rd_T61 l1 2).f3) ((rd_T61 l1 2).f4) t264 t267 _ ?_ ?_ ?_ ?_ ?_ ?_ ?_ A24.out).mono ?_
        exact ca_ ((Kd.C_below HR261_1.out HB.out))
        exact HC261_1.out
        exact ca_ ((Kd.C_below HR262_1.out HB.out))
        exact HC262_1.out
        exact ca_ ((Kd.C_below HR263_1.out HB.out))
        exact HC263_1.out
        exact ca_ ((Kd.C_below HRtab.out HB.out))
        rintro e w33 ⟨v265, rfl, ho0, hb⟩
        refine ⟨_, rfl, ?_⟩
        have HO266 := Aside0.mk (Kd.N_lower (Kd.N_mono (ok' := fun k_ => (w.heap.size ≤ k_) ∧ k_ ≠ gb248) ho0 (fun k_ hk_ => ⟨(Nat.le_trans (below_size bel_) hk_), (Kd.freshB (bk_ BK248.out) k_ hk_)⟩)) (below_size bel_))
        replace HB := Aside0.mk (below_step bel_ hb)
        clear hb ho0
        refine hK.out _ _ ⟨((HB.out.cell (World.block_lt_of_cell? w _ hw261_0)).trans hw261_0), ((HB.out.cell (World.block_lt_of_cell? w _ hw261_1)).trans hw261_1), ((HB.out.cell (World.block_lt_of_cell? w _ hw261_2)).trans hw261_2), ((HB.out.cell (World.block_lt_of_cell? w _ hw261_3)).trans hw261_3), ((HB.out.cell (World.block_lt_of_cell? w _ hw261_4)).trans hw261_4), ((HB.out.cell (World.block_lt_of_cell? w _ hw262_0)).trans hw262_0), ((HB.out.cell (World.block_lt_of_cell? w _ hw262_1)).trans hw262_1), ((HB.out.cell (World.block_lt_of_cell? w _ hw262_2)).trans hw262_2), ((HB.out.cell (World.block_lt_of_cell? w _ hw262_3)).trans hw262_3), ((HB.out.cell (World.block_lt_of_cell? w _ hw262_4)).trans hw262_4), ((HB.out.cell (World.block_lt_of_cell? w _ hw263_0)).trans hw263_0), ((HB.out.cell (World.block_lt_of_cell? w _ hw263_1)).trans hw263_1), ((HB.out.cell (World.block_lt_of_cell? w _ hw263_2)).trans hw263_2), ((HB.out.cell (World.block_lt_of_cell? w _ hw263_3)).trans hw263_3), ((HB.out.cell (World.block_lt_of_cell? w _ hw263_4)).trans hw263_4)⟩ (fun hHeld => ?_)
        clear hK K
        refine nor_ (N := some 42) ?_
        refine pur_ (i := 11) (N := some 43) #[true, true, true, true, true, true, true, true, true, true, true, true, false, false, false] (any_of HT_.out (by kernel_rfl)) ?_
        refine pur_ (i := 12) (N := some 44) #[true, true, true, true, true, true, true, true, true, true, true, true, true, false, false] (any_of HT_.out (by kernel_rfl)) ?_
        refine pur_ (i := 13) (N := some 4) #[true, true, true, true, true, true, true, true, true, true, true, true, true, true, false] (any_of HT_.out (by kernel_rfl)) ?_
        refine pur_ (i := 14) (N := some 5) #[true, true, true, true, true, true, true, true, true, true, true, true, true, true, true] (any_of HT_.out (by kernel_rfl)) ?_
        refine done_ (done_of HT_.out (by kernel_rfl)) ?_
        try go_wp2
        go_ret2
        exact ⟨_, by first | rfl | (simp [errW_none, errW_some] <;> rfl) | (simp [*, errW_none, errW_some] <;> rfl), by refine vN_ ?_; exact Kd.N_mono HO266.out (fun _ hk => hk.1), bel_⟩
       ·
        rw [if_neg c23] at H
        exact absurd H (by simp)
      ·
       rw [if_neg c22] at H
       have c22b0 : (a0_0 == 7) = false := beq_eq_false_iff_ne.mpr c22
       have c22b1 : (a0_0 != 7) = true := bne_iff_ne.mpr c22
       by_cases c34 : 2 < (l1.length : Int)
       ·
        rw [if_pos c34] at H
        have c34b0 : decide (2 < (l1.length : Int)) = true := decide_eq_true c34
        have c34b1 : decide (2 < l1.length) = true := decide_eq_true (by omega)
        clear c34
        replace H := Option.bind_eq_some_iff.mp H
        obtain ⟨⟨t271, t274⟩, A350, H⟩ := H
        replace H : (some (t271, t274)) = some (r1, r2) := H
        have A35 := Aside0.mk A350
        clear A350
        simp only [Option.some.injEq, Prod.mk.injEq] at H
        obtain ⟨rfl, rfl⟩ := H
        go_enter Tryz.func10, Tryz.ntmps10
        try go_wp2_with (first | ((with_reducible refine gate_dst (N := 2) rfl ?_); refine bxe_ (N := 2) (cs := #[.int .i64 a0_0, .slice A0_1 l0_1.length c0_1, .slice A0_2 l0_2.length c0_2, .slice A0_3 l0_3.length c0_3, .slice A0_4 l0_4.length c0_4, .slice A0_5 l0_5.length c0_5, .int .i64 a0_6, .slice A0_7 l0_7.length c0_7]) (t := 32) ?_; intro gb248 hg w36 hbox hb; have BK248 := Aside0.mk (hbox); have GW248 := Aside0.mk (by rw [hg]; exact (below_size bel_) : w.heap.size ≤ gb248); have GE248 := GW248; replace HB := Aside0.mk (below_step bel_ hb); clear hb hbox hg; obtain ⟨_, _, _, _, _, _, _, _, _, _, _, _, _, _, _, _⟩ := cel8_ BK248.out) | ((with_reducible refine gate_callee (f := 27) rfl ?_); refine goesL_ (some 9) rfl rfl Tryz.func27 (by kernel_rfl) rfl #[.agg #[.int .i64 a0_0, .slice A0_1 l0_1.length c0_1, .slice A0_2 l0_2.length c0_2, .slice A0_3 l0_3.length c0_3, .slice A0_4 l0_4.length c0_4, .slice A0_5 l0_5.length c0_5, .int .i64 a0_6, .slice A0_7 l0_7.length c0_7], .slice A1 l1.length c1, .int .i64 5, .int .i64 7] rfl ar_ ?_; (with_reducible refine (prop_Fits.calls k a0_0 _ _ l0_1 _ _ l0_2 _ _ l0_3 _ _ l0_4 _ _ l0_5 a0_6 _ _ l0_7 _ _ l1 5 7 true _ ?_ ?_ ?_ ?_ ?_ ?_ ?_ ?_ ?_ ?_ ?_ ?_ ?_ ?_ A3.out).mono ?_); exact ca_ ((Kd.C_below HR0_1.out HB.out)); exact HC0_1.out; exact ca_ ((Kd.C_below HR0_2.out HB.out)); exact HC0_2.out; exact ca_ ((Kd.C_below HR0_3.out HB.out)); exact HC0_3.out; exact ca_ ((Kd.C_below HR0_4.out HB.out)); exact HC0_4.out; exact ca_ ((Kd.C_below HR0_5.out HB.out)); exact HC0_5.out; exact ca_ ((Kd.C_below HR0_7.out HB.out)); exact HC0_7.out; exact ca_ ((Kd.C_below HR1.out HB.out)); exact HC1.out; rintro e w38 ⟨rfl, hb⟩; refine ⟨_, rfl, ?_⟩; replace BK248 := Aside0.mk (blk_below (bk_ BK248.out) hb); replace HB := Aside0.mk (below_step bel_ hb); clear hb))
        replace BK248 := Aside0.mk (blk_drew BK248.out)
        replace HB := Aside0.mk (below_drew1 HB.out)
        have p250 : 0 ≤ (0 : Int) := (by omega)
        have q250 : 0 < (l1.length : Int) := dq_
        obtain ⟨ad250, A250_1, c250_1, e250, hx250_0, hx250_1, hx250_2, hx250_3, hx250_4, hl250_1, hi250_1⟩ := at_T61 HR1.out 0 p250 q250
        have hw250_4 := hx250_4
        (try rw [show ((0 : Int)).toNat = 0 from rfl] at hw250_4)
        (try rw [show 0 * 5 = 0 from rfl] at hw250_4)
        (try rw [Addr.add_zero'] at hw250_4)
        have hw250_3 := hx250_3
        (try rw [show ((0 : Int)).toNat = 0 from rfl] at hw250_3)
        (try rw [show 0 * 5 = 0 from rfl] at hw250_3)
        (try rw [Addr.add_zero'] at hw250_3)
        have hw250_2 := hx250_2
        (try rw [show ((0 : Int)).toNat = 0 from rfl] at hw250_2)
        (try rw [show 0 * 5 = 0 from rfl] at hw250_2)
        (try rw [Addr.add_zero'] at hw250_2)
        have hw250_1 := hx250_1
        (try rw [show ((0 : Int)).toNat = 0 from rfl] at hw250_1)
        (try rw [show 0 * 5 = 0 from rfl] at hw250_1)
        (try rw [Addr.add_zero'] at hw250_1)
        have hw250_0 := hx250_0
        (try rw [show ((0 : Int)).toNat = 0 from rfl] at hw250_0)
        (try rw [show 0 * 5 = 0 from rfl] at hw250_0)
        (try rw [Addr.add_zero'] at hw250_0)
        cases e250
        have qi250 : (0 < l1.length) = True := eq_true (by omega)
        (try rw [show ((0 : Int)).toNat = 0 from rfl] at hx250_0)
        (try rw [show 0 * 5 = 0 from rfl] at hx250_0)
        (try rw [Addr.add_zero'] at hx250_0)
        (try rw [show ((0 : Int)).toNat = 0 from rfl] at hx250_1)
        (try rw [show 0 * 5 = 0 from rfl] at hx250_1)
        (try rw [Addr.add_zero'] at hx250_1)
        (try rw [show ((0 : Int)).toNat = 0 from rfl] at hx250_2)
        (try rw [show 0 * 5 = 0 from rfl] at hx250_2)
        (try rw [Addr.add_zero'] at hx250_2)
        (try rw [show ((0 : Int)).toNat = 0 from rfl] at hx250_3)
        (try rw [show 0 * 5 = 0 from rfl] at hx250_3)
        (try rw [Addr.add_zero'] at hx250_3)
        (try rw [show ((0 : Int)).toNat = 0 from rfl] at hx250_4)
        (try rw [show 0 * 5 = 0 from rfl] at hx250_4)
        (try rw [Addr.add_zero'] at hx250_4)
        replace hx250_0 := (HB.out.cell (World.block_lt_of_cell? w _ hx250_0)).trans hx250_0
        replace hx250_1 := (HB.out.cell (World.block_lt_of_cell? w _ hx250_1)).trans hx250_1
        replace hx250_2 := (HB.out.cell (World.block_lt_of_cell? w _ hx250_2)).trans hx250_2
        replace hx250_3 := (HB.out.cell (World.block_lt_of_cell? w _ hx250_3)).trans hx250_3
        replace hx250_4 := (HB.out.cell (World.block_lt_of_cell? w _ hx250_4)).trans hx250_4
        have HR250_1 := Aside0.mk hi250_1
        have HC250_1 := Aside0.mk hl250_1
        clear hi250_1 hl250_1
        replace p250 := eq_true p250
        replace q250 := eq_true q250
        have p252 : 0 ≤ (1 : Int) := (by omega)
        have q252 : 1 < (l1.length : Int) := dq_
        obtain ⟨ad252, A252_1, c252_1, e252, hx252_0, hx252_1, hx252_2, hx252_3, hx252_4, hl252_1, hi252_1⟩ := at_T61 HR1.out 1 p252 q252
        have hw252_4 := hx252_4
        (try rw [show ((1 : Int)).toNat = 1 from rfl] at hw252_4)
        (try rw [show 1 * 5 = 5 from rfl] at hw252_4)
        (try simp only [Nat.reduceMul, Nat.reduceEqDiff, Go.Addr.add, ↓reduceIte] at hw252_4)
        have hw252_3 := hx252_3
        (try rw [show ((1 : Int)).toNat = 1 from rfl] at hw252_3)
        (try rw [show 1 * 5 = 5 from rfl] at hw252_3)
        (try simp only [Nat.reduceMul, Nat.reduceEqDiff, Go.Addr.add, ↓reduceIte] at hw252_3)
        have hw252_2 := hx252_2
        (try rw [show ((1 : Int)).toNat = 1 from rfl] at hw252_2)
        (try rw [show 1 * 5 = 5 from rfl] at hw252_2)
        (try simp only [Nat.reduceMul, Nat.reduceEqDiff, Go.Addr.add, ↓reduceIte] at hw252_2)
        have hw252_1 := hx252_1
        (try rw [show ((1 : Int)).toNat = 1 from rfl] at hw252_1)
        (try rw [show 1 * 5 = 5 from rfl] at hw252_1)
        (try simp only [Nat.reduceMul, Nat.reduceEqDiff, Go.Addr.add, ↓reduceIte] at hw252_1)
        have hw252_0 := hx252_0
        (try rw [show ((1 : Int)).toNat = 1 from rfl] at hw252_0)
        (try rw [show 1 * 5 = 5 from rfl] at hw252_0)
        (try simp only [Nat.reduceMul, Nat.reduceEqDiff, Go.Addr.add, ↓reduceIte] at hw252_0)
        obtain rfl : ad250 = ad252 := (by injection e252)
        (try simp only [show (1 : Int).toNat = 1 from rfl, Nat.reduceMul, Nat.reduceEqDiff, Go.Addr.add, ↓reduceIte] at hx252_0)
        (try simp only [show (1 : Int).toNat = 1 from rfl, Nat.reduceMul, Nat.reduceEqDiff, Go.Addr.add, ↓reduceIte] at hx252_1)
        (try simp only [show (1 : Int).toNat = 1 from rfl, Nat.reduceMul, Nat.reduceEqDiff, Go.Addr.add, ↓reduceIte] at hx252_2)
        (try simp only [show (1 : Int).toNat = 1 from rfl, Nat.reduceMul, Nat.reduceEqDiff, Go.Addr.add, ↓reduceIte] at hx252_3)
        (try simp only [show (1 : Int).toNat = 1 from rfl, Nat.reduceMul, Nat.reduceEqDiff, Go.Addr.add, ↓reduceIte] at hx252_4)
        have qi252 : (1 < l1.length) = True := eq_true (by omega)
        (try rw [show ((1 : Int)).toNat = 1 from rfl] at hx252_0)
        (try rw [show 1 * 5 = 5 from rfl] at hx252_0)
        (try rw [show ((1 : Int)).toNat = 1 from rfl] at hx252_1)
        (try rw [show 1 * 5 = 5 from rfl] at hx252_1)
        (try rw [show ((1 : Int)).toNat = 1 from rfl] at hx252_2)
        (try rw [show 1 * 5 = 5 from rfl] at hx252_2)
        (try rw [show ((1 : Int)).toNat = 1 from rfl] at hx252_3)
        (try rw [show 1 * 5 = 5 from rfl] at hx252_3)
        (try rw [show ((1 : Int)).toNat = 1 from rfl] at hx252_4)
        (try rw [show 1 * 5 = 5 from rfl] at hx252_4)
        replace hx252_0 := (HB.out.cell (World.block_lt_of_cell? w _ hx252_0)).trans hx252_0
        replace hx252_1 := (HB.out.cell (World.block_lt_of_cell? w _ hx252_1)).trans hx252_1
        replace hx252_2 := (HB.out.cell (World.block_lt_of_cell? w _ hx252_2)).trans hx252_2
        replace hx252_3 := (HB.out.cell (World.block_lt_of_cell? w _ hx252_3)).trans hx252_3
        replace hx252_4 := (HB.out.cell (World.block_lt_of_cell? w _ hx252_4)).trans hx252_4
        have HR252_1 := Aside0.mk hi252_1
        have HC252_1 := Aside0.mk hl252_1
        clear hi252_1 hl252_1
        replace p252 := eq_true p252
        replace q252 := eq_true q252
        refine start_ (n := 10) (S := fun w' => w'.cell? ad250 = some (.int .i64 ((rd_T61 l1 0).f0)) ∧ w'.cell? ⟨ad250.block, ad250.off + 1, none⟩ = some (.slice A250_1 ((rd_T61 l1 0).f1).length c250_1) ∧ w'.cell? ⟨ad250.block, ad250.off + 2, none⟩ = some (.int .i64 ((rd_T61 l1 0).f2)) ∧ w'.cell? ⟨ad250.block, ad250.off + 3, none⟩ = some (.int .i64 ((rd_T61 l1 0).f3)) ∧ w'.cell? ⟨ad250.block, ad250.off + 4, none⟩ = some (.int .i64 ((rd_T61 l1 0).f4)) ∧ w'.cell? ⟨ad250.block, ad250.off + 5, none⟩ = some (.int .i64 ((rd_T61 l1 1).f0)) ∧ w'.cell? ⟨ad250.block, ad250.off + 5 + 1, none⟩ = some (.slice A252_1 ((rd_T61 l1 1).f1).length c252_1) ∧ w'.cell? ⟨ad250.block, ad250.off + 5 + 2, none⟩ = some (.int .i64 ((rd_T61 l1 1).f2)) ∧ w'.cell? ⟨ad250.block, ad250.off + 5 + 3, none⟩ = some (.int .i64 ((rd_T61 l1 1).f3)) ∧ w'.cell? ⟨ad250.block, ad250.off + 5 + 4, none⟩ = some (.int .i64 ((rd_T61 l1 1).f4))) (ds := []) #[false, false, false, false, false, false, false, false, false, false] (by kernel_rfl) rfl rfl ⟨((HB.out.cell (World.block_lt_of_cell? w _ hw250_0)).trans hw250_0), ((HB.out.cell (World.block_lt_of_cell? w _ hw250_1)).trans hw250_1), ((HB.out.cell (World.block_lt_of_cell? w _ hw250_2)).trans hw250_2), ((HB.out.cell (World.block_lt_of_cell? w _ hw250_3)).trans hw250_3), ((HB.out.cell (World.block_lt_of_cell? w _ hw250_4)).trans hw250_4), ((HB.out.cell (World.block_lt_of_cell? w _ hw252_0)).trans hw252_0), ((HB.out.cell (World.block_lt_of_cell? w _ hw252_1)).trans hw252_1), ((HB.out.cell (World.block_lt_of_cell? w _ hw252_2)).trans hw252_2), ((HB.out.cell (World.block_lt_of_cell? w _ hw252_3)).trans hw252_3), ((HB.out.cell (World.block_lt_of_cell? w _ hw252_4)).trans hw252_4)⟩ (fun hHeld => ?_); refine with_tabW mul_Filter.tab3 mul_Filter.bits3 (fun HT_ HW_ => ?_)
        generalize w38.drew = w39 at BK248 HB HR250_1 HR252_1 hx250_0 hx250_1 hx250_2 hx250_3 hx250_4 hx252_0 hx252_1 hx252_2 hx252_3 hx252_4 hHeld ⊢
        refine pur_ (i := 0) (N := some 11) #[true, false, false, false, false, false, false, false, false, false] (any_of HT_.out (by kernel_rfl)) ?_
        refine pur_ (i := 1) (N := some 12) #[true, true, false, false, false, false, false, false, false, false] (any_of HT_.out (by kernel_rfl)) ?_
        refine pur_ (i := 4) (N := some 15) #[true, true, false, false, true, false, false, false, false, false] (any_of HT_.out (by kernel_rfl)) ?_
        refine pur_ (i := 5) (N := some 16) #[true, true, false, false, true, true, false, false, false, false] (any_of HT_.out (by kernel_rfl)) ?_
        refine take_ (i := 2) (N := some 13) (v := ?_) (a' := ?_) #[true, true, true, false, true, true, false, false, false, false] rfl rfl (take_ofW HT_.out HW_.out (by kernel_rfl)) (fun _ _ _ h => h) (Or.inl ⟨by rfl, ?_⟩) hHeld ?_ ?_
        rotate_left
        ·
         rintro w' ⟨s0, s1, s2, s3, s4, s5, s6, s7, s8, s9⟩
         go_simp
         with_reducible rfl
        rotate_left
        ·
         simp only [Act.put, List.setIfInBounds_toArray, List.set_cons_zero, List.set_cons_succ, i64_w, i32_w]
         rfl
        refine take_ (i := 6) (N := some 17) (v := ?_) (a' := ?_) #[true, true, true, false, true, true, true, false, false, false] rfl rfl (take_ofW HT_.out HW_.out (by kernel_rfl)) (fun _ _ _ h => h) (Or.inl ⟨by rfl, ?_⟩) hHeld ?_ ?_
        rotate_left
        ·
         rintro w' ⟨s0, s1, s2, s3, s4, s5, s6, s7, s8, s9⟩
         go_simp
         with_reducible rfl
        rotate_left
        ·
         simp only [Act.put, List.setIfInBounds_toArray, List.set_cons_zero, List.set_cons_succ, i64_w, i32_w]
         rfl
        refine one_ (i := 3) (N := some 14) #[true, true, true, true, true, true, true, false, false, false] rfl rfl (one_of HT_.out (by kernel_rfl)) (by decide) (fun K hK => ?_)
        refine goes_ Tryz.func28 (by kernel_rfl) rfl #[.agg #[.int .i64 ((rd_T61 l1 0).f0), .slice A250_1 ((rd_T61 l1 0).f1).length c250_1, .int .i64 ((rd_T61 l1 0).f2), .int .i64 ((rd_T61 l1 0).f3), .int .i64 ((rd_T61 l1 0).f4)]] (by rfl) rfl rfl ar_ ?_
        with_reducible refine (dom_Dom_Size.calls ((rd_T61 l1 0).f0) _ _ ((rd_T61 l1 0).f1) ((rd_T61 l1 0).f2) ((rd_T61 l1 0).f3) ((rd_T61 l1 0).f4) t251 _ ?_ ?_ A6.out).mono ?_
        exact ca_ ((Kd.C_below HR250_1.out HB.out))
        exact HC250_1.out
        rintro e w40 ⟨rfl, hb⟩
        refine ⟨_, rfl, ?_⟩
        replace BK248 := Aside0.mk (blk_below (bk_ BK248.out) hb)
        replace HB := Aside0.mk (below_step bel_ hb)
        clear hb
        refine hK.out _ _ ⟨((HB.out.cell (World.block_lt_of_cell? w _ hw250_0)).trans hw250_0), ((HB.out.cell (World.block_lt_of_cell? w _ hw250_1)).trans hw250_1), ((HB.out.cell (World.block_lt_of_cell? w _ hw250_2)).trans hw250_2), ((HB.out.cell (World.block_lt_of_cell? w _ hw250_3)).trans hw250_3), ((HB.out.cell (World.block_lt_of_cell? w _ hw250_4)).trans hw250_4), ((HB.out.cell (World.block_lt_of_cell? w _ hw252_0)).trans hw252_0), ((HB.out.cell (World.block_lt_of_cell? w _ hw252_1)).trans hw252_1), ((HB.out.cell (World.block_lt_of_cell? w _ hw252_2)).trans hw252_2), ((HB.out.cell (World.block_lt_of_cell? w _ hw252_3)).trans hw252_3), ((HB.out.cell (World.block_lt_of_cell? w _ hw252_4)).trans hw252_4)⟩ (fun hHeld => ?_)
        clear hK K
        refine nor_ (N := some 14) ?_
        refine one_ (i := 7) (N := some 18) #[true, true, true, true, true, true, true, true, false, false] rfl rfl (one_of HT_.out (by kernel_rfl)) (by decide) (fun K hK => ?_)
        refine goes_ Tryz.func28 (by kernel_rfl) rfl #[.agg #[.int .i64 ((rd_T61 l1 1).f0), .slice A252_1 ((rd_T61 l1 1).f1).length c252_1, .int .i64 ((rd_T61 l1 1).f2), .int .i64 ((rd_T61 l1 1).f3), .int .i64 ((rd_T61 l1 1).f4)]] (by rfl) rfl rfl ar_ ?_
        with_reducible refine (dom_Dom_Size.calls ((rd_T61 l1 1).f0) _ _ ((rd_T61 l1 1).f1) ((rd_T61 l1 1).f2) ((rd_T61 l1 1).f3) ((rd_T61 l1 1).f4) t253 _ ?_ ?_ A8.out).mono ?_
        exact ca_ ((Kd.C_below HR252_1.out HB.out))
        exact HC252_1.out
        rintro e w41 ⟨rfl, hb⟩
        refine ⟨_, rfl, ?_⟩
        replace BK248 := Aside0.mk (blk_below (bk_ BK248.out) hb)
        replace HB := Aside0.mk (below_step bel_ hb)
        clear hb
        refine hK.out _ _ ⟨((HB.out.cell (World.block_lt_of_cell? w _ hw250_0)).trans hw250_0), ((HB.out.cell (World.block_lt_of_cell? w _ hw250_1)).trans hw250_1), ((HB.out.cell (World.block_lt_of_cell? w _ hw250_2)).trans hw250_2), ((HB.out.cell (World.block_lt_of_cell? w _ hw250_3)).trans hw250_3), ((HB.out.cell (World.block_lt_of_cell? w _ hw250_4)).trans hw250_4), ((HB.out.cell (World.block_lt_of_cell? w _ hw252_0)).trans hw252_0), ((HB.out.cell (World.block_lt_of_cell? w _ hw252_1)).trans hw252_1), ((HB.out.cell (World.block_lt_of_cell? w _ hw252_2)).trans hw252_2), ((HB.out.cell (World.block_lt_of_cell? w _ hw252_3)).trans hw252_3), ((HB.out.cell (World.block_lt_of_cell? w _ hw252_4)).trans hw252_4)⟩ (fun hHeld => ?_)
        clear hK K
        refine nor_ (N := some 18) ?_
        refine pur_ (i := 8) (N := some 19) #[true, true, true, true, true, true, true, true, true, false] (any_of HT_.out (by kernel_rfl)) ?_
        refine pur_ (i := 9) (N := some 20) #[true, true, true, true, true, true, true, true, true, true] (any_of HT_.out (by kernel_rfl)) ?_
        refine done_ (done_of HT_.out (by kernel_rfl)) ?_
        obtain ⟨_, _, _, _, _, _, _, _, _, _, _, _, _, _, _, _⟩ := cel8_ BK248.out
        try go_wp2
        replace BK248 := Aside0.mk (blk_drew BK248.out)
        replace HB := Aside0.mk (below_drew1 HB.out)
        have p268 : 0 ≤ (0 : Int) := (by omega)
        have q268 : 0 < (l1.length : Int) := dq_
        obtain ⟨ad268, A268_1, c268_1, e268, hx268_0, hx268_1, hx268_2, hx268_3, hx268_4, hl268_1, hi268_1⟩ := at_T61 HR1.out 0 p268 q268
        have hw268_4 := hx268_4
        (try rw [show ((0 : Int)).toNat = 0 from rfl] at hw268_4)
        (try rw [show 0 * 5 = 0 from rfl] at hw268_4)
        (try rw [Addr.add_zero'] at hw268_4)
        have hw268_3 := hx268_3
        (try rw [show ((0 : Int)).toNat = 0 from rfl] at hw268_3)
        (try rw [show 0 * 5 = 0 from rfl] at hw268_3)
        (try rw [Addr.add_zero'] at hw268_3)
        have hw268_2 := hx268_2
        (try rw [show ((0 : Int)).toNat = 0 from rfl] at hw268_2)
        (try rw [show 0 * 5 = 0 from rfl] at hw268_2)
        (try rw [Addr.add_zero'] at hw268_2)
        have hw268_1 := hx268_1
        (try rw [show ((0 : Int)).toNat = 0 from rfl] at hw268_1)
        (try rw [show 0 * 5 = 0 from rfl] at hw268_1)
        (try rw [Addr.add_zero'] at hw268_1)
        have hw268_0 := hx268_0
        (try rw [show ((0 : Int)).toNat = 0 from rfl] at hw268_0)
        (try rw [show 0 * 5 = 0 from rfl] at hw268_0)
        (try rw [Addr.add_zero'] at hw268_0)
        obtain rfl : ad250 = ad268 := (by injection e268)
        have qi268 : (0 < l1.length) = True := eq_true (by omega)
        (try rw [show ((0 : Int)).toNat = 0 from rfl] at hx268_0)
        (try rw [show 0 * 5 = 0 from rfl] at hx268_0)
        (try rw [Addr.add_zero'] at hx268_0)
        (try rw [show ((0 : Int)).toNat = 0 from rfl] at hx268_1)
        (try rw [show 0 * 5 = 0 from rfl] at hx268_1)
        (try rw [Addr.add_zero'] at hx268_1)
        (try rw [show ((0 : Int)).toNat = 0 from rfl] at hx268_2)
        (try rw [show 0 * 5 = 0 from rfl] at hx268_2)
        (try rw [Addr.add_zero'] at hx268_2)
        (try rw [show ((0 : Int)).toNat = 0 from rfl] at hx268_3)
        (try rw [show 0 * 5 = 0 from rfl] at hx268_3)
        (try rw [Addr.add_zero'] at hx268_3)
        (try rw [show ((0 : Int)).toNat = 0 from rfl] at hx268_4)
        (try rw [show 0 * 5 = 0 from rfl] at hx268_4)
        (try rw [Addr.add_zero'] at hx268_4)
        replace hx268_0 := (HB.out.cell (World.block_lt_of_cell? w _ hx268_0)).trans hx268_0
        replace hx268_1 := (HB.out.cell (World.block_lt_of_cell? w _ hx268_1)).trans hx268_1
        replace hx268_2 := (HB.out.cell (World.block_lt_of_cell? w _ hx268_2)).trans hx268_2
        replace hx268_3 := (HB.out.cell (World.block_lt_of_cell? w _ hx268_3)).trans hx268_3
        replace hx268_4 := (HB.out.cell (World.block_lt_of_cell? w _ hx268_4)).trans hx268_4
        have HR268_1 := Aside0.mk hi268_1
        have HC268_1 := Aside0.mk hl268_1
        clear hi268_1 hl268_1
        replace p268 := eq_true p268
        replace q268 := eq_true q268
        have p269 : 0 ≤ (1 : Int) := (by omega)
        have q269 : 1 < (l1.length : Int) := dq_
        obtain ⟨ad269, A269_1, c269_1, e269, hx269_0, hx269_1, hx269_2, hx269_3, hx269_4, hl269_1, hi269_1⟩ := at_T61 HR1.out 1 p269 q269
        have hw269_4 := hx269_4
        (try rw [show ((1 : Int)).toNat = 1 from rfl] at hw269_4)
        (try rw [show 1 * 5 = 5 from rfl] at hw269_4)
        (try simp only [Nat.reduceMul, Nat.reduceEqDiff, Go.Addr.add, ↓reduceIte] at hw269_4)
        have hw269_3 := hx269_3
        (try rw [show ((1 : Int)).toNat = 1 from rfl] at hw269_3)
        (try rw [show 1 * 5 = 5 from rfl] at hw269_3)
        (try simp only [Nat.reduceMul, Nat.reduceEqDiff, Go.Addr.add, ↓reduceIte] at hw269_3)
        have hw269_2 := hx269_2
        (try rw [show ((1 : Int)).toNat = 1 from rfl] at hw269_2)
        (try rw [show 1 * 5 = 5 from rfl] at hw269_2)
        (try simp only [Nat.reduceMul, Nat.reduceEqDiff, Go.Addr.add, ↓reduceIte] at hw269_2)
        have hw269_1 := hx269_1
        (try rw [show ((1 : Int)).toNat = 1 from rfl] at hw269_1)
        (try rw [show 1 * 5 = 5 from rfl] at hw269_1)
        (try simp only [Nat.reduceMul, Nat.reduceEqDiff, Go.Addr.add, ↓reduceIte] at hw269_1)
        have hw269_0 := hx269_0
        (try rw [show ((1 : Int)).toNat = 1 from rfl] at hw269_0)
        (try rw [show 1 * 5 = 5 from rfl] at hw269_0)
        (try simp only [Nat.reduceMul, Nat.reduceEqDiff, Go.Addr.add, ↓reduceIte] at hw269_0)
        obtain rfl : ad250 = ad269 := (by injection e269)
        (try simp only [show (1 : Int).toNat = 1 from rfl, Nat.reduceMul, Nat.reduceEqDiff, Go.Addr.add, ↓reduceIte] at hx269_0)
        (try simp only [show (1 : Int).toNat = 1 from rfl, Nat.reduceMul, Nat.reduceEqDiff, Go.Addr.add, ↓reduceIte] at hx269_1)
        (try simp only [show (1 : Int).toNat = 1 from rfl, Nat.reduceMul, Nat.reduceEqDiff, Go.Addr.add, ↓reduceIte] at hx269_2)
        (try simp only [show (1 : Int).toNat = 1 from rfl, Nat.reduceMul, Nat.reduceEqDiff, Go.Addr.add, ↓reduceIte] at hx269_3)
        (try simp only [show (1 : Int).toNat = 1 from rfl, Nat.reduceMul, Nat.reduceEqDiff, Go.Addr.add, ↓reduceIte] at hx269_4)
        have qi269 : (1 < l1.length) = True := eq_true (by omega)
        (try rw [show ((1 : Int)).toNat = 1 from rfl] at hx269_0)
        (try rw [show 1 * 5 = 5 from rfl] at hx269_0)
        (try rw [show ((1 : Int)).toNat = 1 from rfl] at hx269_1)
        (try rw [show 1 * 5 = 5 from rfl] at hx269_1)
        (try rw [show ((1 : Int)).toNat = 1 from rfl] at hx269_2)
        (try rw [show 1 * 5 = 5 from rfl] at hx269_2)
        (try rw [show ((1 : Int)).toNat = 1 from rfl] at hx269_3)
        (try rw [show 1 * 5 = 5 from rfl] at hx269_3)
        (try rw [show ((1 : Int)).toNat = 1 from rfl] at hx269_4)
        (try rw [show 1 * 5 = 5 from rfl] at hx269_4)
        replace hx269_0 := (HB.out.cell (World.block_lt_of_cell? w _ hx269_0)).trans hx269_0
        replace hx269_1 := (HB.out.cell (World.block_lt_of_cell? w _ hx269_1)).trans hx269_1
        replace hx269_2 := (HB.out.cell (World.block_lt_of_cell? w _ hx269_2)).trans hx269_2
        replace hx269_3 := (HB.out.cell (World.block_lt_of_cell? w _ hx269_3)).trans hx269_3
        replace hx269_4 := (HB.out.cell (World.block_lt_of_cell? w _ hx269_4)).trans hx269_4
        have HR269_1 := Aside0.mk hi269_1
        have HC269_1 := Aside0.mk hl269_1
        clear hi269_1 hl269_1
        replace p269 := eq_true p269
        replace q269 := eq_true q269
        have p270 : 0 ≤ (2 : Int) := (by omega)
        have q270 : 2 < (l1.length : Int) := dq_
        obtain ⟨ad270, A270_1, c270_1, e270, hx270_0, hx270_1, hx270_2, hx270_3, hx270_4, hl270_1, hi270_1⟩ := at_T61 HR1.out 2 p270 q270
        have hw270_4 := hx270_4
        (try rw [show ((2 : Int)).toNat = 2 from rfl] at hw270_4)
        (try rw [show 2 * 5 = 10 from rfl] at hw270_4)
        (try simp only [Nat.reduceMul, Nat.reduceEqDiff, Go.Addr.add, ↓reduceIte] at hw270_4)
        have hw270_3 := hx270_3
        (try rw [show ((2 : Int)).toNat = 2 from rfl] at hw270_3)
        (try rw [show 2 * 5 = 10 from rfl] at hw270_3)
        (try simp only [Nat.reduceMul, Nat.reduceEqDiff, Go.Addr.add, ↓reduceIte] at hw270_3)
        have hw270_2 := hx270_2
        (try rw [show ((2 : Int)).toNat = 2 from rfl] at hw270_2)
        (try rw [show 2 * 5 = 10 from rfl] at hw270_2)
        (try simp only [Nat.reduceMul, Nat.reduceEqDiff, Go.Addr.add, ↓reduceIte] at hw270_2)
        have hw270_1 := hx270_1
        (try rw [show ((2 : Int)).toNat = 2 from rfl] at hw270_1)
        (try rw [show 2 * 5 = 10 from rfl] at hw270_1)
        (try simp only [Nat.reduceMul, Nat.reduceEqDiff, Go.Addr.add, ↓reduceIte] at hw270_1)
        have hw270_0 := hx270_0
        (try rw [show ((2 : Int)).toNat = 2 from rfl] at hw270_0)
        (try rw [show 2 * 5 = 10 from rfl] at hw270_0)
        (try simp only [Nat.reduceMul, Nat.reduceEqDiff, Go.Addr.add, ↓reduceIte] at hw270_0)
        obtain rfl : ad250 = ad270 := (by injection e270)
        (try simp only [show (2 : Int).toNat = 2 from rfl, Nat.reduceMul, Nat.reduceEqDiff, Go.Addr.add, ↓reduceIte] at hx270_0)
        (try simp only [show (2 : Int).toNat = 2 from rfl, Nat.reduceMul, Nat.reduceEqDiff, Go.Addr.add, ↓reduceIte] at hx270_1)
        (try simp only [show (2 : Int).toNat = 2 from rfl, Nat.reduceMul, Nat.reduceEqDiff, Go.Addr.add, ↓reduceIte] at hx270_2)
        (try simp only [show (2 : Int).toNat = 2 from rfl, Nat.reduceMul, Nat.reduceEqDiff, Go.Addr.add, ↓reduceIte] at hx270_3)
        (try simp only [show (2 : Int).toNat = 2 from rfl, Nat.reduceMul, Nat.reduceEqDiff, Go.Addr.add, ↓reduceIte] at hx270_4)
        have qi270 : (2 < l1.length) = True := eq_true (by omega)
        (try rw [show ((2 : Int)).toNat = 2 from rfl] at hx270_0)
        (try rw [show 2 * 5 = 10 from rfl] at hx270_0)
        (try rw [show ((2 : Int)).toNat = 2 from rfl] at hx270_1)
        (try rw [show 2 * 5 = 10 from rfl] at hx270_1)
        (try rw [show ((2 : Int)).toNat = 2 from rfl] at hx270_2)
        (try rw [show 2 * 5 = 10 from rfl] at hx270_2)
        (try rw [show ((2 : Int)).toNat = 2 from rfl] at hx270_3)
        (try rw [show 2 * 5 = 10 from rfl] at hx270_3)
        (try rw [show ((2 : Int)).toNat = 2 from rfl] at hx270_4)
        (try rw [show 2 * 5 = 10 from rfl] at hx270_4)
        replace hx270_0 := (HB.out.cell (World.block_lt_of_cell? w _ hx270_0)).trans hx270_0
        replace hx270_1 := (HB.out.cell (World.block_lt_of_cell? w _ hx270_1)).trans hx270_1
        replace hx270_2 := (HB.out.cell (World.block_lt_of_cell? w _ hx270_2)).trans hx270_2
        replace hx270_3 := (HB.out.cell (World.block_lt_of_cell? w _ hx270_3)).trans hx270_3
        replace hx270_4 := (HB.out.cell (World.block_lt_of_cell? w _ hx270_4)).trans hx270_4
        have HR270_1 := Aside0.mk hi270_1
        have HC270_1 := Aside0.mk hl270_1
        clear hi270_1 hl270_1
        replace p270 := eq_true p270
        replace q270 := eq_true q270
        refine start_ (n := 15) (S := fun w' => w'.cell? ad250 = some (.int .i64 ((rd_T61 l1 0).f0)) ∧ w'.cell? ⟨ad250.block, ad250.off + 1, none⟩ = some (.slice A268_1 ((rd_T61 l1 0).f1).length c268_1) ∧ w'.cell? ⟨ad250.block, ad250.off + 2, none⟩ = some (.int .i64 ((rd_T61 l1 0).f2)) ∧ w'.cell? ⟨ad250.block, ad250.off + 3, none⟩ = some (.int .i64 ((rd_T61 l1 0).f3)) ∧ w'.cell? ⟨ad250.block, ad250.off + 4, none⟩ = some (.int .i64 ((rd_T61 l1 0).f4)) ∧ w'.cell? ⟨ad250.block, ad250.off + 5, none⟩ = some (.int .i64 ((rd_T61 l1 1).f0)) ∧ w'.cell? ⟨ad250.block, ad250.off + 5 + 1, none⟩ = some (.slice A269_1 ((rd_T61 l1 1).f1).length c269_1) ∧ w'.cell? ⟨ad250.block, ad250.off + 5 + 2, none⟩ = some (.int .i64 ((rd_T61 l1 1).f2)) ∧ w'.cell? ⟨ad250.block, ad250.off + 5 + 3, none⟩ = some (.int .i64 ((rd_T61 l1 1).f3)) ∧ w'.cell? ⟨ad250.block, ad250.off + 5 + 4, none⟩ = some (.int .i64 ((rd_T61 l1 1).f4)) ∧ w'.cell? ⟨ad250.block, ad250.off + 10, none⟩ = some (.int .i64 ((rd_T61 l1 2).f0)) ∧ w'.cell? ⟨ad250.block, ad250.off + 10 + 1, none⟩ = some (.slice A270_1 ((rd_T61 l1 2).f1).length c270_1) ∧ w'.cell? ⟨ad250.block, ad250.off + 10 + 2, none⟩ = some (.int .i64 ((rd_T61 l1 2).f2)) ∧ w'.cell? ⟨ad250.block, ad250.off + 10 + 3, none⟩ = some (.int .i64 ((rd_T61 l1 2).f3)) ∧ w'.cell? ⟨ad250.block, ad250.off + 10 + 4, none⟩ = some (.int .i64 ((rd_T61 l1 2).f4))) (ds := []) #[false, false, false, false, false, false, false, false, false, false, false, false, false, false, false] (by kernel_rfl) rfl rfl ⟨((HB.out.cell (World.block_lt_of_cell? w _ hw268_0)).trans hw268_0), ((HB.out.cell (World.block_lt_of_cell? w _ hw268_1)).trans hw268_1), ((HB.out.cell (World.block_lt_of_cell? w _ hw268_2)).trans hw268_2), ((HB.out.cell (World.block_lt_of_cell? w _ hw268_3)).trans hw268_3), ((HB.out.cell (World.block_lt_of_cell? w _ hw268_4)).trans hw268_4), ((HB.out.cell (World.block_lt_of_cell? w _ hw269_0)).trans hw269_0), ((HB.out.cell (World.block_lt_of_cell? w _ hw269_1)).trans hw269_1), ((HB.out.cell (World.block_lt_of_cell? w _ hw269_2)).trans hw269_2), ((HB.out.cell (World.block_lt_of_cell? w _ hw269_3)).trans hw269_3), ((HB.out.cell (World.block_lt_of_cell? w _ hw269_4)).trans hw269_4), ((HB.out.cell (World.block_lt_of_cell? w _ hw270_0)).trans hw270_0), ((HB.out.cell (World.block_lt_of_cell? w _ hw270_1)).trans hw270_1), ((HB.out.cell (World.block_lt_of_cell? w _ hw270_2)).trans hw270_2), ((HB.out.cell (World.block_lt_of_cell? w _ hw270_3)).trans hw270_3), ((HB.out.cell (World.block_lt_of_cell? w _ hw270_4)).trans hw270_4)⟩ (fun hHeld => ?_); refine with_tabW mul_Filter.tab11 mul_Filter.bits11 (fun HT_ HW_ => ?_)
        generalize w41.drew = w43 at BK248 HB HR268_1 HR269_1 HR270_1 hx268_0 hx268_1 hx268_2 hx268_3 hx268_4 hx269_0 hx269_1 hx269_2 hx269_3 hx269_4 hx270_0 hx270_1 hx270_2 hx270_3 hx270_4 hHeld ⊢
        refine pur_ (i := 0) (N := some 32) #[true, false, false, false, false, false, false, false, false, false, false, false, false, false, false] (any_of HT_.out (by kernel_rfl)) ?_
        refine pur_ (i := 1) (N := some 33) #[true, true, false, false, false, false, false, false, false, false, false, false, false, false, false] (any_of HT_.out (by kernel_rfl)) ?_
        refine pur_ (i := 3) (N := some 35) #[true, true, false, true, false, false, false, false, false, false, false, false, false, false, false] (any_of HT_.out (by kernel_rfl)) ?_
        refine pur_ (i := 4) (N := some 36) #[true, true, false, true, true, false, false, false, false, false, false, false, false, false, false] (any_of HT_.out (by kernel_rfl)) ?_
        refine pur_ (i := 6) (N := some 38) #[true, true, false, true, true, false, true, false, false, false, false, false, false, false, false] (any_of HT_.out (by kernel_rfl)) ?_
        refine pur_ (i := 7) (N := some 39) #[true, true, false, true, true, false, true, true, false, false, false, false, false, false, false] (any_of HT_.out (by kernel_rfl)) ?_
        refine pur_ (i := 9) (N := some 41) #[true, true, false, true, true, false, true, true, false, true, false, false, false, false, false] (any_of HT_.out (by kernel_rfl)) ?_
        refine take_ (i := 2) (N := some 34) (v := ?_) (a' := ?_) #[true, true, true, true, true, false, true, true, false, true, false, false, false, false, false] rfl rfl (take_ofW HT_.out HW_.out (by kernel_rfl)) (fun _ _ _ h => h) (Or.inl ⟨by rfl, ?_⟩) hHeld ?_ ?_
        rotate_left
        ·
         rintro w' ⟨s0, s1, s2, s3, s4, s5, s6, s7, s8, s9, s10, s11, s12, s13, s14⟩
         go_simp
         with_reducible rfl
        rotate_left
        ·
         simp only [Act.put, List.setIfInBounds_toArray, List.set_cons_zero, List.set_cons_succ, i64_w, i32_w]
         rfl
        refine take_ (i := 5) (N := some 37) (v := ?_) (a' := ?_) #[true, true, true, true, true, true, true, true, false, true, false, false, false, false, false] rfl rfl (take_ofW HT_.out HW_.out (by kernel_rfl)) (fun _ _ _ h => h) (Or.inl ⟨by rfl, ?_⟩) hHeld ?_ ?_
        rotate_left
        ·
         rintro w' ⟨s0, s1, s2, s3, s4, s5, s6, s7, s8, s9, s10, s11, s12, s13, s14⟩
         go_simp
         with_reducible rfl
        rotate_left
        ·
         simp only [Act.put, List.setIfInBounds_toArray, List.set_cons_zero, List.set_cons_succ, i64_w, i32_w]
         rfl
        refine take_ (i := 8) (N := some 40) (v := ?_) (a' := ?_) #[true, true, true, true, true, true, true, true, true, true, false, false, false, false, false] rfl rfl (take_ofW HT_.out HW_.out (by kernel_rfl)) (fun _ _ _ h => h) (Or.inl ⟨by rfl, ?_⟩) hHeld ?_ ?_
        rotate_left
        ·
         rintro w' ⟨s0, s1, s2, s3, s4, s5, s6, s7, s8, s9, s10, s11, s12, s13, s14⟩
         go_simp
         with_reducible rfl
        rotate_left
        ·
         simp only [Act.put, List.setIfInBounds_toArray, List.set_cons_zero, List.set_cons_succ, i64_w, i32_w]
         rfl
        refine one_ (i := 10) (N := some 42) #[true, true, true, true, true, true, true, true, true, true, true, false, false, false, false] rfl rfl (one_of HT_.out (by kernel_rfl)) (by decide) (fun K hK => ?_)
        refine goes_ Tryz.func33 (by kernel_rfl) rfl #[.agg #[.int .i64 ((rd_T61 l1 0).f0), .slice A268_1 ((rd_T61 l1 0).f1).length c268_1, .int .i64 ((rd_T61 l1 0).f2), .int .i64 ((rd_T61 l1 0).f3), .int .i64 ((rd_T61 l1 0).f4)], .agg #[.int .i64 ((rd_T61 l1 1).f0), .slice A269_1 ((rd_T61 l1 1).f1).length c269_1, .int .i64 ((rd_T61 l1 1).f2), .int .i64 ((rd_T61 l1 1).f3), .int .i64 ((rd_T61 l1 1).f4)], .agg #[.int .i64 ((rd_T61 l1 2).f0), .slice A270_1 ((rd_T61 l1 2).f1).length c270_1, .int .i64 ((rd_T61 l1 2).f2), .int .i64 ((rd_T61 l1 2).f3), .int .i64 ((rd_T61 l1 2).f4)], .func (.func 30) #[] #[]] (by rfl) rfl rfl ar_ ?_
        with_reducible refine (prop_Pairs_at_num_Mul.calls k ((rd_T61 l1 0).f0) _ _ ((rd_T61 l1 0).f1) ((rd_T61 l1 0).f2) ((rd_T61 l1 0).f3) ((rd_T61 l1 0).f4) ((rd_T61 l1 1).f0) _ _ ((rd_T61 l1 1).f1) ((rd_T61 l1 1).f2) ((rd_T61 l1 1).f3) ((rd_T61 l1 1).f4) ((rd_T61 l1 2).f0) _ _ ((rd_T61 l1 2).f1) ((rd_T61 l1 2).f2) ((rd_T61 l1 2).f3) ((rd_T61 l1 2).f4) t271 t274 _ ?_ ?_ ?_ ?_ ?_ ?_ ?_ A35.out).mono ?_
        exact ca_ ((Kd.C_below HR268_1.out HB.out))
        exact HC268_1.out
        exact ca_ ((Kd.C_below HR269_1.out HB.out))
        exact HC269_1.out
        exact ca_ ((Kd.C_below HR270_1.out HB.out))
        exact HC270_1.out
        exact ca_ ((Kd.C_below HRtab.out HB.out))
        rintro e w44 ⟨v272, rfl, ho0, hb⟩
        refine ⟨_, rfl, ?_⟩
        have HO273 := Aside0.mk (Kd.N_lower (Kd.N_mono (ok' := fun k_ => (w.heap.size ≤ k_) ∧ k_ ≠ gb248) ho0 (fun k_ hk_ => ⟨(Nat.le_trans (below_size bel_) hk_), (Kd.freshB (bk_ BK248.out) k_ hk_)⟩)) (below_size bel_))
        replace HB := Aside0.mk (below_step bel_ hb)
        clear hb ho0
        refine hK.out _ _ ⟨((HB.out.cell (World.block_lt_of_cell? w _ hw268_0)).trans hw268_0), ((HB.out.cell (World.block_lt_of_cell? w _ hw268_1)).trans hw268_1), ((HB.out.cell (World.block_lt_of_cell? w _ hw268_2)).trans hw268_2), ((HB.out.cell (World.block_lt_of_cell? w _ hw268_3)).trans hw268_3), ((HB.out.cell (World.block_lt_of_cell? w _ hw268_4)).trans hw268_4), ((HB.out.cell (World.block_lt_of_cell? w _ hw269_0)).trans hw269_0), ((HB.out.cell (World.block_lt_of_cell? w _ hw269_1)).trans hw269_1), ((HB.out.cell (World.block_lt_of_cell? w _ hw269_2)).trans hw269_2), ((HB.out.cell (World.block_lt_of_cell? w _ hw269_3)).trans hw269_3), ((HB.out.cell (World.block_lt_of_cell? w _ hw269_4)).trans hw269_4), ((HB.out.cell (World.block_lt_of_cell? w _ hw270_0)).trans hw270_0), ((HB.out.cell (World.block_lt_of_cell? w _ hw270_1)).trans hw270_1), ((HB.out.cell (World.block_lt_of_cell? w _ hw270_2)).trans hw270_2), ((HB.out.cell (World.block_lt_of_cell? w _ hw270_3)).trans hw270_3), ((HB.out.cell (World.block_lt_of_cell? w _ hw270_4)).trans hw270_4)⟩ (fun hHeld => ?_)
        clear hK K
        refine nor_ (N := some 42) ?_
        refine pur_ (i := 11) (N := some 43) #[true, true, true, true, true, true, true, true, true, true, true, true, false, false, false] (any_of HT_.out (by kernel_rfl)) ?_
        refine pur_ (i := 12) (N := some 44) #[true, true, true, true, true, true, true, true, true, true, true, true, true, false, false] (any_of HT_.out (by kernel_rfl)) ?_
        refine pur_ (i := 13) (N := some 4) #[true, true, true, true, true, true, true, true, true, true, true, true, true, true, false] (any_of HT_.out (by kernel_rfl)) ?_
        refine pur_ (i := 14) (N := some 5) #[true, true, true, true, true, true, true, true, true, true, true, true, true, true, true] (any_of HT_.out (by kernel_rfl)) ?_
        refine done_ (done_of HT_.out (by kernel_rfl)) ?_
        try go_wp2
        go_ret2
        exact ⟨_, by first | rfl | (simp [errW_none, errW_some] <;> rfl) | (simp [*, errW_none, errW_some] <;> rfl), by refine vN_ ?_; exact Kd.N_mono HO273.out (fun _ hk => hk.1), bel_⟩
       ·
        rw [if_neg c34] at H
        exact absurd H (by simp)
   ·
    rw [if_neg c7] at H
    exact absurd H (by simp)
  ·
   rw [if_neg c5] at H
   exact absurd H (by simp)
 ·
  replace c4 := Bool.eq_false_iff.mpr c4
  subst c4
  have H1 : (some (([] : List (S61)), false)) = some (r1, r2) := by rw [if_neg (show ¬ (false = true) by decide)] at H; exact H
  clear H
  have H := H1
  clear H1
  simp only [Option.some.injEq, Prod.mk.injEq] at H
  obtain ⟨rfl, rfl⟩ := H
  go_enter Tryz.func10, Tryz.ntmps10
  go_wp2_with (first | ((with_reducible refine gate_dst (N := 2) rfl ?_); refine bxe_ (N := 2) (cs := #[.int .i64 a0_0, .slice A0_1 l0_1.length c0_1, .slice A0_2 l0_2.length c0_2, .slice A0_3 l0_3.length c0_3, .slice A0_4 l0_4.length c0_4, .slice A0_5 l0_5.length c0_5, .int .i64 a0_6, .slice A0_7 l0_7.length c0_7]) (t := 32) ?_; intro gb248 hg w45 hbox hb; have BK248 := Aside0.mk (hbox); have GW248 := Aside0.mk (by rw [hg]; exact (below_size bel_) : w.heap.size ≤ gb248); have GE248 := GW248; replace HB := Aside0.mk (below_step bel_ hb); clear hb hbox hg; obtain ⟨_, _, _, _, _, _, _, _, _, _, _, _, _, _, _, _⟩ := cel8_ BK248.out) | ((with_reducible refine gate_callee (f := 27) rfl ?_); refine goesL_ (some 9) rfl rfl Tryz.func27 (by kernel_rfl) rfl #[.agg #[.int .i64 a0_0, .slice A0_1 l0_1.length c0_1, .slice A0_2 l0_2.length c0_2, .slice A0_3 l0_3.length c0_3, .slice A0_4 l0_4.length c0_4, .slice A0_5 l0_5.length c0_5, .int .i64 a0_6, .slice A0_7 l0_7.length c0_7], .slice A1 l1.length c1, .int .i64 5, .int .i64 7] rfl ar_ ?_; (with_reducible refine (prop_Fits.calls k a0_0 _ _ l0_1 _ _ l0_2 _ _ l0_3 _ _ l0_4 _ _ l0_5 a0_6 _ _ l0_7 _ _ l1 5 7 false _ ?_ ?_ ?_ ?_ ?_ ?_ ?_ ?_ ?_ ?_ ?_ ?_ ?_ ?_ A3.out).mono ?_); exact ca_ ((Kd.C_below HR0_1.out HB.out)); exact HC0_1.out; exact ca_ ((Kd.C_below HR0_2.out HB.out)); exact HC0_2.out; exact ca_ ((Kd.C_below HR0_3.out HB.out)); exact HC0_3.out; exact ca_ ((Kd.C_below HR0_4.out HB.out)); exact HC0_4.out; exact ca_ ((Kd.C_below HR0_5.out HB.out)); exact HC0_5.out; exact ca_ ((Kd.C_below HR0_7.out HB.out)); exact HC0_7.out; exact ca_ ((Kd.C_below HR1.out HB.out)); exact HC1.out; rintro e w47 ⟨rfl, hb⟩; refine ⟨_, rfl, ?_⟩; replace HB := Aside0.mk (below_step bel_ hb); clear hb))
  go_ret2
  exact ⟨_, by first | rfl | (simp [errW_none, errW_some] <;> rfl) | (simp [*, errW_none, errW_some] <;> rfl), by first | exact Kd.S_nil _ _ _ _ _ | exact Kd.N_nil _ _ _ _ _ | exact Kd.V_nil _ _ _ _ _ | exact Kd.Q_nil _ _ _ _ _ | exact Kd.R_nil _ _ _ _ _, bel_⟩

end Go.Proofs.YtbhhbgoamomacaaGreatDoor.XMulFixed
