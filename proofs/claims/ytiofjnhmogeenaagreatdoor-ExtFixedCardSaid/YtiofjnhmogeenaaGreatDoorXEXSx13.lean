-- by xprint.py, a program of this session, over the kit's print
import Derived.Test.YtiofjnhmogeenaaGreatDoorXEXSx0
import Derived.Test.YtiofjnhmogeenaaGreatDoorXEXSx1
import Derived.Test.YtiofjnhmogeenaaGreatDoorXEXSx5
import Derived.Test.YtiofjnhmogeenaaGreatDoorXEXSx10
import Derived.Test.YtiofjnhmogeenaaGreatDoorXEXSx11
import Derived.Test.YtiofjnhmogeenaaGreatDoorXEXSx12
import Derived.Test.YtiofjnhmogeenaaGreatDoorSq
namespace Go.Proofs.YtiofjnhmogeenaaGreatDoor.XExtFixed
open Go.RowKit Go.Proofs.YtiofjnhmogeenaaGreatDoor.Sq Go.Proofs.YtiofjnhmogeenaaGreatDoorW.PrintWords Go.Proofs.YtiofjnhmogeenaaGreatDoorW.PrintLast Go.Proofs.YtiofjnhmogeenaaGreatDoorW.PrintMore
attribute [local go_sem] max2_int min2_int max_two min_two max_three min_three max_four min_four   -- for this text's walks alone
set_option linter.unusedVariables false
set_option linter.unusedSimpArgs false

/-! ### ext_Filter: function 10 -/
def ext_Filter.f (k : Nat) (a0_0 : Int) (l0_1 : List Int) (l0_2 : List Int) (l0_3 : List Int) (l0_4 : List Int) (l0_5 : List Int) (a0_6 : Int) (l0_7 : List (List Int)) (l1 : List (S61)) : Option ((List (S61)) × Bool) := (prop_Fits.f k a0_0 l0_1 l0_2 l0_3 l0_4 l0_5 a0_6 l0_7 l1 8 10).bind fun t265 => (if t265 = true then (if a0_0 = 8 then (if 0 < (l1.length : Int) then (if 1 < (l1.length : Int) then ((ext_absolute.f k ((rd_T61 l1 0).f0) ((rd_T61 l1 0).f1) ((rd_T61 l1 0).f2) ((rd_T61 l1 0).f3) ((rd_T61 l1 0).f4) ((rd_T61 l1 1).f0) ((rd_T61 l1 1).f1) ((rd_T61 l1 1).f2) ((rd_T61 l1 1).f3) ((rd_T61 l1 1).f4)).bind fun bt268 => (some (bt268.1, bt268.2))) else (none)) else (none)) else (if 0 < (l1.length : Int) then ((dom_Dom_Size.f ((rd_T61 l1 0).f0) ((rd_T61 l1 0).f1) ((rd_T61 l1 0).f2) ((rd_T61 l1 0).f3) ((rd_T61 l1 0).f4)).bind fun t273 => (if 1 < (l1.length : Int) then ((dom_Dom_Size.f ((rd_T61 l1 1).f0) ((rd_T61 l1 1).f1) ((rd_T61 l1 1).f2) ((rd_T61 l1 1).f3) ((rd_T61 l1 1).f4)).bind fun t275 => (if (wrap64 (t273 * t275)) > 4096 then (none) else (if a0_0 = 9 then (if 2 < (l1.length : Int) then ((prop_Pairs_at_ext_Filter_1.f k ((rd_T61 l1 0).f0) ((rd_T61 l1 0).f1) ((rd_T61 l1 0).f2) ((rd_T61 l1 0).f3) ((rd_T61 l1 0).f4) ((rd_T61 l1 1).f0) ((rd_T61 l1 1).f1) ((rd_T61 l1 1).f2) ((rd_T61 l1 1).f3) ((rd_T61 l1 1).f4) ((rd_T61 l1 2).f0) ((rd_T61 l1 2).f1) ((rd_T61 l1 2).f2) ((rd_T61 l1 2).f3) ((rd_T61 l1 2).f4)).bind fun bt279 => (if bt279.2 = true then (some (bt279.1, true)) else (some (([] : List (S61)), false)))) else (none)) else (if 2 < (l1.length : Int) then ((prop_Pairs_at_ext_Filter_2.f k ((rd_T61 l1 0).f0) ((rd_T61 l1 0).f1) ((rd_T61 l1 0).f2) ((rd_T61 l1 0).f3) ((rd_T61 l1 0).f4) ((rd_T61 l1 1).f0) ((rd_T61 l1 1).f1) ((rd_T61 l1 1).f2) ((rd_T61 l1 1).f3) ((rd_T61 l1 1).f4) ((rd_T61 l1 2).f0) ((rd_T61 l1 2).f1) ((rd_T61 l1 2).f2) ((rd_T61 l1 2).f3) ((rd_T61 l1 2).f4)).bind fun bt286 => (if bt286.2 = true then (some (bt286.1, true)) else (some (([] : List (S61)), false)))) else (none))))) else (none))) else (none))) else (some (([] : List (S61)), false)))
theorem ext_Filter.mono : ∀ a0 a1 a2 a3 a4 a5 a6 a7 a8 k, LeO (ext_Filter.f k a0 a1 a2 a3 a4 a5 a6 a7 a8) (ext_Filter.f (k + 1) a0 a1 a2 a3 a4 a5 a6 a7 a8) := by
 intro a0 a1 a2 a3 a4 a5 a6 a7 a8 k
 unfold ext_Filter.f
 have m0 := @ext_absolute.mono
 have m1 := @prop_Fits.mono
 have m2 := @prop_Pairs_at_ext_Filter_1.mono
 have m3 := @prop_Pairs_at_ext_Filter_2.mono
 exact leo_
def ext_Filter.T4 : Bool × List (List Nat × List Nat) := (true, [([], []), ([0], [0]), ([1], [1]), ([], []), ([3], [3]), ([4], [4]), ([2, 5], [2, 5]), ([6], [6]), ([6], [6]), ([7, 6, 0, 1, 2, 3, 4, 5, 6, 7, 8], [7]), ([8, 9, 0, 1, 2, 3, 4, 5, 6, 7, 8, 9], [8])])
def ext_Filter.B4 : List Nat := [0, 1, 3, 0, 8, 24, 63, 127, 127, 511, 1023]
theorem ext_Filter.tab4 : rtab .any (opsOf Tryz.f10 4) = ext_Filter.T4 := by kernel_rfl
theorem ext_Filter.bits4 : waitsOk ext_Filter.T4.2 ext_Filter.B4 = true := by kernel_rfl
def ext_Filter.T5 : Bool × List (List Nat × List Nat) := (true, [([], []), ([0], [0]), ([1], [1]), ([2], [2]), ([], []), ([4], [4]), ([5], [5]), ([6, 3], [6]), ([3, 7], [3, 7]), ([8], [8]), ([9, 7, 0, 1, 2, 3, 4, 5, 6, 7, 8, 9], [9])])
def ext_Filter.B5 : List Nat := [0, 1, 3, 7, 0, 16, 48, 127, 255, 511, 1023]
theorem ext_Filter.tab5 : rtab .any (opsOf Tryz.f10 5) = ext_Filter.T5 := by kernel_rfl
theorem ext_Filter.bits5 : waitsOk ext_Filter.T5.2 ext_Filter.B5 = true := by kernel_rfl
def ext_Filter.T8 : Bool × List (List Nat × List Nat) := (true, [([], []), ([0], [0]), ([1], [1]), ([], []), ([3], [3]), ([4], [4]), ([], []), ([6], [6]), ([7], [7]), ([2, 5, 8], [2, 5, 8]), ([9], [9]), ([10], [10]), ([10], [10]), ([11, 9, 0, 1, 2, 3, 4, 5, 6, 7, 8, 9, 10, 11], [11]), ([12, 13, 0, 1, 2, 3, 4, 5, 6, 7, 8, 9, 10, 11, 12, 13], [12])])
def ext_Filter.B8 : List Nat := [0, 1, 3, 0, 8, 24, 0, 64, 192, 511, 1023, 2047, 2047, 4095, 16383]
theorem ext_Filter.tab8 : rtab .any (opsOf Tryz.f10 8) = ext_Filter.T8 := by kernel_rfl
theorem ext_Filter.bits8 : waitsOk ext_Filter.T8.2 ext_Filter.B8 = true := by kernel_rfl
def ext_Filter.T14 : Bool × List (List Nat × List Nat) := (true, [([], []), ([0], [0]), ([1], [1]), ([], []), ([3], [3]), ([4], [4]), ([], []), ([6], [6]), ([7], [7]), ([2, 5, 8], [2, 5, 8]), ([9], [9]), ([10], [10]), ([10], [10]), ([11, 9, 0, 1, 2, 3, 4, 5, 6, 7, 8, 9, 10, 11], [11]), ([12, 13, 0, 1, 2, 3, 4, 5, 6, 7, 8, 9, 10, 11, 12, 13], [12])])
def ext_Filter.B14 : List Nat := [0, 1, 3, 0, 8, 24, 0, 64, 192, 511, 1023, 2047, 2047, 4095, 16383]
theorem ext_Filter.tab14 : rtab .any (opsOf Tryz.f10 14) = ext_Filter.T14 := by kernel_rfl
theorem ext_Filter.bits14 : waitsOk ext_Filter.T14.2 ext_Filter.B14 = true := by kernel_rfl
set_option maxHeartbeats 8000000 in
set_option maxRecDepth 100000 in
theorem ext_Filter.calls (k : Nat) (a0_0 : Int) (A0_1 : Option Addr) (c0_1 : Nat) (l0_1 : List Int) (A0_2 : Option Addr) (c0_2 : Nat) (l0_2 : List Int) (A0_3 : Option Addr) (c0_3 : Nat) (l0_3 : List Int) (A0_4 : Option Addr) (c0_4 : Nat) (l0_4 : List Int) (A0_5 : Option Addr) (c0_5 : Nat) (l0_5 : List Int) (a0_6 : Int) (A0_7 : Option Addr) (c0_7 : Nat) (l0_7 : List (List Int)) (A1 : Option Addr) (c1 : Nat) (l1 : List (S61)) (r1 : List (S61)) (r2 : Bool) (w : World) (hr0_1 : Kd.C (Kd.int .i64) w A0_1 l0_1.length l0_1) (hc0_1 : l0_1.length ≤ c0_1) (hr0_2 : Kd.C (Kd.int .i64) w A0_2 l0_2.length l0_2) (hc0_2 : l0_2.length ≤ c0_2) (hr0_3 : Kd.C (Kd.int .i64) w A0_3 l0_3.length l0_3) (hc0_3 : l0_3.length ≤ c0_3) (hr0_4 : Kd.C (Kd.int .i64) w A0_4 l0_4.length l0_4) (hc0_4 : l0_4.length ≤ c0_4) (hr0_5 : Kd.C (Kd.int .i64) w A0_5 l0_5.length l0_5) (hc0_5 : l0_5.length ≤ c0_5) (hr0_7 : Kd.C (Kd.slice 3 (Kd.int .i64)) w A0_7 l0_7.length l0_7) (hc0_7 : l0_7.length ≤ c0_7) (hr1 : Kd.C k61 w A1 l1.length l1) (hc1 : l1.length ≤ c1) (hrtab : Kd.C (Kd.int .u8) w (some ⟨0, 0, none⟩) tabL.length tabL) (h : ext_Filter.f k a0_0 l0_1 l0_2 l0_3 l0_4 l0_5 a0_6 l0_7 l1 = some (r1, r2)) :
  Calls Tryz.prog 10 #[.agg #[.int .i64 a0_0, .slice A0_1 l0_1.length c0_1, .slice A0_2 l0_2.length c0_2, .slice A0_3 l0_3.length c0_3, .slice A0_4 l0_4.length c0_4, .slice A0_5 l0_5.length c0_5, .int .i64 a0_6, .slice A0_7 l0_7.length c0_7], .slice A1 l1.length c1] w fun e w' => ∃ v0_ : Value, e = .returned (.tuple #[v0_, .bool r2]) ∧ Kd.N k61 61 w' w.heap.size (fun k_ => (w.heap.size ≤ k_)) v0_ r1 ∧ Below w.heap.size w w' := by
 have hu32 := Tryz.underlying32
 have hu61 := Tryz.underlying61
 have HR0_1 := Aside0.mk hr0_1
 have HC0_1 := Aside0.mk hc0_1
 clear hr0_1 hc0_1
 have HR0_2 := Aside0.mk hr0_2
 have HC0_2 := Aside0.mk hc0_2
 clear hr0_2 hc0_2
 have HR0_3 := Aside0.mk hr0_3
 have HC0_3 := Aside0.mk hc0_3
 clear hr0_3 hc0_3
 have HR0_4 := Aside0.mk hr0_4
 have HC0_4 := Aside0.mk hc0_4
 clear hr0_4 hc0_4
 have HR0_5 := Aside0.mk hr0_5
 have HC0_5 := Aside0.mk hc0_5
 clear hr0_5 hc0_5
 have HR0_7 := Aside0.mk hr0_7
 have HC0_7 := Aside0.mk hc0_7
 clear hr0_7 hc0_7
 have HR1 := Aside0.mk hr1
 have HC1 := Aside0.mk hc1
 clear hr1 hc1
 have HRtab := Aside0.mk hrtab
 clear hrtab
 have HB := Aside0.mk (Below.refl w.heap.size w)
 have H : ((prop_Fits.f k a0_0 l0_1 l0_2 l0_3 l0_4 l0_5 a0_6 l0_7 l1 8 10).bind fun t265 => (if t265 = true then (if a0_0 = 8 then (if 0 < (l1.length : Int) then (if 1 < (l1.length : Int) then ((ext_absolute.f k ((rd_T61 l1 0).f0) ((rd_T61 l1 0).f1) ((rd_T61 l1 0).f2) ((rd_T61 l1 0).f3) ((rd_T61 l1 0).f4) ((rd_T61 l1 1).f0) ((rd_T61 l1 1).f1) ((rd_T61 l1 1).f2) ((rd_T61 l1 1).f3) ((rd_T61 l1 1).f4)).bind fun bt268 => (some (bt268.1, bt268.2))) else (none)) else (none)) else (if 0 < (l1.length : Int) then ((dom_Dom_Size.f ((rd_T61 l1 0).f0) ((rd_T61 l1 0).f1) ((rd_T61 l1 0).f2) ((rd_T61 l1 0).f3) ((rd_T61 l1 0).f4)).bind fun t273 => (if 1 < (l1.length : Int) then ((dom_Dom_Size.f ((rd_T61 l1 1).f0) ((rd_T61 l1 1).f1) ((rd_T61 l1 1).f2) ((rd_T61 l1 1).f3) ((rd_T61 l1 1).f4)).bind fun t275 => (if (wrap64 (t273 * t275)) > 4096 then (none) else (if a0_0 = 9 then (if 2 < (l1.length : Int) then ((prop_Pairs_at_ext_Filter_1.f k ((rd_T61 l1 0).f0) ((rd_T61 l1 0).f1) ((rd_T61 l1 0).f2) ((rd_T61 l1 0).f3) ((rd_T61 l1 0).f4) ((rd_T61 l1 1).f0) ((rd_T61 l1 1).f1) ((rd_T61 l1 1).f2) ((rd_T61 l1 1).f3) ((rd_T61 l1 1).f4) ((rd_T61 l1 2).f0) ((rd_T61 l1 2).f1) ((rd_T61 l1 2).f2) ((rd_T61 l1 2).f3) ((rd_T61 l1 2).f4)).bind fun bt279 => (if bt279.2 = true then (some (bt279.1, true)) else (some (([] : List (S61)), false)))) else (none)) else (if 2 < (l1.length : Int) then ((prop_Pairs_at_ext_Filter_2.f k ((rd_T61 l1 0).f0) ((rd_T61 l1 0).f1) ((rd_T61 l1 0).f2) ((rd_T61 l1 0).f3) ((rd_T61 l1 0).f4) ((rd_T61 l1 1).f0) ((rd_T61 l1 1).f1) ((rd_T61 l1 1).f2) ((rd_T61 l1 1).f3) ((rd_T61 l1 1).f4) ((rd_T61 l1 2).f0) ((rd_T61 l1 2).f1) ((rd_T61 l1 2).f2) ((rd_T61 l1 2).f3) ((rd_T61 l1 2).f4)).bind fun bt286 => (if bt286.2 = true then (some (bt286.1, true)) else (some (([] : List (S61)), false)))) else (none))))) else (none))) else (none))) else (some (([] : List (S61)), false)))) = some (r1, r2) := h
 clear h
 replace H := Option.bind_eq_some_iff.mp H
 obtain ⟨t265, A30, H⟩ := H
 replace H : (if t265 = true then (if a0_0 = 8 then (if 0 < (l1.length : Int) then (if 1 < (l1.length : Int) then ((ext_absolute.f k ((rd_T61 l1 0).f0) ((rd_T61 l1 0).f1) ((rd_T61 l1 0).f2) ((rd_T61 l1 0).f3) ((rd_T61 l1 0).f4) ((rd_T61 l1 1).f0) ((rd_T61 l1 1).f1) ((rd_T61 l1 1).f2) ((rd_T61 l1 1).f3) ((rd_T61 l1 1).f4)).bind fun bt268 => (some (bt268.1, bt268.2))) else (none)) else (none)) else (if 0 < (l1.length : Int) then ((dom_Dom_Size.f ((rd_T61 l1 0).f0) ((rd_T61 l1 0).f1) ((rd_T61 l1 0).f2) ((rd_T61 l1 0).f3) ((rd_T61 l1 0).f4)).bind fun t273 => (if 1 < (l1.length : Int) then ((dom_Dom_Size.f ((rd_T61 l1 1).f0) ((rd_T61 l1 1).f1) ((rd_T61 l1 1).f2) ((rd_T61 l1 1).f3) ((rd_T61 l1 1).f4)).bind fun t275 => (if (wrap64 (t273 * t275)) > 4096 then (none) else (if a0_0 = 9 then (if 2 < (l1.length : Int) then ((prop_Pairs_at_ext_Filter_1.f k ((rd_T61 l1 0).f0) ((rd_T61 l1 0).f1) ((rd_T61 l1 0).f2) ((rd_T61 l1 0).f3) ((rd_T61 l1 0).f4) ((rd_T61 l1 1).f0) ((rd_T61 l1 1).f1) ((rd_T61 l1 1).f2) ((rd_T61 l1 1).f3) ((rd_T61 l1 1).f4) ((rd_T61 l1 2).f0) ((rd_T61 l1 2).f1) ((rd_T61 l1 2).f2) ((rd_T61 l1 2).f3) ((rd_T61 l1 2).f4)).bind fun bt279 => (if bt279.2 = true then (some (bt279.1, true)) else (some (([] : List (S61)), false)))) else (none)) else (if 2 < (l1.length : Int) then ((prop_Pairs_at_ext_Filter_2.f k ((rd_T61 l1 0).f0) ((rd_T61 l1 0).f1) ((rd_T61 l1 0).f2) ((rd_T61 l1 0).f3) ((rd_T61 l1 0).f4) ((rd_T61 l1 1).f0) ((rd_T61 l1 1).f1) ((rd_T61 l1 1).f2) ((rd_T61 l1 1).f3) ((rd_T61 l1 1).f4) ((rd_T61 l1 2).f0) ((rd_T61 l1 2).f1) ((rd_T61 l1 2).f2) ((rd_T61 l1 2).f3) ((rd_T61 l1 2).f4)).bind fun bt286 => (if bt286.2 = true then (some (bt286.1, true)) else (some (([] : List (S61)), false)))) else (none))))) else (none))) else (none))) else (some (([] : List (S61)), false))) = some (r1, r2) := H
 have A3 := Aside0.mk A30
 clear A30
 by_cases c4 : t265 = true
 ·
  subst c4
  have H1 : (if a0_0 = 8 then (if 0 < (l1.length : Int) then (if 1 < (l1.length : Int) then ((ext_absolute.f k ((rd_T61 l1 0).f0) ((rd_T61 l1 0).f1) ((rd_T61 l1 0).f2) ((rd_T61 l1 0).f3) ((rd_T61 l1 0).f4) ((rd_T61 l1 1).f0) ((rd_T61 l1 1).f1) ((rd_T61 l1 1).f2) ((rd_T61 l1 1).f3) ((rd_T61 l1 1).f4)).bind fun bt268 => (some (bt268.1, bt268.2))) else (none)) else (none)) else (if 0 < (l1.length : Int) then ((dom_Dom_Size.f ((rd_T61 l1 0).f0) ((rd_T61 l1 0).f1) ((rd_T61 l1 0).f2) ((rd_T61 l1 0).f3) ((rd_T61 l1 0).f4)).bind fun t273 => (if 1 < (l1.length : Int) then ((dom_Dom_Size.f ((rd_T61 l1 1).f0) ((rd_T61 l1 1).f1) ((rd_T61 l1 1).f2) ((rd_T61 l1 1).f3) ((rd_T61 l1 1).f4)).bind fun t275 => (if (wrap64 (t273 * t275)) > 4096 then (none) else (if a0_0 = 9 then (if 2 < (l1.length : Int) then ((prop_Pairs_at_ext_Filter_1.f k ((rd_T61 l1 0).f0) ((rd_T61 l1 0).f1) ((rd_T61 l1 0).f2) ((rd_T61 l1 0).f3) ((rd_T61 l1 0).f4) ((rd_T61 l1 1).f0) ((rd_T61 l1 1).f1) ((rd_T61 l1 1).f2) ((rd_T61 l1 1).f3) ((rd_T61 l1 1).f4) ((rd_T61 l1 2).f0) ((rd_T61 l1 2).f1) ((rd_T61 l1 2).f2) ((rd_T61 l1 2).f3) ((rd_T61 l1 2).f4)).bind fun bt279 => (if bt279.2 = true then (some (bt279.1, true)) else (some (([] : List (S61)), false)))) else (none)) else (if 2 < (l1.length : Int) then ((prop_Pairs_at_ext_Filter_2.f k ((rd_T61 l1 0).f0) ((rd_T61 l1 0).f1) ((rd_T61 l1 0).f2) ((rd_T61 l1 0).f3) ((rd_T61 l1 0).f4) ((rd_T61 l1 1).f0) ((rd_T61 l1 1).f1) ((rd_T61 l1 1).f2) ((rd_T61 l1 1).f3) ((rd_T61 l1 1).f4) ((rd_T61 l1 2).f0) ((rd_T61 l1 2).f1) ((rd_T61 l1 2).f2) ((rd_T61 l1 2).f3) ((rd_T61 l1 2).f4)).bind fun bt286 => (if bt286.2 = true then (some (bt286.1, true)) else (some (([] : List (S61)), false)))) else (none))))) else (none))) else (none))) = some (r1, r2) := by rw [if_pos rfl] at H; exact H
  clear H
  have H := H1
  clear H1
  by_cases c5 : a0_0 = 8
  ·
   rw [if_pos c5] at H
   have c5b0 : (a0_0 == 8) = true := beq_iff_eq.mpr c5
   have c5b1 : (a0_0 != 8) = false := bne_eq_false_iff_eq.mpr c5
   clear c5
   by_cases c6 : 0 < (l1.length : Int)
   ·
    rw [if_pos c6] at H
    have c6b0 : decide (0 < (l1.length : Int)) = true := decide_eq_true c6
    have c6b1 : decide (0 < l1.length) = true := decide_eq_true (by omega)
    clear c6
    by_cases c7 : 1 < (l1.length : Int)
    ·
     rw [if_pos c7] at H
     have c7b0 : decide (1 < (l1.length : Int)) = true := decide_eq_true c7
     have c7b1 : decide (1 < l1.length) = true := decide_eq_true (by omega)
     clear c7
     replace H := Option.bind_eq_some_iff.mp H
     obtain ⟨⟨t268, t271⟩, A80, H⟩ := H
     replace H : (some (t268, t271)) = some (r1, r2) := H
     have A8 := Aside0.mk A80
     clear A80
     simp only [Option.some.injEq, Prod.mk.injEq] at H
     obtain ⟨rfl, rfl⟩ := H
     go_enter Tryz.func10, Tryz.ntmps10
     try go_wp2_with (first | ((with_reducible refine gate_dst (N := 2) rfl ?_); refine bxe_ (N := 2) (cs := #[.int .i64 a0_0, .slice A0_1 l0_1.length c0_1, .slice A0_2 l0_2.length c0_2, .slice A0_3 l0_3.length c0_3, .slice A0_4 l0_4.length c0_4, .slice A0_5 l0_5.length c0_5, .int .i64 a0_6, .slice A0_7 l0_7.length c0_7]) (t := 32) ?_; intro gb264 hg w9 hbox hb; have BK264 := Aside0.mk (hbox); have GW264 := Aside0.mk (by rw [hg]; exact (below_size bel_) : w.heap.size ≤ gb264); have GE264 := GW264; replace HB := Aside0.mk (below_step bel_ hb); clear hb hbox hg; obtain ⟨_, _, _, _, _, _, _, _, _, _, _, _, _, _, _, _⟩ := cel8_ BK264.out) | ((with_reducible refine gate_callee (f := 27) rfl ?_); refine goesL_ (some 11) rfl rfl Tryz.func27 (by kernel_rfl) rfl #[.agg #[.int .i64 a0_0, .slice A0_1 l0_1.length c0_1, .slice A0_2 l0_2.length c0_2, .slice A0_3 l0_3.length c0_3, .slice A0_4 l0_4.length c0_4, .slice A0_5 l0_5.length c0_5, .int .i64 a0_6, .slice A0_7 l0_7.length c0_7], .slice A1 l1.length c1, .int .i64 8, .int .i64 10] rfl ar_ ?_; (with_reducible refine (prop_Fits.calls k a0_0 _ _ l0_1 _ _ l0_2 _ _ l0_3 _ _ l0_4 _ _ l0_5 a0_6 _ _ l0_7 _ _ l1 8 10 true _ ?_ ?_ ?_ ?_ ?_ ?_ ?_ ?_ ?_ ?_ ?_ ?_ ?_ ?_ A3.out).mono ?_); exact ca_ ((Kd.C_below HR0_1.out HB.out)); exact HC0_1.out; exact ca_ ((Kd.C_below HR0_2.out HB.out)); exact HC0_2.out; exact ca_ ((Kd.C_below HR0_3.out HB.out)); exact HC0_3.out; exact ca_ ((Kd.C_below HR0_4.out HB.out)); exact HC0_4.out; exact ca_ ((Kd.C_below HR0_5.out HB.out)); exact HC0_5.out; exact ca_ ((Kd.C_below HR0_7.out HB.out)); exact HC0_7.out; exact ca_ ((Kd.C_below HR1.out HB.out)); exact HC1.out; rintro e w11 ⟨rfl, hb⟩; refine ⟨_, rfl, ?_⟩; replace BK264 := Aside0.mk (blk_below (bk_ BK264.out) hb); replace HB := Aside0.mk (below_step bel_ hb); clear hb; obtain ⟨_, _, _, _, _, _, _, _, _, _, _, _, _, _, _, _⟩ := cel8_ BK264.out))
     replace BK264 := Aside0.mk (blk_drew BK264.out)
     replace HB := Aside0.mk (below_drew1 HB.out)
     have p266 : 0 ≤ (0 : Int) := (by omega)
     have q266 : 0 < (l1.length : Int) := dq_
     obtain ⟨ad266, A266_1, c266_1, e266, hx266_0, hx266_1, hx266_2, hx266_3, hx266_4, hl266_1, hi266_1⟩ := at_T61 HR1.out 0 p266 q266
     have hw266_4 := hx266_4
     (try rw [show ((0 : Int)).toNat = 0 from rfl] at hw266_4)
     (try rw [show 0 * 5 = 0 from rfl] at hw266_4)
     (try rw [Addr.add_zero'] at hw266_4)
     have hw266_3 := hx266_3
     (try rw [show ((0 : Int)).toNat = 0 from rfl] at hw266_3)
     (try rw [show 0 * 5 = 0 from rfl] at hw266_3)
     (try rw [Addr.add_zero'] at hw266_3)
     have hw266_2 := hx266_2
     (try rw [show ((0 : Int)).toNat = 0 from rfl] at hw266_2)
     (try rw [show 0 * 5 = 0 from rfl] at hw266_2)
     (try rw [Addr.add_zero'] at hw266_2)
     have hw266_1 := hx266_1
     (try rw [show ((0 : Int)).toNat = 0 from rfl] at hw266_1)
     (try rw [show 0 * 5 = 0 from rfl] at hw266_1)
     (try rw [Addr.add_zero'] at hw266_1)
     have hw266_0 := hx266_0
     (try rw [show ((0 : Int)).toNat = 0 from rfl] at hw266_0)
     (try rw [show 0 * 5 = 0 from rfl] at hw266_0)
     (try rw [Addr.add_zero'] at hw266_0)
     cases e266
     have qi266 : (0 < l1.length) = True := eq_true (by omega)
     (try rw [show ((0 : Int)).toNat = 0 from rfl] at hx266_0)
     (try rw [show 0 * 5 = 0 from rfl] at hx266_0)
     (try rw [Addr.add_zero'] at hx266_0)
     (try rw [show ((0 : Int)).toNat = 0 from rfl] at hx266_1)
     (try rw [show 0 * 5 = 0 from rfl] at hx266_1)
     (try rw [Addr.add_zero'] at hx266_1)
     (try rw [show ((0 : Int)).toNat = 0 from rfl] at hx266_2)
     (try rw [show 0 * 5 = 0 from rfl] at hx266_2)
     (try rw [Addr.add_zero'] at hx266_2)
     (try rw [show ((0 : Int)).toNat = 0 from rfl] at hx266_3)
     (try rw [show 0 * 5 = 0 from rfl] at hx266_3)
     (try rw [Addr.add_zero'] at hx266_3)
     (try rw [show ((0 : Int)).toNat = 0 from rfl] at hx266_4)
     (try rw [show 0 * 5 = 0 from rfl] at hx266_4)
     (try rw [Addr.add_zero'] at hx266_4)
     replace hx266_0 := (HB.out.cell (World.block_lt_of_cell? w _ hx266_0)).trans hx266_0
     replace hx266_1 := (HB.out.cell (World.block_lt_of_cell? w _ hx266_1)).trans hx266_1
     replace hx266_2 := (HB.out.cell (World.block_lt_of_cell? w _ hx266_2)).trans hx266_2
     replace hx266_3 := (HB.out.cell (World.block_lt_of_cell? w _ hx266_3)).trans hx266_3
     replace hx266_4 := (HB.out.cell (World.block_lt_of_cell? w _ hx266_4)).trans hx266_4
     have HR266_1 := Aside0.mk hi266_1
     have HC266_1 := Aside0.mk hl266_1
     clear hi266_1 hl266_1
     replace p266 := eq_true p266
     replace q266 := eq_true q266
     have p267 : 0 ≤ (1 : Int) := (by omega)
     have q267 : 1 < (l1.length : Int) := dq_
     obtain ⟨ad267, A267_1, c267_1, e267, hx267_0, hx267_1, hx267_2, hx267_3, hx267_4, hl267_1, hi267_1⟩ := at_T61 HR1.out 1 p267 q267
     have hw267_4 := hx267_4
     (try rw [show ((1 : Int)).toNat = 1 from rfl] at hw267_4)
     (try rw [show 1 * 5 = 5 from rfl] at hw267_4)
     (try simp only [Nat.reduceMul, Nat.reduceEqDiff, Go.Addr.add, ↓reduceIte] at hw267_4)
     have hw267_3 := hx267_3
     (try rw [show ((1 : Int)).toNat = 1 from rfl] at hw267_3)
     (try rw [show 1 * 5 = 5 from rfl] at hw267_3)
     (try simp only [Nat.reduceMul, Nat.reduceEqDiff, Go.Addr.add, ↓reduceIte] at hw267_3)
     have hw267_2 := hx267_2
     (try rw [show ((1 : Int)).toNat = 1 from rfl] at hw267_2)
     (try rw [show 1 * 5 = 5 from rfl] at hw267_2)
     (try simp only [Nat.reduceMul, Nat.reduceEqDiff, Go.Addr.add, ↓reduceIte] at hw267_2)
     have hw267_1 := hx267_1
     (try rw [show ((1 : Int)).toNat = 1 from rfl] at hw267_1)
     (try rw [show 1 * 5 = 5 from rfl] at hw267_1)
     (try simp only [Nat.reduceMul, Nat.reduceEqDiff, Go.Addr.add, ↓reduceIte] at hw267_1)
     have hw267_0 := hx267_0
     (try rw [show ((1 : Int)).toNat = 1 from rfl] at hw267_0)
     (try rw [show 1 * 5 = 5 from rfl] at hw267_0)
     (try simp only [Nat.reduceMul, Nat.reduceEqDiff, Go.Addr.add, ↓reduceIte] at hw267_0)
     obtain rfl : ad266 = ad267 := (by injection e267)
     (try simp only [show (1 : Int).toNat = 1 from rfl, Nat.reduceMul, Nat.reduceEqDiff, Go.Addr.add, ↓reduceIte] at hx267_0)
     (try simp only [show (1 : Int).toNat = 1 from rfl, Nat.reduceMul, Nat.reduceEqDiff, Go.Addr.add, ↓reduceIte] at hx267_1)
     (try simp only [show (1 : Int).toNat = 1 from rfl, Nat.reduceMul, Nat.reduceEqDiff, Go.Addr.add, ↓reduceIte] at hx267_2)
     (try simp only [show (1 : Int).toNat = 1 from rfl, Nat.reduceMul, Nat.reduceEqDiff, Go.Addr.add, ↓reduceIte] at hx267_3)
     (try simp only [show (1 : Int).toNat = 1 from rfl, Nat.reduceMul, Nat.reduceEqDiff, Go.Addr.add, ↓reduceIte] at hx267_4)
     have qi267 : (1 < l1.length) = True := eq_true (by omega)
     (try rw [show ((1 : Int)).toNat = 1 from rfl] at hx267_0)
     (try rw [show 1 * 5 = 5 from rfl] at hx267_0)
     (try rw [show ((1 : Int)).toNat = 1 from rfl] at hx267_1)
     (try rw [show 1 * 5 = 5 from rfl] at hx267_1)
     (try rw [show ((1 : Int)).toNat = 1 from rfl] at hx267_2)
     (try rw [show 1 * 5 = 5 from rfl] at hx267_2)
     (try rw [show ((1 : Int)).toNat = 1 from rfl] at hx267_3)
     (try rw [show 1 * 5 = 5 from rfl] at hx267_3)
     (try rw [show ((1 : Int)).toNat = 1 from rfl] at hx267_4)
     (try rw [show 1 * 5 = 5 from rfl] at hx267_4)
     replace hx267_0 := (HB.out.cell (World.block_lt_of_cell? w _ hx267_0)).trans hx267_0
     replace hx267_1 := (HB.out.cell (World.block_lt_of_cell? w _ hx267_1)).trans hx267_1
     replace hx267_2 := (HB.out.cell (World.block_lt_of_cell? w _ hx267_2)).trans hx267_2
     replace hx267_3 := (HB.out.cell (World.block_lt_of_cell? w _ hx267_3)).trans hx267_3
     replace hx267_4 := (HB.out.cell (World.block_lt_of_cell? w _ hx267_4)).trans hx267_4
     have HR267_1 := Aside0.mk hi267_1
     have HC267_1 := Aside0.mk hl267_1
     clear hi267_1 hl267_1
     replace p267 := eq_true p267
     replace q267 := eq_true q267
     refine start_ (n := 11) (S := fun w' => w'.cell? ad266 = some (.int .i64 ((rd_T61 l1 0).f0)) ∧ w'.cell? ⟨ad266.block, ad266.off + 1, none⟩ = some (.slice A266_1 ((rd_T61 l1 0).f1).length c266_1) ∧ w'.cell? ⟨ad266.block, ad266.off + 2, none⟩ = some (.int .i64 ((rd_T61 l1 0).f2)) ∧ w'.cell? ⟨ad266.block, ad266.off + 3, none⟩ = some (.int .i64 ((rd_T61 l1 0).f3)) ∧ w'.cell? ⟨ad266.block, ad266.off + 4, none⟩ = some (.int .i64 ((rd_T61 l1 0).f4)) ∧ w'.cell? ⟨ad266.block, ad266.off + 5, none⟩ = some (.int .i64 ((rd_T61 l1 1).f0)) ∧ w'.cell? ⟨ad266.block, ad266.off + 5 + 1, none⟩ = some (.slice A267_1 ((rd_T61 l1 1).f1).length c267_1) ∧ w'.cell? ⟨ad266.block, ad266.off + 5 + 2, none⟩ = some (.int .i64 ((rd_T61 l1 1).f2)) ∧ w'.cell? ⟨ad266.block, ad266.off + 5 + 3, none⟩ = some (.int .i64 ((rd_T61 l1 1).f3)) ∧ w'.cell? ⟨ad266.block, ad266.off + 5 + 4, none⟩ = some (.int .i64 ((rd_T61 l1 1).f4))) (ds := []) #[false, false, false, false, false, false, false, false, false, false, false] (by kernel_rfl) rfl rfl ⟨((HB.out.cell (World.block_lt_of_cell? w _ hw266_0)).trans hw266_0), ((HB.out.cell (World.block_lt_of_cell? w _ hw266_1)).trans hw266_1), ((HB.out.cell (World.block_lt_of_cell? w _ hw266_2)).trans hw266_2), ((HB.out.cell (World.block_lt_of_cell? w _ hw266_3)).trans hw266_3), ((HB.out.cell (World.block_lt_of_cell? w _ hw266_4)).trans hw266_4), ((HB.out.cell (World.block_lt_of_cell? w _ hw267_0)).trans hw267_0), ((HB.out.cell (World.block_lt_of_cell? w _ hw267_1)).trans hw267_1), ((HB.out.cell (World.block_lt_of_cell? w _ hw267_2)).trans hw267_2), ((HB.out.cell (World.block_lt_of_cell? w _ hw267_3)).trans hw267_3), ((HB.out.cell (World.block_lt_of_cell? w _ hw267_4)).trans hw267_4)⟩ (fun hHeld => ?_); refine with_tabW ext_Filter.tab4 ext_Filter.bits4 (fun HT_ HW_ => ?_)
     generalize w11.drew = w13 at BK264 HB HR266_1 HR267_1 hx266_0 hx266_1 hx266_2 hx266_3 hx266_4 hx267_0 hx267_1 hx267_2 hx267_3 hx267_4 hHeld ⊢
     refine pur_ (i := 0) (N := some 16) #[true, false, false, false, false, false, false, false, false, false, false] (any_of HT_.out (by kernel_rfl)) ?_
     refine pur_ (i := 1) (N := some 17) #[true, true, false, false, false, false, false, false, false, false, false] (any_of HT_.out (by kernel_rfl)) ?_
     refine pur_ (i := 3) (N := some 19) #[true, true, false, true, false, false, false, false, false, false, false] (any_of HT_.out (by kernel_rfl)) ?_
     refine pur_ (i := 4) (N := some 20) #[true, true, false, true, true, false, false, false, false, false, false] (any_of HT_.out (by kernel_rfl)) ?_
     refine take_ (i := 2) (N := some 18) (v := ?_) (a' := ?_) #[true, true, true, true, true, false, false, false, false, false, false] rfl rfl (take_ofW HT_.out HW_.out (by kernel_rfl)) (fun _ _ _ h => h) (Or.inl ⟨by rfl, ?_⟩) hHeld ?_ ?_
     rotate_left
     ·
      rintro w' ⟨s0, s1, s2, s3, s4, s5, s6, s7, s8, s9⟩
      go_simp
      with_reducible rfl
     rotate_left
     ·
      simp only [Act.put, List.setIfInBounds_toArray, List.set_cons_zero, List.set_cons_succ, i64_w, i32_w]
      rfl
     refine take_ (i := 5) (N := some 21) (v := ?_) (a' := ?_) #[true, true, true, true, true, true, false, false, false, false, false] rfl rfl (take_ofW HT_.out HW_.out (by kernel_rfl)) (fun _ _ _ h => h) (Or.inl ⟨by rfl, ?_⟩) hHeld ?_ ?_
     rotate_left
     ·
      rintro w' ⟨s0, s1, s2, s3, s4, s5, s6, s7, s8, s9⟩
      go_simp
      with_reducible rfl
     rotate_left
     ·
      simp only [Act.put, List.setIfInBounds_toArray, List.set_cons_zero, List.set_cons_succ, i64_w, i32_w]
      rfl
     refine one_ (i := 6) (N := some 22) #[true, true, true, true, true, true, true, false, false, false, false] rfl rfl (one_of HT_.out (by kernel_rfl)) (by decide) (fun K hK => ?_)
     refine goes_ Tryz.func28 (by kernel_rfl) rfl #[.agg #[.int .i64 ((rd_T61 l1 0).f0), .slice A266_1 ((rd_T61 l1 0).f1).length c266_1, .int .i64 ((rd_T61 l1 0).f2), .int .i64 ((rd_T61 l1 0).f3), .int .i64 ((rd_T61 l1 0).f4)], .agg #[.int .i64 ((rd_T61 l1 1).f0), .slice A267_1 ((rd_T61 l1 1).f1).length c267_1, .int .i64 ((rd_T61 l1 1).f2), .int .i64 ((rd_T61 l1 1).f3), .int .i64 ((rd_T61 l1 1).f4)]] (by rfl) rfl rfl ar_ ?_
     with_reducible refine (ext_absolute.calls k ((rd_T61 l1 0).f0) _ _ ((rd_T61 l1 0).f1) ((rd_T61 l1 0).f2) ((rd_T61 l1 0).f3) ((rd_T61 l1 0).f4) ((rd_T61 l1 1).f0) _ _ ((rd_T61 l1 1).f1) ((rd_T61 l1 1).f2) ((rd_T61 l1 1).f3) ((rd_T61 l1 1).f4) t268 t271 _ ?_ ?_ ?_ ?_ ?_ A8.out).mono ?_
     exact ca_ ((Kd.C_below HR266_1.out HB.out))
     exact HC266_1.out
     exact ca_ ((Kd.C_below HR267_1.out HB.out))
     exact HC267_1.out
     exact ca_ ((Kd.C_below HRtab.out HB.out))
     rintro e w14 ⟨v269, rfl, ho0, hb⟩
     refine ⟨_, rfl, ?_⟩
     have HO270 := Aside0.mk (Kd.N_lower (Kd.N_mono (ok' := fun k_ => (w.heap.size ≤ k_) ∧ k_ ≠ gb264) ho0 (fun k_ hk_ => ⟨(Nat.le_trans (below_size bel_) hk_), (Kd.freshB (bk_ BK264.out) k_ hk_)⟩)) (below_size bel_))
     replace HB := Aside0.mk (below_step bel_ hb)
     clear hb ho0
     refine hK.out _ _ ⟨((HB.out.cell (World.block_lt_of_cell? w _ hw266_0)).trans hw266_0), ((HB.out.cell (World.block_lt_of_cell? w _ hw266_1)).trans hw266_1), ((HB.out.cell (World.block_lt_of_cell? w _ hw266_2)).trans hw266_2), ((HB.out.cell (World.block_lt_of_cell? w _ hw266_3)).trans hw266_3), ((HB.out.cell (World.block_lt_of_cell? w _ hw266_4)).trans hw266_4), ((HB.out.cell (World.block_lt_of_cell? w _ hw267_0)).trans hw267_0), ((HB.out.cell (World.block_lt_of_cell? w _ hw267_1)).trans hw267_1), ((HB.out.cell (World.block_lt_of_cell? w _ hw267_2)).trans hw267_2), ((HB.out.cell (World.block_lt_of_cell? w _ hw267_3)).trans hw267_3), ((HB.out.cell (World.block_lt_of_cell? w _ hw267_4)).trans hw267_4)⟩ (fun hHeld => ?_)
     clear hK K
     refine nor_ (N := some 22) ?_
     refine pur_ (i := 7) (N := some 23) #[true, true, true, true, true, true, true, true, false, false, false] (any_of HT_.out (by kernel_rfl)) ?_
     refine pur_ (i := 8) (N := some 24) #[true, true, true, true, true, true, true, true, true, false, false] (any_of HT_.out (by kernel_rfl)) ?_
     refine pur_ (i := 9) (N := some 4) #[true, true, true, true, true, true, true, true, true, true, false] (any_of HT_.out (by kernel_rfl)) ?_
     refine pur_ (i := 10) (N := some 5) #[true, true, true, true, true, true, true, true, true, true, true] (any_of HT_.out (by kernel_rfl)) ?_
     refine done_ (done_of HT_.out (by kernel_rfl)) ?_
     try go_wp2
     go_ret2
     exact ⟨_, by first | rfl | (simp [errW_none, errW_some] <;> rfl) | (simp [*, errW_none, errW_some] <;> rfl), by refine vN_ ?_; exact Kd.N_mono HO270.out (fun _ hk => hk.1), bel_⟩
    ·
     rw [if_neg c7] at H
     exact absurd H (by simp)
   ·
    rw [if_neg c6] at H
    exact absurd H (by simp)
  ·
   rw [if_neg c5] at H
   have c5b0 : (a0_0 == 8) = false := beq_eq_false_iff_ne.mpr c5
   have c5b1 : (a0_0 != 8) = true := bne_iff_ne.mpr c5
   by_cases c15 : 0 < (l1.length : Int)
   ·
    rw [if_pos c15] at H
    have c15b0 : decide (0 < (l1.length : Int)) = true := decide_eq_true c15
    have c15b1 : decide (0 < l1.length) = true := decide_eq_true (by omega)
    clear c15
    replace H := Option.bind_eq_some_iff.mp H
    obtain ⟨t273, A160, H⟩ := H
    replace H : (if 1 < (l1.length : Int) then ((dom_Dom_Size.f ((rd_T61 l1 1).f0) ((rd_T61 l1 1).f1) ((rd_T61 l1 1).f2) ((rd_T61 l1 1).f3) ((rd_T61 l1 1).f4)).bind fun t275 => (if (wrap64 (t273 * t275)) > 4096 then (none) else (if a0_0 = 9 then (if 2 < (l1.length : Int) then ((prop_Pairs_at_ext_Filter_1.f k ((rd_T61 l1 0).f0) ((rd_T61 l1 0).f1) ((rd_T61 l1 0).f2) ((rd_T61 l1 0).f3) ((rd_T61 l1 0).f4) ((rd_T61 l1 1).f0) ((rd_T61 l1 1).f1) ((rd_T61 l1 1).f2) ((rd_T61 l1 1).f3) ((rd_T61 l1 1).f4) ((rd_T61 l1 2).f0) ((rd_T61 l1 2).f1) ((rd_T61 l1 2).f2) ((rd_T61 l1 2).f3) ((rd_T61 l1 2).f4)).bind fun bt279 => (if bt279.2 = true then (some (bt279.1, true)) else (some (([] : List (S61)), false)))) else (none)) else (if 2 < (l1.length : Int) then ((prop_Pairs_at_ext_Filter_2.f k ((rd_T61 l1 0).f0) ((rd_T61 l1 0).f1) ((rd_T61 l1 0).f2) ((rd_T61 l1 0).f3) ((rd_T61 l1 0).f4) ((rd_T61 l1 1).f0) ((rd_T61 l1 1).f1) ((rd_T61 l1 1).f2) ((rd_T61 l1 1).f3) ((rd_T61 l1 1).f4) ((rd_T61 l1 2).f0) ((rd_T61 l1 2).f1) ((rd_T61 l1 2).f2) ((rd_T61 l1 2).f3) ((rd_T61 l1 2).f4)).bind fun bt286 => (if bt286.2 = true then (some (bt286.1, true)) else (some (([] : List (S61)), false)))) else (none))))) else (none)) = some (r1, r2) := H
    have A16 := Aside0.mk A160
    clear A160
    by_cases c17 : 1 < (l1.length : Int)
    ·
     rw [if_pos c17] at H
     have c17b0 : decide (1 < (l1.length : Int)) = true := decide_eq_true c17
     have c17b1 : decide (1 < l1.length) = true := decide_eq_true (by omega)
     clear c17
     replace H := Option.bind_eq_some_iff.mp H
     obtain ⟨t275, A180, H⟩ := H
     replace H : (if (wrap64 (t273 * t275)) > 4096 then (none) else (if a0_0 = 9 then (if 2 < (l1.length : Int) then ((prop_Pairs_at_ext_Filter_1.f k ((rd_T61 l1 0).f0) ((rd_T61 l1 0).f1) ((rd_T61 l1 0).f2) ((rd_T61 l1 0).f3) ((rd_T61 l1 0).f4) ((rd_T61 l1 1).f0) ((rd_T61 l1 1).f1) ((rd_T61 l1 1).f2) ((rd_T61 l1 1).f3) ((rd_T61 l1 1).f4) ((rd_T61 l1 2).f0) ((rd_T61 l1 2).f1) ((rd_T61 l1 2).f2) ((rd_T61 l1 2).f3) ((rd_T61 l1 2).f4)).bind fun bt279 => (if bt279.2 = true then (some (bt279.1, true)) else (some (([] : List (S61)), false)))) else (none)) else (if 2 < (l1.length : Int) then ((prop_Pairs_at_ext_Filter_2.f k ((rd_T61 l1 0).f0) ((rd_T61 l1 0).f1) ((rd_T61 l1 0).f2) ((rd_T61 l1 0).f3) ((rd_T61 l1 0).f4) ((rd_T61 l1 1).f0) ((rd_T61 l1 1).f1) ((rd_T61 l1 1).f2) ((rd_T61 l1 1).f3) ((rd_T61 l1 1).f4) ((rd_T61 l1 2).f0) ((rd_T61 l1 2).f1) ((rd_T61 l1 2).f2) ((rd_T61 l1 2).f3) ((rd_T61 l1 2).f4)).bind fun bt286 => (if bt286.2 = true then (some (bt286.1, true)) else (some (([] : List (S61)), false)))) else (none)))) = some (r1, r2) := H
     have A18 := Aside0.mk A180
     clear A180
     by_cases c19 : (wrap64 (t273 * t275)) > 4096
     ·
      rw [if_pos c19] at H
      exact absurd H (by simp)
     ·
      rw [if_neg c19] at H
      have c19b0 : decide (4096 < (wrap64 (t273 * t275))) = false := decide_eq_false c19
      clear c19
      by_cases c20 : a0_0 = 9
      ·
       rw [if_pos c20] at H
       have c20b0 : (a0_0 == 9) = true := beq_iff_eq.mpr c20
       have c20b1 : (a0_0 != 9) = false := bne_eq_false_iff_eq.mpr c20
       clear c20
       by_cases c21 : 2 < (l1.length : Int)
       ·
        rw [if_pos c21] at H
        have c21b0 : decide (2 < (l1.length : Int)) = true := decide_eq_true c21
        have c21b1 : decide (2 < l1.length) = true := decide_eq_true (by omega)
        clear c21
        replace H := Option.bind_eq_some_iff.mp H
        obtain ⟨⟨t279, t282⟩, A220, H⟩ := H
        replace H : (if t282 = true then (some (t279, true)) else (some (([] : List (S61)), false))) = some (r1, r2) := H
        have A22 := Aside0.mk A220
        clear A220
        by_cases c23 : t282 = true
        ·
         subst c23
         have H1 : (some (t279, true)) = some (r1, r2) := by rw [if_pos rfl] at H; exact H
         clear H
         have H := H1
         clear H1
         simp only [Option.some.injEq, Prod.mk.injEq] at H
         obtain ⟨rfl, rfl⟩ := H
         go_enter Tryz.func10, Tryz.ntmps10
         try go_wp2_with (first | ((with_reducible refine gate_dst (N := 2) rfl ?_); refine bxe_ (N := 2) (cs := #[.int .i64 a0_0, .slice A0_1 l0_1.length c0_1, .slice A0_2 l0_2.length c0_2, .slice A0_3 l0_3.length c0_3, .slice A0_4 l0_4.length c0_4, .slice A0_5 l0_5.length c0_5, .int .i64 a0_6, .slice A0_7 l0_7.length c0_7]) (t := 32) ?_; intro gb264 hg w24 hbox hb; have BK264 := Aside0.mk (hbox); have GW264 := Aside0.mk (by rw [hg]; exact (below_size bel_) : w.heap.size ≤ gb264); have GE264 := GW264; replace HB := Aside0.mk (below_step bel_ hb); clear hb hbox hg; obtain ⟨_, _, _, _, _, _, _, _, _, _, _, _, _, _, _, _⟩ := cel8_ BK264.out) | ((with_reducible refine gate_callee (f := 27) rfl ?_); refine goesL_ (some 11) rfl rfl Tryz.func27 (by kernel_rfl) rfl #[.agg #[.int .i64 a0_0, .slice A0_1 l0_1.length c0_1, .slice A0_2 l0_2.length c0_2, .slice A0_3 l0_3.length c0_3, .slice A0_4 l0_4.length c0_4, .slice A0_5 l0_5.length c0_5, .int .i64 a0_6, .slice A0_7 l0_7.length c0_7], .slice A1 l1.length c1, .int .i64 8, .int .i64 10] rfl ar_ ?_; (with_reducible refine (prop_Fits.calls k a0_0 _ _ l0_1 _ _ l0_2 _ _ l0_3 _ _ l0_4 _ _ l0_5 a0_6 _ _ l0_7 _ _ l1 8 10 true _ ?_ ?_ ?_ ?_ ?_ ?_ ?_ ?_ ?_ ?_ ?_ ?_ ?_ ?_ A3.out).mono ?_); exact ca_ ((Kd.C_below HR0_1.out HB.out)); exact HC0_1.out; exact ca_ ((Kd.C_below HR0_2.out HB.out)); exact HC0_2.out; exact ca_ ((Kd.C_below HR0_3.out HB.out)); exact HC0_3.out; exact ca_ ((Kd.C_below HR0_4.out HB.out)); exact HC0_4.out; exact ca_ ((Kd.C_below HR0_5.out HB.out)); exact HC0_5.out; exact ca_ ((Kd.C_below HR0_7.out HB.out)); exact HC0_7.out; exact ca_ ((Kd.C_below HR1.out HB.out)); exact HC1.out; rintro e w26 ⟨rfl, hb⟩; refine ⟨_, rfl, ?_⟩; replace BK264 := Aside0.mk (blk_below (bk_ BK264.out) hb); replace HB := Aside0.mk (below_step bel_ hb); clear hb; obtain ⟨_, _, _, _, _, _, _, _, _, _, _, _, _, _, _, _⟩ := cel8_ BK264.out))
         replace BK264 := Aside0.mk (blk_drew BK264.out)
         replace HB := Aside0.mk (below_drew1 HB.out)
         have p272 : 0 ≤ (0 : Int) := (by omega)
         have q272 : 0 < (l1.length : Int) := dq_
         obtain ⟨ad272, A272_1, c272_1, e272, hx272_0, hx272_1, hx272_2, hx272_3, hx272_4, hl272_1, hi272_1⟩ := at_T61 HR1.out 0 p272 q272
         have hw272_4 := hx272_4
         (try rw [show ((0 : Int)).toNat = 0 from rfl] at hw272_4)
         (try rw [show 0 * 5 = 0 from rfl] at hw272_4)
         (try rw [Addr.add_zero'] at hw272_4)
         have hw272_3 := hx272_3
         (try rw [show ((0 : Int)).toNat = 0 from rfl] at hw272_3)
         (try rw [show 0 * 5 = 0 from rfl] at hw272_3)
         (try rw [Addr.add_zero'] at hw272_3)
         have hw272_2 := hx272_2
         (try rw [show ((0 : Int)).toNat = 0 from rfl] at hw272_2)
         (try rw [show 0 * 5 = 0 from rfl] at hw272_2)
         (try rw [Addr.add_zero'] at hw272_2)
         have hw272_1 := hx272_1
         (try rw [show ((0 : Int)).toNat = 0 from rfl] at hw272_1)
         (try rw [show 0 * 5 = 0 from rfl] at hw272_1)
         (try rw [Addr.add_zero'] at hw272_1)
         have hw272_0 := hx272_0
         (try rw [show ((0 : Int)).toNat = 0 from rfl] at hw272_0)
         (try rw [show 0 * 5 = 0 from rfl] at hw272_0)
         (try rw [Addr.add_zero'] at hw272_0)
         cases e272
         have qi272 : (0 < l1.length) = True := eq_true (by omega)
         (try rw [show ((0 : Int)).toNat = 0 from rfl] at hx272_0)
         (try rw [show 0 * 5 = 0 from rfl] at hx272_0)
         (try rw [Addr.add_zero'] at hx272_0)
         (try rw [show ((0 : Int)).toNat = 0 from rfl] at hx272_1)
         (try rw [show 0 * 5 = 0 from rfl] at hx272_1)
         (try rw [Addr.add_zero'] at hx272_1)
         (try rw [show ((0 : Int)).toNat = 0 from rfl] at hx272_2)
         (try rw [show 0 * 5 = 0 from rfl] at hx272_2)
         (try rw [Addr.add_zero'] at hx272_2)
         (try rw [show ((0 : Int)).toNat = 0 from rfl] at hx272_3)
         (try rw [show 0 * 5 = 0 from rfl] at hx272_3)
         (try rw [Addr.add_zero'] at hx272_3)
         (try rw [show ((0 : Int)).toNat = 0 from rfl] at hx272_4)
         (try rw [show 0 * 5 = 0 from rfl] at hx272_4)
         (try rw [Addr.add_zero'] at hx272_4)
         replace hx272_0 := (HB.out.cell (World.block_lt_of_cell? w _ hx272_0)).trans hx272_0
         replace hx272_1 := (HB.out.cell (World.block_lt_of_cell? w _ hx272_1)).trans hx272_1
         replace hx272_2 := (HB.out.cell (World.block_lt_of_cell? w _ hx272_2)).trans hx272_2
         replace hx272_3 := (HB.out.cell (World.block_lt_of_cell? w _ hx272_3)).trans hx272_3
         replace hx272_4 := (HB.out.cell (World.block_lt_of_cell? w _ hx272_4)).trans hx272_4
         have HR272_1 := Aside0.mk hi272_1
         have HC272_1 := Aside0.mk hl272_1
         clear hi272_1 hl272_1
         replace p272 := eq_true p272
         replace q272 := eq_true q272
         have p274 : 0 ≤ (1 : Int) := (by omega)
         have q274 : 1 < (l1.length : Int) := dq_
         obtain ⟨ad274, A274_1, c274_1, e274, hx274_0, hx274_1, hx274_2, hx274_3, hx274_4, hl274_1, hi274_1⟩ := at_T61 HR1.out 1 p274 q274
         have hw274_4 := hx274_4
         (try rw [show ((1 : Int)).toNat = 1 from rfl] at hw274_4)
         (try rw [show 1 * 5 = 5 from rfl] at hw274_4)
         (try simp only [Nat.reduceMul, Nat.reduceEqDiff, Go.Addr.add, ↓reduceIte] at hw274_4)
         have hw274_3 := hx274_3
         (try rw [show ((1 : Int)).toNat = 1 from rfl] at hw274_3)
         (try rw [show 1 * 5 = 5 from rfl] at hw274_3)
         (try simp only [Nat.reduceMul, Nat.reduceEqDiff, Go.Addr.add, ↓reduceIte] at hw274_3)
         have hw274_2 := hx274_2
         (try rw [show ((1 : Int)).toNat = 1 from rfl] at hw274_2)
         (try rw [show 1 * 5 = 5 from rfl] at hw274_2)
         (try simp only [Nat.reduceMul, Nat.reduceEqDiff, Go.Addr.add, ↓reduceIte] at hw274_2)
         have hw274_1 := hx274_1
         (try rw [show ((1 : Int)).toNat = 1 from rfl] at hw274_1)
         (try rw [show 1 * 5 = 5 from rfl] at hw274_1)
         (try simp only [Nat.reduceMul, Nat.reduceEqDiff, Go.Addr.add, ↓reduceIte] at hw274_1)
         have hw274_0 := hx274_0
         (try rw [show ((1 : Int)).toNat = 1 from rfl] at hw274_0)
         (try rw [show 1 * 5 = 5 from rfl] at hw274_0)
         (try simp only [Nat.reduceMul, Nat.reduceEqDiff, Go.Addr.add, ↓reduceIte] at hw274_0)
         obtain rfl : ad272 = ad274 := (by injection e274)
         (try simp only [show (1 : Int).toNat = 1 from rfl, Nat.reduceMul, Nat.reduceEqDiff, Go.Addr.add, ↓reduceIte] at hx274_0)
         (try simp only [show (1 : Int).toNat = 1 from rfl, Nat.reduceMul, Nat.reduceEqDiff, Go.Addr.add, ↓reduceIte] at hx274_1)
         (try simp only [show (1 : Int).toNat = 1 from rfl, Nat.reduceMul, Nat.reduceEqDiff, Go.Addr.add, ↓reduceIte] at hx274_2)
         (try simp only [show (1 : Int).toNat = 1 from rfl, Nat.reduceMul, Nat.reduceEqDiff, Go.Addr.add, ↓reduceIte] at hx274_3)
         (try simp only [show (1 : Int).toNat = 1 from rfl, Nat.reduceMul, Nat.reduceEqDiff, Go.Addr.add, ↓reduceIte] at hx274_4)
         have qi274 : (1 < l1.length) = True := eq_true (by omega)
         (try rw [show ((1 : Int)).toNat = 1 from rfl] at hx274_0)
         (try rw [show 1 * 5 = 5 from rfl] at hx274_0)
         (try rw [show ((1 : Int)).toNat = 1 from rfl] at hx274_1)
         (try rw [show 1 * 5 = 5 from rfl] at hx274_1)
         (try rw [show ((1 : Int)).toNat = 1 from rfl] at hx274_2)
         (try rw [show 1 * 5 = 5 from rfl] at hx274_2)
         (try rw [show ((1 : Int)).toNat = 1 from rfl] at hx274_3)
         (try rw [show 1 * 5 = 5 from rfl] at hx274_3)
         (try rw [show ((1 : Int)).toNat = 1 from rfl] at hx274_4)
         (try rw [show 1 * 5 = 5 from rfl] at hx274_4)
         replace hx274_0 := (HB.out.cell (World.block_lt_of_cell? w _ hx274_0)).trans hx274_0
         replace hx274_1 := (HB.out.cell (World.block_lt_of_cell? w _ hx274_1)).trans hx274_1
         replace hx274_2 := (HB.out.cell (World.block_lt_of_cell? w _ hx274_2)).trans hx274_2
         replace hx274_3 := (HB.out.cell (World.block_lt_of_cell? w _ hx274_3)).trans hx274_3
         replace hx274_4 := (HB.out.cell (World.block_lt_of_cell? w _ hx274_4)).trans hx274_4
         have HR274_1 := Aside0.mk hi274_1
         have HC274_1 := Aside0.mk hl274_1
         clear hi274_1 hl274_1
         replace p274 := eq_true p274
         replace q274 := eq_true q274
         refine start_ (n := 11) (S := fun w' => w'.cell? ad272 = some (.int .i64 ((rd_T61 l1 0).f0)) ∧ w'.cell? ⟨ad272.block, ad272.off + 1, none⟩ = some (.slice A272_1 ((rd_T61 l1 0).f1).length c272_1) ∧ w'.cell? ⟨ad272.block, ad272.off + 2, none⟩ = some (.int .i64 ((rd_T61 l1 0).f2)) ∧ w'.cell? ⟨ad272.block, ad272.off + 3, none⟩ = some (.int .i64 ((rd_T61 l1 0).f3)) ∧ w'.cell? ⟨ad272.block, ad272.off + 4, none⟩ = some (.int .i64 ((rd_T61 l1 0).f4)) ∧ w'.cell? ⟨ad272.block, ad272.off + 5, none⟩ = some (.int .i64 ((rd_T61 l1 1).f0)) ∧ w'.cell? ⟨ad272.block, ad272.off + 5 + 1, none⟩ = some (.slice A274_1 ((rd_T61 l1 1).f1).length c274_1) ∧ w'.cell? ⟨ad272.block, ad272.off + 5 + 2, none⟩ = some (.int .i64 ((rd_T61 l1 1).f2)) ∧ w'.cell? ⟨ad272.block, ad272.off + 5 + 3, none⟩ = some (.int .i64 ((rd_T61 l1 1).f3)) ∧ w'.cell? ⟨ad272.block, ad272.off + 5 + 4, none⟩ = some (.int .i64 ((rd_T61 l1 1).f4))) (ds := []) #[false, false, false, false, false, false, false, false, false, false, false] (by kernel_rfl) rfl rfl ⟨((HB.out.cell (World.block_lt_of_cell? w _ hw272_0)).trans hw272_0), ((HB.out.cell (World.block_lt_of_cell? w _ hw272_1)).trans hw272_1), ((HB.out.cell (World.block_lt_of_cell? w _ hw272_2)).trans hw272_2), ((HB.out.cell (World.block_lt_of_cell? w _ hw272_3)).trans hw272_3), ((HB.out.cell (World.block_lt_of_cell? w _ hw272_4)).trans hw272_4), ((HB.out.cell (World.block_lt_of_cell? w _ hw274_0)).trans hw274_0), ((HB.out.cell (World.block_lt_of_cell? w _ hw274_1)).trans hw274_1), ((HB.out.cell (World.block_lt_of_cell? w _ hw274_2)).trans hw274_2), ((HB.out.cell (World.block_lt_of_cell? w _ hw274_3)).trans hw274_3), ((HB.out.cell (World.block_lt_of_cell? w _ hw274_4)).trans hw274_4)⟩ (fun hHeld => ?_); refine with_tabW ext_Filter.tab5 ext_Filter.bits5 (fun HT_ HW_ => ?_)
         generalize w26.drew = w28 at BK264 HB HR272_1 HR274_1 hx272_0 hx272_1 hx272_2 hx272_3 hx272_4 hx274_0 hx274_1 hx274_2 hx274_3 hx274_4 hHeld ⊢
         refine pur_ (i := 0) (N := some 25) #[true, false, false, false, false, false, false, false, false, false, false] (any_of HT_.out (by kernel_rfl)) ?_
         refine pur_ (i := 1) (N := some 26) #[true, true, false, false, false, false, false, false, false, false, false] (any_of HT_.out (by kernel_rfl)) ?_
         refine pur_ (i := 4) (N := some 29) #[true, true, false, false, true, false, false, false, false, false, false] (any_of HT_.out (by kernel_rfl)) ?_
         refine pur_ (i := 5) (N := some 30) #[true, true, false, false, true, true, false, false, false, false, false] (any_of HT_.out (by kernel_rfl)) ?_
         refine take_ (i := 2) (N := some 27) (v := ?_) (a' := ?_) #[true, true, true, false, true, true, false, false, false, false, false] rfl rfl (take_ofW HT_.out HW_.out (by kernel_rfl)) (fun _ _ _ h => h) (Or.inl ⟨by rfl, ?_⟩) hHeld ?_ ?_
         rotate_left
         ·
          rintro w' ⟨s0, s1, s2, s3, s4, s5, s6, s7, s8, s9⟩
          go_simp
          with_reducible rfl
         rotate_left
         ·
          simp only [Act.put, List.setIfInBounds_toArray, List.set_cons_zero, List.set_cons_succ, i64_w, i32_w]
          rfl
         refine take_ (i := 6) (N := some 31) (v := ?_) (a' := ?_) #[true, true, true, false, true, true, true, false, false, false, false] rfl rfl (take_ofW HT_.out HW_.out (by kernel_rfl)) (fun _ _ _ h => h) (Or.inl ⟨by rfl, ?_⟩) hHeld ?_ ?_
         rotate_left
         ·
          rintro w' ⟨s0, s1, s2, s3, s4, s5, s6, s7, s8, s9⟩
          go_simp
          with_reducible rfl
         rotate_left
         ·
          simp only [Act.put, List.setIfInBounds_toArray, List.set_cons_zero, List.set_cons_succ, i64_w, i32_w]
          rfl
         refine one_ (i := 3) (N := some 28) #[true, true, true, true, true, true, true, false, false, false, false] rfl rfl (one_of HT_.out (by kernel_rfl)) (by decide) (fun K hK => ?_)
         refine goes_ Tryz.func29 (by kernel_rfl) rfl #[.agg #[.int .i64 ((rd_T61 l1 0).f0), .slice A272_1 ((rd_T61 l1 0).f1).length c272_1, .int .i64 ((rd_T61 l1 0).f2), .int .i64 ((rd_T61 l1 0).f3), .int .i64 ((rd_T61 l1 0).f4)]] (by rfl) rfl rfl ar_ ?_
         with_reducible refine (dom_Dom_Size.calls ((rd_T61 l1 0).f0) _ _ ((rd_T61 l1 0).f1) ((rd_T61 l1 0).f2) ((rd_T61 l1 0).f3) ((rd_T61 l1 0).f4) t273 _ ?_ ?_ A16.out).mono ?_
         exact ca_ ((Kd.C_below HR272_1.out HB.out))
         exact HC272_1.out
         rintro e w29 ⟨rfl, hb⟩
         refine ⟨_, rfl, ?_⟩
         replace BK264 := Aside0.mk (blk_below (bk_ BK264.out) hb)
         replace HB := Aside0.mk (below_step bel_ hb)
         clear hb
         refine hK.out _ _ ⟨((HB.out.cell (World.block_lt_of_cell? w _ hw272_0)).trans hw272_0), ((HB.out.cell (World.block_lt_of_cell? w _ hw272_1)).trans hw272_1), ((HB.out.cell (World.block_lt_of_cell? w _ hw272_2)).trans hw272_2), ((HB.out.cell (World.block_lt_of_cell? w _ hw272_3)).trans hw272_3), ((HB.out.cell (World.block_lt_of_cell? w _ hw272_4)).trans hw272_4), ((HB.out.cell (World.block_lt_of_cell? w _ hw274_0)).trans hw274_0), ((HB.out.cell (World.block_lt_of_cell? w _ hw274_1)).trans hw274_1), ((HB.out.cell (World.block_lt_of_cell? w _ hw274_2)).trans hw274_2), ((HB.out.cell (World.block_lt_of_cell? w _ hw274_3)).trans hw274_3), ((HB.out.cell (World.block_lt_of_cell? w _ hw274_4)).trans hw274_4)⟩ (fun hHeld => ?_)
         clear hK K
         refine nor_ (N := some 28) ?_
         refine one_ (i := 7) (N := some 32) #[true, true, true, true, true, true, true, true, false, false, false] rfl rfl (one_of HT_.out (by kernel_rfl)) (by decide) (fun K hK => ?_)
         refine goes_ Tryz.func29 (by kernel_rfl) rfl #[.agg #[.int .i64 ((rd_T61 l1 1).f0), .slice A274_1 ((rd_T61 l1 1).f1).length c274_1, .int .i64 ((rd_T61 l1 1).f2), .int .i64 ((rd_T61 l1 1).f3), .int .i64 ((rd_T61 l1 1).f4)]] (by rfl) rfl rfl ar_ ?_
         with_reducible refine (dom_Dom_Size.calls ((rd_T61 l1 1).f0) _ _ ((rd_T61 l1 1).f1) ((rd_T61 l1 1).f2) ((rd_T61 l1 1).f3) ((rd_T61 l1 1).f4) t275 _ ?_ ?_ A18.out).mono ?_
         exact ca_ ((Kd.C_below HR274_1.out HB.out))
         exact HC274_1.out
         rintro e w30 ⟨rfl, hb⟩
         refine ⟨_, rfl, ?_⟩
         replace BK264 := Aside0.mk (blk_below (bk_ BK264.out) hb)
         replace HB := Aside0.mk (below_step bel_ hb)
         clear hb
         refine hK.out _ _ ⟨((HB.out.cell (World.block_lt_of_cell? w _ hw272_0)).trans hw272_0), ((HB.out.cell (World.block_lt_of_cell? w _ hw272_1)).trans hw272_1), ((HB.out.cell (World.block_lt_of_cell? w _ hw272_2)).trans hw272_2), ((HB.out.cell (World.block_lt_of_cell? w _ hw272_3)).trans hw272_3), ((HB.out.cell (World.block_lt_of_cell? w _ hw272_4)).trans hw272_4), ((HB.out.cell (World.block_lt_of_cell? w _ hw274_0)).trans hw274_0), ((HB.out.cell (World.block_lt_of_cell? w _ hw274_1)).trans hw274_1), ((HB.out.cell (World.block_lt_of_cell? w _ hw274_2)).trans hw274_2), ((HB.out.cell (World.block_lt_of_cell? w _ hw274_3)).trans hw274_3), ((HB.out.cell (World.block_lt_of_cell? w _ hw274_4)).trans hw274_4)⟩ (fun hHeld => ?_)
         clear hK K
         refine nor_ (N := some 32) ?_
         refine pur_ (i := 8) (N := some 33) #[true, true, true, true, true, true, true, true, true, false, false] (any_of HT_.out (by kernel_rfl)) ?_
         refine pur_ (i := 9) (N := some 34) #[true, true, true, true, true, true, true, true, true, true, false] (any_of HT_.out (by kernel_rfl)) ?_
         refine pur_ (i := 10) (N := some 6) #[true, true, true, true, true, true, true, true, true, true, true] (any_of HT_.out (by kernel_rfl)) ?_
         refine done_ (done_of HT_.out (by kernel_rfl)) ?_
         obtain ⟨_, _, _, _, _, _, _, _, _, _, _, _, _, _, _, _⟩ := cel8_ BK264.out
         try go_wp2
         replace BK264 := Aside0.mk (blk_drew BK264.out)
         replace HB := Aside0.mk (below_drew1 HB.out)
         have p276 : 0 ≤ (0 : Int) := (by omega)
         have q276 : 0 < (l1.length : Int) := dq_
         obtain ⟨ad276, A276_1, c276_1, e276, hx276_0, hx276_1, hx276_2, hx276_3, hx276_4, hl276_1, hi276_1⟩ := at_T61 HR1.out 0 p276 q276
         have hw276_4 := hx276_4
         (try rw [show ((0 : Int)).toNat = 0 from rfl] at hw276_4)
         (try rw [show 0 * 5 = 0 from rfl] at hw276_4)
         (try rw [Addr.add_zero'] at hw276_4)
         have hw276_3 := hx276_3
         (try rw [show ((0 : Int)).toNat = 0 from rfl] at hw276_3)
         (try rw [show 0 * 5 = 0 from rfl] at hw276_3)
         (try rw [Addr.add_zero'] at hw276_3)
         have hw276_2 := hx276_2
         (try rw [show ((0 : Int)).toNat = 0 from rfl] at hw276_2)
         (try rw [show 0 * 5 = 0 from rfl] at hw276_2)
         (try rw [Addr.add_zero'] at hw276_2)
         have hw276_1 := hx276_1
         (try rw [show ((0 : Int)).toNat = 0 from rfl] at hw276_1)
         (try rw [show 0 * 5 = 0 from rfl] at hw276_1)
         (try rw [Addr.add_zero'] at hw276_1)
         have hw276_0 := hx276_0
         (try rw [show ((0 : Int)).toNat = 0 from rfl] at hw276_0)
         (try rw [show 0 * 5 = 0 from rfl] at hw276_0)
         (try rw [Addr.add_zero'] at hw276_0)
         obtain rfl : ad272 = ad276 := (by injection e276)
         have qi276 : (0 < l1.length) = True := eq_true (by omega)
         (try rw [show ((0 : Int)).toNat = 0 from rfl] at hx276_0)
         (try rw [show 0 * 5 = 0 from rfl] at hx276_0)
         (try rw [Addr.add_zero'] at hx276_0)
         (try rw [show ((0 : Int)).toNat = 0 from rfl] at hx276_1)
         (try rw [show 0 * 5 = 0 from rfl] at hx276_1)
         (try rw [Addr.add_zero'] at hx276_1)
         (try rw [show ((0 : Int)).toNat = 0 from rfl] at hx276_2)
         (try rw [show 0 * 5 = 0 from rfl] at hx276_2)
         (try rw [Addr.add_zero'] at hx276_2)
         (try rw [show ((0 : Int)).toNat = 0 from rfl] at hx276_3)
         (try rw [show 0 * 5 = 0 from rfl] at hx276_3)
         (try rw [Addr.add_zero'] at hx276_3)
         (try rw [show ((0 : Int)).toNat = 0 from rfl] at hx276_4)
         (try rw [show 0 * 5 = 0 from rfl] at hx276_4)
         (try rw [Addr.add_zero'] at hx276_4)
         replace hx276_0 := (HB.out.cell (World.block_lt_of_cell? w _ hx276_0)).trans hx276_0
         replace hx276_1 := (HB.out.cell (World.block_lt_of_cell? w _ hx276_1)).trans hx276_1
         replace hx276_2 := (HB.out.cell (World.block_lt_of_cell? w _ hx276_2)).trans hx276_2
         replace hx276_3 := (HB.out.cell (World.block_lt_of_cell? w _ hx276_3)).trans hx276_3
         replace hx276_4 := (HB.out.cell (World.block_lt_of_cell? w _ hx276_4)).trans hx276_4
         have HR276_1 := Aside0.mk hi276_1
         have HC276_1 := Aside0.mk hl276_1
         clear hi276_1 hl276_1
         replace p276 := eq_true p276
         replace q276 := eq_true q276
         have p277 : 0 ≤ (1 : Int) := (by omega)
         have q277 : 1 < (l1.length : Int) := dq_
         obtain ⟨ad277, A277_1, c277_1, e277, hx277_0, hx277_1, hx277_2, hx277_3, hx277_4, hl277_1, hi277_1⟩ := at_T61 HR1.out 1 p277 q277
         have hw277_4 := hx277_4
         (try rw [show ((1 : Int)).toNat = 1 from rfl] at hw277_4)
         (try rw [show 1 * 5 = 5 from rfl] at hw277_4)
         (try simp only [Nat.reduceMul, Nat.reduceEqDiff, Go.Addr.add, ↓reduceIte] at hw277_4)
         have hw277_3 := hx277_3
         (try rw [show ((1 : Int)).toNat = 1 from rfl] at hw277_3)
         (try rw [show 1 * 5 = 5 from rfl] at hw277_3)
         (try simp only [Nat.reduceMul, Nat.reduceEqDiff, Go.Addr.add, ↓reduceIte] at hw277_3)
         have hw277_2 := hx277_2
         (try rw [show ((1 : Int)).toNat = 1 from rfl] at hw277_2)
         (try rw [show 1 * 5 = 5 from rfl] at hw277_2)
         (try simp only [Nat.reduceMul, Nat.reduceEqDiff, Go.Addr.add, ↓reduceIte] at hw277_2)
         have hw277_1 := hx277_1
         (try rw [show ((1 : Int)).toNat = 1 from rfl] at hw277_1)
         (try rw [show 1 * 5 = 5 from rfl] at hw277_1)
         (try simp only [Nat.reduceMul, Nat.reduceEqDiff, Go.Addr.add, ↓reduceIte] at hw277_1)
         have hw277_0 := hx277_0
         (try rw [show ((1 : Int)).toNat = 1 from rfl] at hw277_0)
         (try rw [show 1 * 5 = 5 from rfl] at hw277_0)
         (try simp only [Nat.reduceMul, Nat.reduceEqDiff, Go.Addr.add, ↓reduceIte] at hw277_0)
         obtain rfl : ad272 = ad277 := (by injection e277)
         (try simp only [show (1 : Int).toNat = 1 from rfl, Nat.reduceMul, Nat.reduceEqDiff, Go.Addr.add, ↓reduceIte] at hx277_0)
         (try simp only [show (1 : Int).toNat = 1 from rfl, Nat.reduceMul, Nat.reduceEqDiff, Go.Addr.add, ↓reduceIte] at hx277_1)
         (try simp only [show (1 : Int).toNat = 1 from rfl, Nat.reduceMul, Nat.reduceEqDiff, Go.Addr.add, ↓reduceIte] at hx277_2)
         (try simp only [show (1 : Int).toNat = 1 from rfl, Nat.reduceMul, Nat.reduceEqDiff, Go.Addr.add, ↓reduceIte] at hx277_3)
         (try simp only [show (1 : Int).toNat = 1 from rfl, Nat.reduceMul, Nat.reduceEqDiff, Go.Addr.add, ↓reduceIte] at hx277_4)
         have qi277 : (1 < l1.length) = True := eq_true (by omega)
         (try rw [show ((1 : Int)).toNat = 1 from rfl] at hx277_0)
         (try rw [show 1 * 5 = 5 from rfl] at hx277_0)
         (try rw [show ((1 : Int)).toNat = 1 from rfl] at hx277_1)
         (try rw [show 1 * 5 = 5 from rfl] at hx277_1)
         (try rw [show ((1 : Int)).toNat = 1 from rfl] at hx277_2)
         (try rw [show 1 * 5 = 5 from rfl] at hx277_2)
         (try rw [show ((1 : Int)).toNat = 1 from rfl] at hx277_3)
         (try rw [show 1 * 5 = 5 from rfl] at hx277_3)
         (try rw [show ((1 : Int)).toNat = 1 from rfl] at hx277_4)
         (try rw [show 1 * 5 = 5 from rfl] at hx277_4)
         replace hx277_0 := (HB.out.cell (World.block_lt_of_cell? w _ hx277_0)).trans hx277_0
         replace hx277_1 := (HB.out.cell (World.block_lt_of_cell? w _ hx277_1)).trans hx277_1
         replace hx277_2 := (HB.out.cell (World.block_lt_of_cell? w _ hx277_2)).trans hx277_2
         replace hx277_3 := (HB.out.cell (World.block_lt_of_cell? w _ hx277_3)).trans hx277_3
         replace hx277_4 := (HB.out.cell (World.block_lt_of_cell? w _ hx277_4)).trans hx277_4
         have HR277_1 := Aside0.mk hi277_1
         have HC277_1 := Aside0.mk hl277_1
         clear hi277_1 hl277_1
         replace p277 := eq_true p277
         replace q277 := eq_true q277
         have p278 : 0 ≤ (2 : Int) := (by omega)
         have q278 : 2 < (l1.length : Int) := dq_
         obtain ⟨ad278, A278_1, c278_1, e278, hx278_0, hx278_1, hx278_2, hx278_3, hx278_4, hl278_1, hi278_1⟩ := at_T61 HR1.out 2 p278 q278
         have hw278_4 := hx278_4
         (try rw [show ((2 : Int)).toNat = 2 from rfl] at hw278_4)
         (try rw [show 2 * 5 = 10 from rfl] at hw278_4)
         (try simp only [Nat.reduceMul, Nat.reduceEqDiff, Go.Addr.add, ↓reduceIte] at hw278_4)
         have hw278_3 := hx278_3
         (try rw [show ((2 : Int)).toNat = 2 from rfl] at hw278_3)
         (try rw [show 2 * 5 = 10 from rfl] at hw278_3)
         (try simp only [Nat.reduceMul, Nat.reduceEqDiff, Go.Addr.add, ↓reduceIte] at hw278_3)
         have hw278_2 := hx278_2
         (try rw [show ((2 : Int)).toNat = 2 from rfl] at hw278_2)
         (try rw [show 2 * 5 = 10 from rfl] at hw278_2)
         (try simp only [Nat.reduceMul, Nat.reduceEqDiff, Go.Addr.add, ↓reduceIte] at hw278_2)
         have hw278_1 := hx278_1
         (try rw [show ((2 : Int)).toNat = 2 from rfl] at hw278_1)
         (try rw [show 2 * 5 = 10 from rfl] at hw278_1)
         (try simp only [Nat.reduceMul, Nat.reduceEqDiff, Go.Addr.add, ↓reduceIte] at hw278_1)
         have hw278_0 := hx278_0
         (try rw [show ((2 : Int)).toNat = 2 from rfl] at hw278_0)
         (try rw [show 2 * 5 = 10 from rfl] at hw278_0)
         (try simp only [Nat.reduceMul, Nat.reduceEqDiff, Go.Addr.add, ↓reduceIte] at hw278_0)
         obtain rfl : ad272 = ad278 := (by injection e278)
         (try simp only [show (2 : Int).toNat = 2 from rfl, Nat.reduceMul, Nat.reduceEqDiff, Go.Addr.add, ↓reduceIte] at hx278_0)
         (try simp only [show (2 : Int).toNat = 2 from rfl, Nat.reduceMul, Nat.reduceEqDiff, Go.Addr.add, ↓reduceIte] at hx278_1)
         (try simp only [show (2 : Int).toNat = 2 from rfl, Nat.reduceMul, Nat.reduceEqDiff, Go.Addr.add, ↓reduceIte] at hx278_2)
         (try simp only [show (2 : Int).toNat = 2 from rfl, Nat.reduceMul, Nat.reduceEqDiff, Go.Addr.add, ↓reduceIte] at hx278_3)
         (try simp only [show (2 : Int).toNat = 2 from rfl, Nat.reduceMul, Nat.reduceEqDiff, Go.Addr.add, ↓reduceIte] at hx278_4)
         have qi278 : (2 < l1.length) = True := eq_true (by omega)
         (try rw [show ((2 : Int)).toNat = 2 from rfl] at hx278_0)
         (try rw [show 2 * 5 = 10 from rfl] at hx278_0)
         (try rw [show ((2 : Int)).toNat = 2 from rfl] at hx278_1)
         (try rw [show 2 * 5 = 10 from rfl] at hx278_1)
         (try rw [show ((2 : Int)).toNat = 2 from rfl] at hx278_2)
         (try rw [show 2 * 5 = 10 from rfl] at hx278_2)
         (try rw [show ((2 : Int)).toNat = 2 from rfl] at hx278_3)
         (try rw [show 2 * 5 = 10 from rfl] at hx278_3)
         (try rw [show ((2 : Int)).toNat = 2 from rfl] at hx278_4)
         (try rw [show 2 * 5 = 10 from rfl] at hx278_4)
         replace hx278_0 := (HB.out.cell (World.block_lt_of_cell? w _ hx278_0)).trans hx278_0
         replace hx278_1 := (HB.out.cell (World.block_lt_of_cell? w _ hx278_1)).trans hx278_1
         replace hx278_2 := (HB.out.cell (World.block_lt_of_cell? w _ hx278_2)).trans hx278_2
         replace hx278_3 := (HB.out.cell (World.block_lt_of_cell? w _ hx278_3)).trans hx278_3
         replace hx278_4 := (HB.out.cell (World.block_lt_of_cell? w _ hx278_4)).trans hx278_4
         have HR278_1 := Aside0.mk hi278_1
         have HC278_1 := Aside0.mk hl278_1
         clear hi278_1 hl278_1
         replace p278 := eq_true p278
         replace q278 := eq_true q278
         refine start_ (n := 15) (S := fun w' => w'.cell? ad272 = some (.int .i64 ((rd_T61 l1 0).f0)) ∧ w'.cell? ⟨ad272.block, ad272.off + 1, none⟩ = some (.slice A276_1 ((rd_T61 l1 0).f1).length c276_1) ∧ w'.cell? ⟨ad272.block, ad272.off + 2, none⟩ = some (.int .i64 ((rd_T61 l1 0).f2)) ∧ w'.cell? ⟨ad272.block, ad272.off + 3, none⟩ = some (.int .i64 ((rd_T61 l1 0).f3)) ∧ w'.cell? ⟨ad272.block, ad272.off + 4, none⟩ = some (.int .i64 ((rd_T61 l1 0).f4)) ∧ w'.cell? ⟨ad272.block, ad272.off + 5, none⟩ = some (.int .i64 ((rd_T61 l1 1).f0)) ∧ w'.cell? ⟨ad272.block, ad272.off + 5 + 1, none⟩ = some (.slice A277_1 ((rd_T61 l1 1).f1).length c277_1) ∧ w'.cell? ⟨ad272.block, ad272.off + 5 + 2, none⟩ = some (.int .i64 ((rd_T61 l1 1).f2)) ∧ w'.cell? ⟨ad272.block, ad272.off + 5 + 3, none⟩ = some (.int .i64 ((rd_T61 l1 1).f3)) ∧ w'.cell? ⟨ad272.block, ad272.off + 5 + 4, none⟩ = some (.int .i64 ((rd_T61 l1 1).f4)) ∧ w'.cell? ⟨ad272.block, ad272.off + 10, none⟩ = some (.int .i64 ((rd_T61 l1 2).f0)) ∧ w'.cell? ⟨ad272.block, ad272.off + 10 + 1, none⟩ = some (.slice A278_1 ((rd_T61 l1 2).f1).length c278_1) ∧ w'.cell? ⟨ad272.block, ad272.off + 10 + 2, none⟩ = some (.int .i64 ((rd_T61 l1 2).f2)) ∧ w'.cell? ⟨ad272.block, ad272.off + 10 + 3, none⟩ = some (.int .i64 ((rd_T61 l1 2).f3)) ∧ w'.cell? ⟨ad272.block, ad272.off + 10 + 4, none⟩ = some (.int .i64 ((rd_T61 l1 2).f4))) (ds := []) #[false, false, false, false, false, false, false, false, false, false, false, false, false, false, false] (by kernel_rfl) rfl rfl ⟨((HB.out.cell (World.block_lt_of_cell? w _ hw276_0)).trans hw276_0), ((HB.out.cell (World.block_lt_of_cell? w _ hw276_1)).trans hw276_1), ((HB.out.cell (World.block_lt_of_cell? w _ hw276_2)).trans hw276_2), ((HB.out.cell (World.block_lt_of_cell? w _ hw276_3)).trans hw276_3), ((HB.out.cell (World.block_lt_of_cell? w _ hw276_4)).trans hw276_4), ((HB.out.cell (World.block_lt_of_cell? w _ hw277_0)).trans hw277_0), ((HB.out.cell (World.block_lt_of_cell? w _ hw277_1)).trans hw277_1), ((HB.out.cell (World.block_lt_of_cell? w _ hw277_2)).trans hw277_2), ((HB.out.cell (World.block_lt_of_cell? w _ hw277_3)).trans hw277_3), ((HB.out.cell (World.block_lt_of_cell? w _ hw277_4)).trans hw277_4), ((HB.out.cell (World.block_lt_of_cell? w _ hw278_0)).trans hw278_0), ((HB.out.cell (World.block_lt_of_cell? w _ hw278_1)).trans hw278_1), ((HB.out.cell (World.block_lt_of_cell? w _ hw278_2)).trans hw278_2), ((HB.out.cell (World.block_lt_of_cell? w _ hw278_3)).trans hw278_3), ((HB.out.cell (World.block_lt_of_cell? w _ hw278_4)).trans hw278_4)⟩ (fun hHeld => ?_); refine with_tabW ext_Filter.tab14 ext_Filter.bits14 (fun HT_ HW_ => ?_)
         generalize w30.drew = w32 at BK264 HB HR276_1 HR277_1 HR278_1 hx276_0 hx276_1 hx276_2 hx276_3 hx276_4 hx277_0 hx277_1 hx277_2 hx277_3 hx277_4 hx278_0 hx278_1 hx278_2 hx278_3 hx278_4 hHeld ⊢
         refine pur_ (i := 0) (N := some 88) #[true, false, false, false, false, false, false, false, false, false, false, false, false, false, false] (any_of HT_.out (by kernel_rfl)) ?_
         refine pur_ (i := 1) (N := some 89) #[true, true, false, false, false, false, false, false, false, false, false, false, false, false, false] (any_of HT_.out (by kernel_rfl)) ?_
         refine pur_ (i := 3) (N := some 91) #[true, true, false, true, false, false, false, false, false, false, false, false, false, false, false] (any_of HT_.out (by kernel_rfl)) ?_
         refine pur_ (i := 4) (N := some 92) #[true, true, false, true, true, false, false, false, false, false, false, false, false, false, false] (any_of HT_.out (by kernel_rfl)) ?_
         refine pur_ (i := 6) (N := some 94) #[true, true, false, true, true, false, true, false, false, false, false, false, false, false, false] (any_of HT_.out (by kernel_rfl)) ?_
         refine pur_ (i := 7) (N := some 95) #[true, true, false, true, true, false, true, true, false, false, false, false, false, false, false] (any_of HT_.out (by kernel_rfl)) ?_
         refine take_ (i := 2) (N := some 90) (v := ?_) (a' := ?_) #[true, true, true, true, true, false, true, true, false, false, false, false, false, false, false] rfl rfl (take_ofW HT_.out HW_.out (by kernel_rfl)) (fun _ _ _ h => h) (Or.inl ⟨by rfl, ?_⟩) hHeld ?_ ?_
         rotate_left
         ·
          rintro w' ⟨s0, s1, s2, s3, s4, s5, s6, s7, s8, s9, s10, s11, s12, s13, s14⟩
          go_simp
          with_reducible rfl
         rotate_left
         ·
          simp only [Act.put, List.setIfInBounds_toArray, List.set_cons_zero, List.set_cons_succ, i64_w, i32_w]
          rfl
         refine take_ (i := 5) (N := some 93) (v := ?_) (a' := ?_) #[true, true, true, true, true, true, true, true, false, false, false, false, false, false, false] rfl rfl (take_ofW HT_.out HW_.out (by kernel_rfl)) (fun _ _ _ h => h) (Or.inl ⟨by rfl, ?_⟩) hHeld ?_ ?_
         rotate_left
         ·
          rintro w' ⟨s0, s1, s2, s3, s4, s5, s6, s7, s8, s9, s10, s11, s12, s13, s14⟩
          go_simp
          with_reducible rfl
         rotate_left
         ·
          simp only [Act.put, List.setIfInBounds_toArray, List.set_cons_zero, List.set_cons_succ, i64_w, i32_w]
          rfl
         refine take_ (i := 8) (N := some 96) (v := ?_) (a' := ?_) #[true, true, true, true, true, true, true, true, true, false, false, false, false, false, false] rfl rfl (take_ofW HT_.out HW_.out (by kernel_rfl)) (fun _ _ _ h => h) (Or.inl ⟨by rfl, ?_⟩) hHeld ?_ ?_
         rotate_left
         ·
          rintro w' ⟨s0, s1, s2, s3, s4, s5, s6, s7, s8, s9, s10, s11, s12, s13, s14⟩
          go_simp
          with_reducible rfl
         rotate_left
         ·
          simp only [Act.put, List.setIfInBounds_toArray, List.set_cons_zero, List.set_cons_succ, i64_w, i32_w]
          rfl
         refine one_ (i := 9) (N := some 97) #[true, true, true, true, true, true, true, true, true, true, false, false, false, false, false] rfl rfl (one_of HT_.out (by kernel_rfl)) (by decide) (fun K hK => ?_)
         refine goes_ Tryz.func32 (by kernel_rfl) rfl #[.agg #[.int .i64 ((rd_T61 l1 0).f0), .slice A276_1 ((rd_T61 l1 0).f1).length c276_1, .int .i64 ((rd_T61 l1 0).f2), .int .i64 ((rd_T61 l1 0).f3), .int .i64 ((rd_T61 l1 0).f4)], .agg #[.int .i64 ((rd_T61 l1 1).f0), .slice A277_1 ((rd_T61 l1 1).f1).length c277_1, .int .i64 ((rd_T61 l1 1).f2), .int .i64 ((rd_T61 l1 1).f3), .int .i64 ((rd_T61 l1 1).f4)], .agg #[.int .i64 ((rd_T61 l1 2).f0), .slice A278_1 ((rd_T61 l1 2).f1).length c278_1, .int .i64 ((rd_T61 l1 2).f2), .int .i64 ((rd_T61 l1 2).f3), .int .i64 ((rd_T61 l1 2).f4)], .func (.func 33) #[] #[]] (by rfl) rfl rfl ar_ ?_
         with_reducible refine (prop_Pairs_at_ext_Filter_1.calls k ((rd_T61 l1 0).f0) _ _ ((rd_T61 l1 0).f1) ((rd_T61 l1 0).f2) ((rd_T61 l1 0).f3) ((rd_T61 l1 0).f4) ((rd_T61 l1 1).f0) _ _ ((rd_T61 l1 1).f1) ((rd_T61 l1 1).f2) ((rd_T61 l1 1).f3) ((rd_T61 l1 1).f4) ((rd_T61 l1 2).f0) _ _ ((rd_T61 l1 2).f1) ((rd_T61 l1 2).f2) ((rd_T61 l1 2).f3) ((rd_T61 l1 2).f4) t279 true _ ?_ ?_ ?_ ?_ ?_ ?_ ?_ A22.out).mono ?_
         exact ca_ ((Kd.C_below HR276_1.out HB.out))
         exact HC276_1.out
         exact ca_ ((Kd.C_below HR277_1.out HB.out))
         exact HC277_1.out
         exact ca_ ((Kd.C_below HR278_1.out HB.out))
         exact HC278_1.out
         exact ca_ ((Kd.C_below HRtab.out HB.out))
         rintro e w33 ⟨v280, rfl, ho0, hb⟩
         refine ⟨_, rfl, ?_⟩
         have HO281 := Aside0.mk (Kd.N_lower (Kd.N_mono (ok' := fun k_ => (w.heap.size ≤ k_) ∧ k_ ≠ gb264) ho0 (fun k_ hk_ => ⟨(Nat.le_trans (below_size bel_) hk_), (Kd.freshB (bk_ BK264.out) k_ hk_)⟩)) (below_size bel_))
         replace BK264 := Aside0.mk (blk_below (bk_ BK264.out) hb)
         replace HB := Aside0.mk (below_step bel_ hb)
         clear hb ho0
         refine hK.out _ _ ⟨((HB.out.cell (World.block_lt_of_cell? w _ hw276_0)).trans hw276_0), ((HB.out.cell (World.block_lt_of_cell? w _ hw276_1)).trans hw276_1), ((HB.out.cell (World.block_lt_of_cell? w _ hw276_2)).trans hw276_2), ((HB.out.cell (World.block_lt_of_cell? w _ hw276_3)).trans hw276_3), ((HB.out.cell (World.block_lt_of_cell? w _ hw276_4)).trans hw276_4), ((HB.out.cell (World.block_lt_of_cell? w _ hw277_0)).trans hw277_0), ((HB.out.cell (World.block_lt_of_cell? w _ hw277_1)).trans hw277_1), ((HB.out.cell (World.block_lt_of_cell? w _ hw277_2)).trans hw277_2), ((HB.out.cell (World.block_lt_of_cell? w _ hw277_3)).trans hw277_3), ((HB.out.cell (World.block_lt_of_cell? w _ hw277_4)).trans hw277_4), ((HB.out.cell (World.block_lt_of_cell? w _ hw278_0)).trans hw278_0), ((HB.out.cell (World.block_lt_of_cell? w _ hw278_1)).trans hw278_1), ((HB.out.cell (World.block_lt_of_cell? w _ hw278_2)).trans hw278_2), ((HB.out.cell (World.block_lt_of_cell? w _ hw278_3)).trans hw278_3), ((HB.out.cell (World.block_lt_of_cell? w _ hw278_4)).trans hw278_4)⟩ (fun hHeld => ?_)
         clear hK K
         refine nor_ (N := some 97) ?_
         refine pur_ (i := 10) (N := some 87) #[true, true, true, true, true, true, true, true, true, true, true, false, false, false, false] (any_of HT_.out (by kernel_rfl)) ?_
         refine pur_ (i := 11) (N := some 98) #[true, true, true, true, true, true, true, true, true, true, true, true, false, false, false] (any_of HT_.out (by kernel_rfl)) ?_
         refine pur_ (i := 12) (N := some 99) #[true, true, true, true, true, true, true, true, true, true, true, true, true, false, false] (any_of HT_.out (by kernel_rfl)) ?_
         refine pur_ (i := 13) (N := some 7) #[true, true, true, true, true, true, true, true, true, true, true, true, true, true, false] (any_of HT_.out (by kernel_rfl)) ?_
         refine pur_ (i := 14) (N := some 8) #[true, true, true, true, true, true, true, true, true, true, true, true, true, true, true] (any_of HT_.out (by kernel_rfl)) ?_
         refine done_ (done_of HT_.out (by kernel_rfl)) ?_
         try go_wp2
         go_ret2
         exact ⟨_, by first | rfl | (simp [errW_none, errW_some] <;> rfl) | (simp [*, errW_none, errW_some] <;> rfl), by refine vN_ ?_; exact Kd.N_mono HO281.out (fun _ hk => hk.1), bel_⟩
        ·
         replace c23 := Bool.eq_false_iff.mpr c23
         subst c23
         have H1 : (some (([] : List (S61)), false)) = some (r1, r2) := by rw [if_neg (show ¬ (false = true) by decide)] at H; exact H
         clear H
         have H := H1
         clear H1
         simp only [Option.some.injEq, Prod.mk.injEq] at H
         obtain ⟨rfl, rfl⟩ := H
         go_enter Tryz.func10, Tryz.ntmps10
         try go_wp2_with (first | ((with_reducible refine gate_dst (N := 2) rfl ?_); refine bxe_ (N := 2) (cs := #[.int .i64 a0_0, .slice A0_1 l0_1.length c0_1, .slice A0_2 l0_2.length c0_2, .slice A0_3 l0_3.length c0_3, .slice A0_4 l0_4.length c0_4, .slice A0_5 l0_5.length c0_5, .int .i64 a0_6, .slice A0_7 l0_7.length c0_7]) (t := 32) ?_; intro gb264 hg w34 hbox hb; have BK264 := Aside0.mk (hbox); have GW264 := Aside0.mk (by rw [hg]; exact (below_size bel_) : w.heap.size ≤ gb264); have GE264 := GW264; replace HB := Aside0.mk (below_step bel_ hb); clear hb hbox hg; obtain ⟨_, _, _, _, _, _, _, _, _, _, _, _, _, _, _, _⟩ := cel8_ BK264.out) | ((with_reducible refine gate_callee (f := 27) rfl ?_); refine goesL_ (some 11) rfl rfl Tryz.func27 (by kernel_rfl) rfl #[.agg #[.int .i64 a0_0, .slice A0_1 l0_1.length c0_1, .slice A0_2 l0_2.length c0_2, .slice A0_3 l0_3.length c0_3, .slice A0_4 l0_4.length c0_4, .slice A0_5 l0_5.length c0_5, .int .i64 a0_6, .slice A0_7 l0_7.length c0_7], .slice A1 l1.length c1, .int .i64 8, .int .i64 10] rfl ar_ ?_; (with_reducible refine (prop_Fits.calls k a0_0 _ _ l0_1 _ _ l0_2 _ _ l0_3 _ _ l0_4 _ _ l0_5 a0_6 _ _ l0_7 _ _ l1 8 10 true _ ?_ ?_ ?_ ?_ ?_ ?_ ?_ ?_ ?_ ?_ ?_ ?_ ?_ ?_ A3.out).mono ?_); exact ca_ ((Kd.C_below HR0_1.out HB.out)); exact HC0_1.out; exact ca_ ((Kd.C_below HR0_2.out HB.out)); exact HC0_2.out; exact ca_ ((Kd.C_below HR0_3.out HB.out)); exact HC0_3.out; exact ca_ ((Kd.C_below HR0_4.out HB.out)); exact HC0_4.out; exact ca_ ((Kd.C_below HR0_5.out HB.out)); exact HC0_5.out; exact ca_ ((Kd.C_below HR0_7.out HB.out)); exact HC0_7.out; exact ca_ ((Kd.C_below HR1.out HB.out)); exact HC1.out; rintro e w36 ⟨rfl, hb⟩; refine ⟨_, rfl, ?_⟩; replace BK264 := Aside0.mk (blk_below (bk_ BK264.out) hb); replace HB := Aside0.mk (below_step bel_ hb); clear hb; obtain ⟨_, _, _, _, _, _, _, _, _, _, _, _, _, _, _, _⟩ := cel8_ BK264.out))
         replace BK264 := Aside0.mk (blk_drew BK264.out)
         replace HB := Aside0.mk (below_drew1 HB.out)
         have p272 : 0 ≤ (0 : Int) := (by omega)
         have q272 : 0 < (l1.length : Int) := dq_
         obtain ⟨ad272, A272_1, c272_1, e272, hx272_0, hx272_1, hx272_2, hx272_3, hx272_4, hl272_1, hi272_1⟩ := at_T61 HR1.out 0 p272 q272
         have hw272_4 := hx272_4
         (try rw [show ((0 : Int)).toNat = 0 from rfl] at hw272_4)
         (try rw [show 0 * 5 = 0 from rfl] at hw272_4)
         (try rw [Addr.add_zero'] at hw272_4)
         have hw272_3 := hx272_3
         (try rw [show ((0 : Int)).toNat = 0 from rfl] at hw272_3)
         (try rw [show 0 * 5 = 0 from rfl] at hw272_3)
         (try rw [Addr.add_zero'] at hw272_3)
         have hw272_2 := hx272_2
         (try rw [show ((0 : Int)).toNat = 0 from rfl] at hw272_2)
         (try rw [show 0 * 5 = 0 from rfl] at hw272_2)
         (try rw [Addr.add_zero'] at hw272_2)
         have hw272_1 := hx272_1
         (try rw [show ((0 : Int)).toNat = 0 from rfl] at hw272_1)
         (try rw [show 0 * 5 = 0 from rfl] at hw272_1)
         (try rw [Addr.add_zero'] at hw272_1)
         have hw272_0 := hx272_0
         (try rw [show ((0 : Int)).toNat = 0 from rfl] at hw272_0)
         (try rw [show 0 * 5 = 0 from rfl] at hw272_0)
         (try rw [Addr.add_zero'] at hw272_0)
         cases e272
         have qi272 : (0 < l1.length) = True := eq_true (by omega)
         (try rw [show ((0 : Int)).toNat = 0 from rfl] at hx272_0)
         (try rw [show 0 * 5 = 0 from rfl] at hx272_0)
         (try rw [Addr.add_zero'] at hx272_0)
         (try rw [show ((0 : Int)).toNat = 0 from rfl] at hx272_1)
         (try rw [show 0 * 5 = 0 from rfl] at hx272_1)
         (try rw [Addr.add_zero'] at hx272_1)
         (try rw [show ((0 : Int)).toNat = 0 from rfl] at hx272_2)
         (try rw [show 0 * 5 = 0 from rfl] at hx272_2)
         (try rw [Addr.add_zero'] at hx272_2)
         (try rw [show ((0 : Int)).toNat = 0 from rfl] at hx272_3)
         (try rw [show 0 * 5 = 0 from rfl] at hx272_3)
         (try rw [Addr.add_zero'] at hx272_3)
         (try rw [show ((0 : Int)).toNat = 0 from rfl] at hx272_4)
         (try rw [show 0 * 5 = 0 from rfl] at hx272_4)
         (try rw [Addr.add_zero'] at hx272_4)
         replace hx272_0 := (HB.out.cell (World.block_lt_of_cell? w _ hx272_0)).trans hx272_0
         replace hx272_1 := (HB.out.cell (World.block_lt_of_cell? w _ hx272_1)).trans hx272_1
         replace hx272_2 := (HB.out.cell (World.block_lt_of_cell? w _ hx272_2)).trans hx272_2
         replace hx272_3 := (HB.out.cell (World.block_lt_of_cell? w _ hx272_3)).trans hx272_3
         replace hx272_4 := (HB.out.cell (World.block_lt_of_cell? w _ hx272_4)).trans hx272_4
         have HR272_1 := Aside0.mk hi272_1
         have HC272_1 := Aside0.mk hl272_1
         clear hi272_1 hl272_1
         replace p272 := eq_true p272
         replace q272 := eq_true q272
         have p274 : 0 ≤ (1 : Int) := (by omega)
         have q274 : 1 < (l1.length : Int) := dq_
         obtain ⟨ad274, A274_1, c274_1, e274, hx274_0, hx274_1, hx274_2, hx274_3, hx274_4, hl274_1, hi274_1⟩ := at_T61 HR1.out 1 p274 q274
         have hw274_4 := hx274_4
         (try rw [show ((1 : Int)).toNat = 1 from rfl] at hw274_4)
         (try rw [show 1 * 5 = 5 from rfl] at hw274_4)
         (try simp only [Nat.reduceMul, Nat.reduceEqDiff, Go.Addr.add, ↓reduceIte] at hw274_4)
         have hw274_3 := hx274_3
         (try rw [show ((1 : Int)).toNat = 1 from rfl] at hw274_3)
         (try rw [show 1 * 5 = 5 from rfl] at hw274_3)
         (try simp only [Nat.reduceMul, Nat.reduceEqDiff, Go.Addr.add, ↓reduceIte] at hw274_3)
         have hw274_2 := hx274_2
         (try rw [show ((1 : Int)).toNat = 1 from rfl] at hw274_2)
         (try rw [show 1 * 5 = 5 from rfl] at hw274_2)
         (try simp only [Nat.reduceMul, Nat.reduceEqDiff, Go.Addr.add, ↓reduceIte] at hw274_2)
         have hw274_1 := hx274_1
         (try rw [show ((1 : Int)).toNat = 1 from rfl] at hw274_1)
         (try rw [show 1 * 5 = 5 from rfl] at hw274_1)
         (try simp only [Nat.reduceMul, Nat.reduceEqDiff, Go.Addr.add, ↓reduceIte] at hw274_1)
         have hw274_0 := hx274_0
         (try rw [show ((1 : Int)).toNat = 1 from rfl] at hw274_0)
         (try rw [show 1 * 5 = 5 from rfl] at hw274_0)
         (try simp only [Nat.reduceMul, Nat.reduceEqDiff, Go.Addr.add, ↓reduceIte] at hw274_0)
         obtain rfl : ad272 = ad274 := (by injection e274)
         (try simp only [show (1 : Int).toNat = 1 from rfl, Nat.reduceMul, Nat.reduceEqDiff, Go.Addr.add, ↓reduceIte] at hx274_0)
         (try simp only [show (1 : Int).toNat = 1 from rfl, Nat.reduceMul, Nat.reduceEqDiff, Go.Addr.add, ↓reduceIte] at hx274_1)
         (try simp only [show (1 : Int).toNat = 1 from rfl, Nat.reduceMul, Nat.reduceEqDiff, Go.Addr.add, ↓reduceIte] at hx274_2)
         (try simp only [show (1 : Int).toNat = 1 from rfl, Nat.reduceMul, Nat.reduceEqDiff, Go.Addr.add, ↓reduceIte] at hx274_3)
         (try simp only [show (1 : Int).toNat = 1 from rfl, Nat.reduceMul, Nat.reduceEqDiff, Go.Addr.add, ↓reduceIte] at hx274_4)
         have qi274 : (1 < l1.length) = True := eq_true (by omega)
         (try rw [show ((1 : Int)).toNat = 1 from rfl] at hx274_0)
         (try rw [show 1 * 5 = 5 from rfl] at hx274_0)
         (try rw [show ((1 : Int)).toNat = 1 from rfl] at hx274_1)
         (try rw [show 1 * 5 = 5 from rfl] at hx274_1)
         (try rw [show ((1 : Int)).toNat = 1 from rfl] at hx274_2)
         (try rw [show 1 * 5 = 5 from rfl] at hx274_2)
         (try rw [show ((1 : Int)).toNat = 1 from rfl] at hx274_3)
         (try rw [show 1 * 5 = 5 from rfl] at hx274_3)
         (try rw [show ((1 : Int)).toNat = 1 from rfl] at hx274_4)
         (try rw [show 1 * 5 = 5 from rfl] at hx274_4)
         replace hx274_0 := (HB.out.cell (World.block_lt_of_cell? w _ hx274_0)).trans hx274_0
         replace hx274_1 := (HB.out.cell (World.block_lt_of_cell? w _ hx274_1)).trans hx274_1
         replace hx274_2 := (HB.out.cell (World.block_lt_of_cell? w _ hx274_2)).trans hx274_2
         replace hx274_3 := (HB.out.cell (World.block_lt_of_cell? w _ hx274_3)).trans hx274_3
         replace hx274_4 := (HB.out.cell (World.block_lt_of_cell? w _ hx274_4)).trans hx274_4
         have HR274_1 := Aside0.mk hi274_1
         have HC274_1 := Aside0.mk hl274_1
         clear hi274_1 hl274_1
         replace p274 := eq_true p274
         replace q274 := eq_true q274
         refine start_ (n := 11) (S := fun w' => w'.cell? ad272 = some (.int .i64 ((rd_T61 l1 0).f0)) ∧ w'.cell? ⟨ad272.block, ad272.off + 1, none⟩ = some (.slice A272_1 ((rd_T61 l1 0).f1).length c272_1) ∧ w'.cell? ⟨ad272.block, ad272.off + 2, none⟩ = some (.int .i64 ((rd_T61 l1 0).f2)) ∧ w'.cell? ⟨ad272.block, ad272.off + 3, none⟩ = some (.int .i64 ((rd_T61 l1 0).f3)) ∧ w'.cell? ⟨ad272.block, ad272.off + 4, none⟩ = some (.int .i64 ((rd_T61 l1 0).f4)) ∧ w'.cell? ⟨ad272.block, ad272.off + 5, none⟩ = some (.int .i64 ((rd_T61 l1 1).f0)) ∧ w'.cell? ⟨ad272.block, ad272.off + 5 + 1, none⟩ = some (.slice A274_1 ((rd_T61 l1 1).f1).length c274_1) ∧ w'.cell? ⟨ad272.block, ad272.off + 5 + 2, none⟩ = some (.int .i64 ((rd_T61 l1 1).f2)) ∧ w'.cell? ⟨ad272.block, ad272.off + 5 + 3, none⟩ = some (.int .i64 ((rd_T61 l1 1).f3)) ∧ w'.cell? ⟨ad272.block, ad272.off + 5 + 4, none⟩ = some (.int .i64 ((rd_T61 l1 1).f4))) (ds := []) #[false, false, false, false, false, false, false, false, false, false, false] (by kernel_rfl) rfl rfl ⟨((HB.out.cell (World.block_lt_of_cell? w _ hw272_0)).trans hw272_0), ((HB.out.cell (World.block_lt_of_cell? w _ hw272_1)).trans hw272_1), ((HB.out.cell (World.block_lt_of_cell? w _ hw272_2)).trans hw272_2), ((HB.out.cell (World.block_lt_of_cell? w _ hw272_3)).trans hw272_3), ((HB.out.cell (World.block_lt_of_cell? w _ hw272_4)).trans hw272_4), ((HB.out.cell (World.block_lt_of_cell? w _ hw274_0)).trans hw274_0), ((HB.out.cell (World.block_lt_of_cell? w _ hw274_1)).trans hw274_1), ((HB.out.cell (World.block_lt_of_cell? w _ hw274_2)).trans hw274_2), ((HB.out.cell (World.block_lt_of_cell? w _ hw274_3)).trans hw274_3), ((HB.out.cell (World.block_lt_of_cell? w _ hw274_4)).trans hw274_4)⟩ (fun hHeld => ?_); refine with_tabW ext_Filter.tab5 ext_Filter.bits5 (fun HT_ HW_ => ?_)
         generalize w36.drew = w38 at BK264 HB HR272_1 HR274_1 hx272_0 hx272_1 hx272_2 hx272_3 hx272_4 hx274_0 hx274_1 hx274_2 hx274_3 hx274_4 hHeld ⊢
         refine pur_ (i := 0) (N := some 25) #[true, false, false, false, false, false, false, false, false, false, false] (any_of HT_.out (by kernel_rfl)) ?_
         refine pur_ (i := 1) (N := some 26) #[true, true, false, false, false, false, false, false, false, false, false] (any_of HT_.out (by kernel_rfl)) ?_
         refine pur_ (i := 4) (N := some 29) #[true, true, false, false, true, false, false, false, false, false, false] (any_of HT_.out (by kernel_rfl)) ?_
         refine pur_ (i := 5) (N := some 30) #[true, true, false, false, true, true, false, false, false, false, false] (any_of HT_.out (by kernel_rfl)) ?_
         refine take_ (i := 2) (N := some 27) (v := ?_) (a' := ?_) #[true, true, true, false, true, true, false, false, false, false, false] rfl rfl (take_ofW HT_.out HW_.out (by kernel_rfl)) (fun _ _ _ h => h) (Or.inl ⟨by rfl, ?_⟩) hHeld ?_ ?_
         rotate_left
         ·
          rintro w' ⟨s0, s1, s2, s3, s4, s5, s6, s7, s8, s9⟩
          go_simp
          with_reducible rfl
         rotate_left
         ·
          simp only [Act.put, List.setIfInBounds_toArray, List.set_cons_zero, List.set_cons_succ, i64_w, i32_w]
          rfl
         refine take_ (i := 6) (N := some 31) (v := ?_) (a' := ?_) #[true, true, true, false, true, true, true, false, false, false, false] rfl rfl (take_ofW HT_.out HW_.out (by kernel_rfl)) (fun _ _ _ h => h) (Or.inl ⟨by rfl, ?_⟩) hHeld ?_ ?_
         rotate_left
         ·
          rintro w' ⟨s0, s1, s2, s3, s4, s5, s6, s7, s8, s9⟩
          go_simp
          with_reducible rfl
         rotate_left
         ·
          simp only [Act.put, List.setIfInBounds_toArray, List.set_cons_zero, List.set_cons_succ, i64_w, i32_w]
          rfl
         refine one_ (i := 3) (N := some 28) #[true, true, true, true, true, true, true, false, false, false, false] rfl rfl (one_of HT_.out (by kernel_rfl)) (by decide) (fun K hK => ?_)
         refine goes_ Tryz.func29 (by kernel_rfl) rfl #[.agg #[.int .i64 ((rd_T61 l1 0).f0), .slice A272_1 ((rd_T61 l1 0).f1).length c272_1, .int .i64 ((rd_T61 l1 0).f2), .int .i64 ((rd_T61 l1 0).f3), .int .i64 ((rd_T61 l1 0).f4)]] (by rfl) rfl rfl ar_ ?_
         with_reducible refine (dom_Dom_Size.calls ((rd_T61 l1 0).f0) _ _ ((rd_T61 l1 0).f1) ((rd_T61 l1 0).f2) ((rd_T61 l1 0).f3) ((rd_T61 l1 0).f4) t273 _ ?_ ?_ A16.out).mono ?_
         exact ca_ ((Kd.C_below HR272_1.out HB.out))
         exact HC272_1.out
         rintro e w39 ⟨rfl, hb⟩
         refine ⟨_, rfl, ?_⟩
         replace BK264 := Aside0.mk (blk_below (bk_ BK264.out) hb)
         replace HB := Aside0.mk (below_step bel_ hb)
         clear hb
         refine hK.out _ _ ⟨((HB.out.cell (World.block_lt_of_cell? w _ hw272_0)).trans hw272_0), ((HB.out.cell (World.block_lt_of_cell? w _ hw272_1)).trans hw272_1), ((HB.out.cell (World.block_lt_of_cell? w _ hw272_2)).trans hw272_2), ((HB.out.cell (World.block_lt_of_cell? w _ hw272_3)).trans hw272_3), ((HB.out.cell (World.block_lt_of_cell? w _ hw272_4)).trans hw272_4), ((HB.out.cell (World.block_lt_of_cell? w _ hw274_0)).trans hw274_0), ((HB.out.cell (World.block_lt_of_cell? w _ hw274_1)).trans hw274_1), ((HB.out.cell (World.block_lt_of_cell? w _ hw274_2)).trans hw274_2), ((HB.out.cell (World.block_lt_of_cell? w _ hw274_3)).trans hw274_3), ((HB.out.cell (World.block_lt_of_cell? w _ hw274_4)).trans hw274_4)⟩ (fun hHeld => ?_)
         clear hK K
         refine nor_ (N := some 28) ?_
         refine one_ (i := 7) (N := some 32) #[true, true, true, true, true, true, true, true, false, false, false] rfl rfl (one_of HT_.out (by kernel_rfl)) (by decide) (fun K hK => ?_)
         refine goes_ Tryz.func29 (by kernel_rfl) rfl #[.agg #[.int .i64 ((rd_T61 l1 1).f0), .slice A274_1 ((rd_T61 l1 1).f1).length c274_1, .int .i64 ((rd_T61 l1 1).f2), .int .i64 ((rd_T61 l1 1).f3), .int .i64 ((rd_T61 l1 1).f4)]] (by rfl) rfl rfl ar_ ?_
         with_reducible refine (dom_Dom_Size.calls ((rd_T61 l1 1).f0) _ _ ((rd_T61 l1 1).f1) ((rd_T61 l1 1).f2) ((rd_T61 l1 1).f3) ((rd_T61 l1 1).f4) t275 _ ?_ ?_ A18.out).mono ?_
         exact ca_ ((Kd.C_below HR274_1.out HB.out))
         exact HC274_1.out
         rintro e w40 ⟨rfl, hb⟩
         refine ⟨_, rfl, ?_⟩
         replace BK264 := Aside0.mk (blk_below (bk_ BK264.out) hb)
         replace HB := Aside0.mk (below_step bel_ hb)
         clear hb
         refine hK.out _ _ ⟨((HB.out.cell (World.block_lt_of_cell? w _ hw272_0)).trans hw272_0), ((HB.out.cell (World.block_lt_of_cell? w _ hw272_1)).trans hw272_1), ((HB.out.cell (World.block_lt_of_cell? w _ hw272_2)).trans hw272_2), ((HB.out.cell (World.block_lt_of_cell? w _ hw272_3)).trans hw272_3), ((HB.out.cell (World.block_lt_of_cell? w _ hw272_4)).trans hw272_4), ((HB.out.cell (World.block_lt_of_cell? w _ hw274_0)).trans hw274_0), ((HB.out.cell (World.block_lt_of_cell? w _ hw274_1)).trans hw274_1), ((HB.out.cell (World.block_lt_of_cell? w _ hw274_2)).trans hw274_2), ((HB.out.cell (World.block_lt_of_cell? w _ hw274_3)).trans hw274_3), ((HB.out.cell (World.block_lt_of_cell? w _ hw274_4)).trans hw274_4)⟩ (fun hHeld => ?_)
         clear hK K
         refine nor_ (N := some 32) ?_
         refine pur_ (i := 8) (N := some 33) #[true, true, true, true, true, true, true, true, true, false, false] (any_of HT_.out (by kernel_rfl)) ?_
         refine pur_ (i := 9) (N := some 34) #[true, true, true, true, true, true, true, true, true, true, false] (any_of HT_.out (by kernel_rfl)) ?_
         refine pur_ (i := 10) (N := some 6) #[true, true, true, true, true, true, true, true, true, true, true] (any_of HT_.out (by kernel_rfl)) ?_
         refine done_ (done_of HT_.out (by kernel_rfl)) ?_
         obtain ⟨_, _, _, _, _, _, _, _, _, _, _, _, _, _, _, _⟩ := cel8_ BK264.out
         try go_wp2
         replace HB := Aside0.mk (below_drew1 HB.out)
         have p276 : 0 ≤ (0 : Int) := (by omega)
         have q276 : 0 < (l1.length : Int) := dq_
         obtain ⟨ad276, A276_1, c276_1, e276, hx276_0, hx276_1, hx276_2, hx276_3, hx276_4, hl276_1, hi276_1⟩ := at_T61 HR1.out 0 p276 q276
         have hw276_4 := hx276_4
         (try rw [show ((0 : Int)).toNat = 0 from rfl] at hw276_4)
         (try rw [show 0 * 5 = 0 from rfl] at hw276_4)
         (try rw [Addr.add_zero'] at hw276_4)
         have hw276_3 := hx276_3
         (try rw [show ((0 : Int)).toNat = 0 from rfl] at hw276_3)
         (try rw [show 0 * 5 = 0 from rfl] at hw276_3)
         (try rw [Addr.add_zero'] at hw276_3)
         have hw276_2 := hx276_2
         (try rw [show ((0 : Int)).toNat = 0 from rfl] at hw276_2)
         (try rw [show 0 * 5 = 0 from rfl] at hw276_2)
         (try rw [Addr.add_zero'] at hw276_2)
         have hw276_1 := hx276_1
         (try rw [show ((0 : Int)).toNat = 0 from rfl] at hw276_1)
         (try rw [show 0 * 5 = 0 from rfl] at hw276_1)
         (try rw [Addr.add_zero'] at hw276_1)
         have hw276_0 := hx276_0
         (try rw [show ((0 : Int)).toNat = 0 from rfl] at hw276_0)
         (try rw [show 0 * 5 = 0 from rfl] at hw276_0)
         (try rw [Addr.add_zero'] at hw276_0)
         obtain rfl : ad272 = ad276 := (by injection e276)
         have qi276 : (0 < l1.length) = True := eq_true (by omega)
         (try rw [show ((0 : Int)).toNat = 0 from rfl] at hx276_0)
         (try rw [show 0 * 5 = 0 from rfl] at hx276_0)
         (try rw [Addr.add_zero'] at hx276_0)
         (try rw [show ((0 : Int)).toNat = 0 from rfl] at hx276_1)
         (try rw [show 0 * 5 = 0 from rfl] at hx276_1)
         (try rw [Addr.add_zero'] at hx276_1)
         (try rw [show ((0 : Int)).toNat = 0 from rfl] at hx276_2)
         (try rw [show 0 * 5 = 0 from rfl] at hx276_2)
         (try rw [Addr.add_zero'] at hx276_2)
         (try rw [show ((0 : Int)).toNat = 0 from rfl] at hx276_3)
         (try rw [show 0 * 5 = 0 from rfl] at hx276_3)
         (try rw [Addr.add_zero'] at hx276_3)
         (try rw [show ((0 : Int)).toNat = 0 from rfl] at hx276_4)
         (try rw [show 0 * 5 = 0 from rfl] at hx276_4)
         (try rw [Addr.add_zero'] at hx276_4)
         replace hx276_0 := (HB.out.cell (World.block_lt_of_cell? w _ hx276_0)).trans hx276_0
         replace hx276_1 := (HB.out.cell (World.block_lt_of_cell? w _ hx276_1)).trans hx276_1
         replace hx276_2 := (HB.out.cell (World.block_lt_of_cell? w _ hx276_2)).trans hx276_2
         replace hx276_3 := (HB.out.cell (World.block_lt_of_cell? w _ hx276_3)).trans hx276_3
         replace hx276_4 := (HB.out.cell (World.block_lt_of_cell? w _ hx276_4)).trans hx276_4
         have HR276_1 := Aside0.mk hi276_1
         have HC276_1 := Aside0.mk hl276_1
         clear hi276_1 hl276_1
         replace p276 := eq_true p276
         replace q276 := eq_true q276
         have p277 : 0 ≤ (1 : Int) := (by omega)
         have q277 : 1 < (l1.length : Int) := dq_
         obtain ⟨ad277, A277_1, c277_1, e277, hx277_0, hx277_1, hx277_2, hx277_3, hx277_4, hl277_1, hi277_1⟩ := at_T61 HR1.out 1 p277 q277
         have hw277_4 := hx277_4
         (try rw [show ((1 : Int)).toNat = 1 from rfl] at hw277_4)
         (try rw [show 1 * 5 = 5 from rfl] at hw277_4)
         (try simp only [Nat.reduceMul, Nat.reduceEqDiff, Go.Addr.add, ↓reduceIte] at hw277_4)
         have hw277_3 := hx277_3
         (try rw [show ((1 : Int)).toNat = 1 from rfl] at hw277_3)
         (try rw [show 1 * 5 = 5 from rfl] at hw277_3)
         (try simp only [Nat.reduceMul, Nat.reduceEqDiff, Go.Addr.add, ↓reduceIte] at hw277_3)
         have hw277_2 := hx277_2
         (try rw [show ((1 : Int)).toNat = 1 from rfl] at hw277_2)
         (try rw [show 1 * 5 = 5 from rfl] at hw277_2)
         (try simp only [Nat.reduceMul, Nat.reduceEqDiff, Go.Addr.add, ↓reduceIte] at hw277_2)
         have hw277_1 := hx277_1
         (try rw [show ((1 : Int)).toNat = 1 from rfl] at hw277_1)
         (try rw [show 1 * 5 = 5 from rfl] at hw277_1)
         (try simp only [Nat.reduceMul, Nat.reduceEqDiff, Go.Addr.add, ↓reduceIte] at hw277_1)
         have hw277_0 := hx277_0
         (try rw [show ((1 : Int)).toNat = 1 from rfl] at hw277_0)
         (try rw [show 1 * 5 = 5 from rfl] at hw277_0)
         (try simp only [Nat.reduceMul, Nat.reduceEqDiff, Go.Addr.add, ↓reduceIte] at hw277_0)
         obtain rfl : ad272 = ad277 := (by injection e277)
         (try simp only [show (1 : Int).toNat = 1 from rfl, Nat.reduceMul, Nat.reduceEqDiff, Go.Addr.add, ↓reduceIte] at hx277_0)
         (try simp only [show (1 : Int).toNat = 1 from rfl, Nat.reduceMul, Nat.reduceEqDiff, Go.Addr.add, ↓reduceIte] at hx277_1)
         (try simp only [show (1 : Int).toNat = 1 from rfl, Nat.reduceMul, Nat.reduceEqDiff, Go.Addr.add, ↓reduceIte] at hx277_2)
         (try simp only [show (1 : Int).toNat = 1 from rfl, Nat.reduceMul, Nat.reduceEqDiff, Go.Addr.add, ↓reduceIte] at hx277_3)
         (try simp only [show (1 : Int).toNat = 1 from rfl, Nat.reduceMul, Nat.reduceEqDiff, Go.Addr.add, ↓reduceIte] at hx277_4)
         have qi277 : (1 < l1.length) = True := eq_true (by omega)
         (try rw [show ((1 : Int)).toNat = 1 from rfl] at hx277_0)
         (try rw [show 1 * 5 = 5 from rfl] at hx277_0)
         (try rw [show ((1 : Int)).toNat = 1 from rfl] at hx277_1)
         (try rw [show 1 * 5 = 5 from rfl] at hx277_1)
         (try rw [show ((1 : Int)).toNat = 1 from rfl] at hx277_2)
         (try rw [show 1 * 5 = 5 from rfl] at hx277_2)
         (try rw [show ((1 : Int)).toNat = 1 from rfl] at hx277_3)
         (try rw [show 1 * 5 = 5 from rfl] at hx277_3)
         (try rw [show ((1 : Int)).toNat = 1 from rfl] at hx277_4)
         (try rw [show 1 * 5 = 5 from rfl] at hx277_4)
         replace hx277_0 := (HB.out.cell (World.block_lt_of_cell? w _ hx277_0)).trans hx277_0
         replace hx277_1 := (HB.out.cell (World.block_lt_of_cell? w _ hx277_1)).trans hx277_1
         replace hx277_2 := (HB.out.cell (World.block_lt_of_cell? w _ hx277_2)).trans hx277_2
         replace hx277_3 := (HB.out.cell (World.block_lt_of_cell? w _ hx277_3)).trans hx277_3
         replace hx277_4 := (HB.out.cell (World.block_lt_of_cell? w _ hx277_4)).trans hx277_4
         have HR277_1 := Aside0.mk hi277_1
         have HC277_1 := Aside0.mk hl277_1
         clear hi277_1 hl277_1
         replace p277 := eq_true p277
         replace q277 := eq_true q277
         have p278 : 0 ≤ (2 : Int) := (by omega)
         have q278 : 2 < (l1.length : Int) := dq_
         obtain ⟨ad278, A278_1, c278_1, e278, hx278_0, hx278_1, hx278_2, hx278_3, hx278_4, hl278_1, hi278_1⟩ := at_T61 HR1.out 2 p278 q278
         have hw278_4 := hx278_4
         (try rw [show ((2 : Int)).toNat = 2 from rfl] at hw278_4)
         (try rw [show 2 * 5 = 10 from rfl] at hw278_4)
         (try simp only [Nat.reduceMul, Nat.reduceEqDiff, Go.Addr.add, ↓reduceIte] at hw278_4)
         have hw278_3 := hx278_3
         (try rw [show ((2 : Int)).toNat = 2 from rfl] at hw278_3)
         (try rw [show 2 * 5 = 10 from rfl] at hw278_3)
         (try simp only [Nat.reduceMul, Nat.reduceEqDiff, Go.Addr.add, ↓reduceIte] at hw278_3)
         have hw278_2 := hx278_2
         (try rw [show ((2 : Int)).toNat = 2 from rfl] at hw278_2)
         (try rw [show 2 * 5 = 10 from rfl] at hw278_2)
         (try simp only [Nat.reduceMul, Nat.reduceEqDiff, Go.Addr.add, ↓reduceIte] at hw278_2)
         have hw278_1 := hx278_1
         (try rw [show ((2 : Int)).toNat = 2 from rfl] at hw278_1)
         (try rw [show 2 * 5 = 10 from rfl] at hw278_1)
         (try simp only [Nat.reduceMul, Nat.reduceEqDiff, Go.Addr.add, ↓reduceIte] at hw278_1)
         have hw278_0 := hx278_0
         (try rw [show ((2 : Int)).toNat = 2 from rfl] at hw278_0)
         (try rw [show 2 * 5 = 10 from rfl] at hw278_0)
         (try simp only [Nat.reduceMul, Nat.reduceEqDiff, Go.Addr.add, ↓reduceIte] at hw278_0)
         obtain rfl : ad272 = ad278 := (by injection e278)
         (try simp only [show (2 : Int).toNat = 2 from rfl, Nat.reduceMul, Nat.reduceEqDiff, Go.Addr.add, ↓reduceIte] at hx278_0)
         (try simp only [show (2 : Int).toNat = 2 from rfl, Nat.reduceMul, Nat.reduceEqDiff, Go.Addr.add, ↓reduceIte] at hx278_1)
         (try simp only [show (2 : Int).toNat = 2 from rfl, Nat.reduceMul, Nat.reduceEqDiff, Go.Addr.add, ↓reduceIte] at hx278_2)
         (try simp only [show (2 : Int).toNat = 2 from rfl, Nat.reduceMul, Nat.reduceEqDiff, Go.Addr.add, ↓reduceIte] at hx278_3)
         (try simp only [show (2 : Int).toNat = 2 from rfl, Nat.reduceMul, Nat.reduceEqDiff, Go.Addr.add, ↓reduceIte] at hx278_4)
         have qi278 : (2 < l1.length) = True := eq_true (by omega)
         (try rw [show ((2 : Int)).toNat = 2 from rfl] at hx278_0)
         (try rw [show 2 * 5 = 10 from rfl] at hx278_0)
         (try rw [show ((2 : Int)).toNat = 2 from rfl] at hx278_1)
         (try rw [show 2 * 5 = 10 from rfl] at hx278_1)
         (try rw [show ((2 : Int)).toNat = 2 from rfl] at hx278_2)
         (try rw [show 2 * 5 = 10 from rfl] at hx278_2)
         (try rw [show ((2 : Int)).toNat = 2 from rfl] at hx278_3)
         (try rw [show 2 * 5 = 10 from rfl] at hx278_3)
         (try rw [show ((2 : Int)).toNat = 2 from rfl] at hx278_4)
         (try rw [show 2 * 5 = 10 from rfl] at hx278_4)
         replace hx278_0 := (HB.out.cell (World.block_lt_of_cell? w _ hx278_0)).trans hx278_0
         replace hx278_1 := (HB.out.cell (World.block_lt_of_cell? w _ hx278_1)).trans hx278_1
         replace hx278_2 := (HB.out.cell (World.block_lt_of_cell? w _ hx278_2)).trans hx278_2
         replace hx278_3 := (HB.out.cell (World.block_lt_of_cell? w _ hx278_3)).trans hx278_3
         replace hx278_4 := (HB.out.cell (World.block_lt_of_cell? w _ hx278_4)).trans hx278_4
         have HR278_1 := Aside0.mk hi278_1
         have HC278_1 := Aside0.mk hl278_1
         clear hi278_1 hl278_1
         replace p278 := eq_true p278
         replace q278 := eq_true q278
         refine start_ (n := 15) (S := fun w' => w'.cell? ad272 = some (.int .i64 ((rd_T61 l1 0).f0)) ∧ w'.cell? ⟨ad272.block, ad272.off + 1, none⟩ = some (.slice A276_1 ((rd_T61 l1 0).f1).length c276_1) ∧ w'.cell? ⟨ad272.block, ad272.off + 2, none⟩ = some (.int .i64 ((rd_T61 l1 0).f2)) ∧ w'.cell? ⟨ad272.block, ad272.off + 3, none⟩ = some (.int .i64 ((rd_T61 l1 0).f3)) ∧ w'.cell? ⟨ad272.block, ad272.off + 4, none⟩ = some (.int .i64 ((rd_T61 l1 0).f4)) ∧ w'.cell? ⟨ad272.block, ad272.off + 5, none⟩ = some (.int .i64 ((rd_T61 l1 1).f0)) ∧ w'.cell? ⟨ad272.block, ad272.off + 5 + 1, none⟩ = some (.slice A277_1 ((rd_T61 l1 1).f1).length c277_1) ∧ w'.cell? ⟨ad272.block, ad272.off + 5 + 2, none⟩ = some (.int .i64 ((rd_T61 l1 1).f2)) ∧ w'.cell? ⟨ad272.block, ad272.off + 5 + 3, none⟩ = some (.int .i64 ((rd_T61 l1 1).f3)) ∧ w'.cell? ⟨ad272.block, ad272.off + 5 + 4, none⟩ = some (.int .i64 ((rd_T61 l1 1).f4)) ∧ w'.cell? ⟨ad272.block, ad272.off + 10, none⟩ = some (.int .i64 ((rd_T61 l1 2).f0)) ∧ w'.cell? ⟨ad272.block, ad272.off + 10 + 1, none⟩ = some (.slice A278_1 ((rd_T61 l1 2).f1).length c278_1) ∧ w'.cell? ⟨ad272.block, ad272.off + 10 + 2, none⟩ = some (.int .i64 ((rd_T61 l1 2).f2)) ∧ w'.cell? ⟨ad272.block, ad272.off + 10 + 3, none⟩ = some (.int .i64 ((rd_T61 l1 2).f3)) ∧ w'.cell? ⟨ad272.block, ad272.off + 10 + 4, none⟩ = some (.int .i64 ((rd_T61 l1 2).f4))) (ds := []) #[false, false, false, false, false, false, false, false, false, false, false, false, false, false, false] (by kernel_rfl) rfl rfl ⟨((HB.out.cell (World.block_lt_of_cell? w _ hw276_0)).trans hw276_0), ((HB.out.cell (World.block_lt_of_cell? w _ hw276_1)).trans hw276_1), ((HB.out.cell (World.block_lt_of_cell? w _ hw276_2)).trans hw276_2), ((HB.out.cell (World.block_lt_of_cell? w _ hw276_3)).trans hw276_3), ((HB.out.cell (World.block_lt_of_cell? w _ hw276_4)).trans hw276_4), ((HB.out.cell (World.block_lt_of_cell? w _ hw277_0)).trans hw277_0), ((HB.out.cell (World.block_lt_of_cell? w _ hw277_1)).trans hw277_1), ((HB.out.cell (World.block_lt_of_cell? w _ hw277_2)).trans hw277_2), ((HB.out.cell (World.block_lt_of_cell? w _ hw277_3)).trans hw277_3), ((HB.out.cell (World.block_lt_of_cell? w _ hw277_4)).trans hw277_4), ((HB.out.cell (World.block_lt_of_cell? w _ hw278_0)).trans hw278_0), ((HB.out.cell (World.block_lt_of_cell? w _ hw278_1)).trans hw278_1), ((HB.out.cell (World.block_lt_of_cell? w _ hw278_2)).trans hw278_2), ((HB.out.cell (World.block_lt_of_cell? w _ hw278_3)).trans hw278_3), ((HB.out.cell (World.block_lt_of_cell? w _ hw278_4)).trans hw278_4)⟩ (fun hHeld => ?_); refine with_tabW ext_Filter.tab14 ext_Filter.bits14 (fun HT_ HW_ => ?_)
         generalize w40.drew = w42 at BK264 HB HR276_1 HR277_1 HR278_1 hx276_0 hx276_1 hx276_2 hx276_3 hx276_4 hx277_0 hx277_1 hx277_2 hx277_3 hx277_4 hx278_0 hx278_1 hx278_2 hx278_3 hx278_4 hHeld ⊢
         refine pur_ (i := 0) (N := some 88) #[true, false, false, false, false, false, false, false, false, false, false, false, false, false, false] (any_of HT_.out (by kernel_rfl)) ?_
         refine pur_ (i := 1) (N := some 89) #[true, true, false, false, false, false, false, false, false, false, false, false, false, false, false] (any_of HT_.out (by kernel_rfl)) ?_
         refine pur_ (i := 3) (N := some 91) #[true, true, false, true, false, false, false, false, false, false, false, false, false, false, false] (any_of HT_.out (by kernel_rfl)) ?_
         refine pur_ (i := 4) (N := some 92) #[true, true, false, true, true, false, false, false, false, false, false, false, false, false, false] (any_of HT_.out (by kernel_rfl)) ?_
         refine pur_ (i := 6) (N := some 94) #[true, true, false, true, true, false, true, false, false, false, false, false, false, false, false] (any_of HT_.out (by kernel_rfl)) ?_
         refine pur_ (i := 7) (N := some 95) #[true, true, false, true, true, false, true, true, false, false, false, false, false, false, false] (any_of HT_.out (by kernel_rfl)) ?_
         refine take_ (i := 2) (N := some 90) (v := ?_) (a' := ?_) #[true, true, true, true, true, false, true, true, false, false, false, false, false, false, false] rfl rfl (take_ofW HT_.out HW_.out (by kernel_rfl)) (fun _ _ _ h => h) (Or.inl ⟨by rfl, ?_⟩) hHeld ?_ ?_
         rotate_left
         ·
          rintro w' ⟨s0, s1, s2, s3, s4, s5, s6, s7, s8, s9, s10, s11, s12, s13, s14⟩
          go_simp
          with_reducible rfl
         rotate_left
         ·
          simp only [Act.put, List.setIfInBounds_toArray, List.set_cons_zero, List.set_cons_succ, i64_w, i32_w]
          rfl
         refine take_ (i := 5) (N := some 93) (v := ?_) (a' := ?_) #[true, true, true, true, true, true, true, true, false, false, false, false, false, false, false] rfl rfl (take_ofW HT_.out HW_.out (by kernel_rfl)) (fun _ _ _ h => h) (Or.inl ⟨by rfl, ?_⟩) hHeld ?_ ?_
         rotate_left
         ·
          rintro w' ⟨s0, s1, s2, s3, s4, s5, s6, s7, s8, s9, s10, s11, s12, s13, s14⟩
          go_simp
          with_reducible rfl
         rotate_left
         ·
          simp only [Act.put, List.setIfInBounds_toArray, List.set_cons_zero, List.set_cons_succ, i64_w, i32_w]
          rfl
         refine take_ (i := 8) (N := some 96) (v := ?_) (a' := ?_) #[true, true, true, true, true, true, true, true, true, false, false, false, false, false, false] rfl rfl (take_ofW HT_.out HW_.out (by kernel_rfl)) (fun _ _ _ h => h) (Or.inl ⟨by rfl, ?_⟩) hHeld ?_ ?_
         rotate_left
         ·
          rintro w' ⟨s0, s1, s2, s3, s4, s5, s6, s7, s8, s9, s10, s11, s12, s13, s14⟩
          go_simp
          with_reducible rfl
         rotate_left
         ·
          simp only [Act.put, List.setIfInBounds_toArray, List.set_cons_zero, List.set_cons_succ, i64_w, i32_w]
          rfl
         refine one_ (i := 9) (N := some 97) #[true, true, true, true, true, true, true, true, true, true, false, false, false, false, false] rfl rfl (one_of HT_.out (by kernel_rfl)) (by decide) (fun K hK => ?_)
         refine goes_ Tryz.func32 (by kernel_rfl) rfl #[.agg #[.int .i64 ((rd_T61 l1 0).f0), .slice A276_1 ((rd_T61 l1 0).f1).length c276_1, .int .i64 ((rd_T61 l1 0).f2), .int .i64 ((rd_T61 l1 0).f3), .int .i64 ((rd_T61 l1 0).f4)], .agg #[.int .i64 ((rd_T61 l1 1).f0), .slice A277_1 ((rd_T61 l1 1).f1).length c277_1, .int .i64 ((rd_T61 l1 1).f2), .int .i64 ((rd_T61 l1 1).f3), .int .i64 ((rd_T61 l1 1).f4)], .agg #[.int .i64 ((rd_T61 l1 2).f0), .slice A278_1 ((rd_T61 l1 2).f1).length c278_1, .int .i64 ((rd_T61 l1 2).f2), .int .i64 ((rd_T61 l1 2).f3), .int .i64 ((rd_T61 l1 2).f4)], .func (.func 33) #[] #[]] (by rfl) rfl rfl ar_ ?_
         with_reducible refine (prop_Pairs_at_ext_Filter_1.calls k ((rd_T61 l1 0).f0) _ _ ((rd_T61 l1 0).f1) ((rd_T61 l1 0).f2) ((rd_T61 l1 0).f3) ((rd_T61 l1 0).f4) ((rd_T61 l1 1).f0) _ _ ((rd_T61 l1 1).f1) ((rd_T61 l1 1).f2) ((rd_T61 l1 1).f3) ((rd_T61 l1 1).f4) ((rd_T61 l1 2).f0) _ _ ((rd_T61 l1 2).f1) ((rd_T61 l1 2).f2) ((rd_T61 l1 2).f3) ((rd_T61 l1 2).f4) t279 false _ ?_ ?_ ?_ ?_ ?_ ?_ ?_ A22.out).mono ?_
         exact ca_ ((Kd.C_below HR276_1.out HB.out))
         exact HC276_1.out
         exact ca_ ((Kd.C_below HR277_1.out HB.out))
         exact HC277_1.out
         exact ca_ ((Kd.C_below HR278_1.out HB.out))
         exact HC278_1.out
         exact ca_ ((Kd.C_below HRtab.out HB.out))
         rintro e w43 ⟨v280, rfl, ho0, hb⟩
         refine ⟨_, rfl, ?_⟩
         replace HB := Aside0.mk (below_step bel_ hb)
         clear hb ho0
         refine hK.out _ _ ⟨((HB.out.cell (World.block_lt_of_cell? w _ hw276_0)).trans hw276_0), ((HB.out.cell (World.block_lt_of_cell? w _ hw276_1)).trans hw276_1), ((HB.out.cell (World.block_lt_of_cell? w _ hw276_2)).trans hw276_2), ((HB.out.cell (World.block_lt_of_cell? w _ hw276_3)).trans hw276_3), ((HB.out.cell (World.block_lt_of_cell? w _ hw276_4)).trans hw276_4), ((HB.out.cell (World.block_lt_of_cell? w _ hw277_0)).trans hw277_0), ((HB.out.cell (World.block_lt_of_cell? w _ hw277_1)).trans hw277_1), ((HB.out.cell (World.block_lt_of_cell? w _ hw277_2)).trans hw277_2), ((HB.out.cell (World.block_lt_of_cell? w _ hw277_3)).trans hw277_3), ((HB.out.cell (World.block_lt_of_cell? w _ hw277_4)).trans hw277_4), ((HB.out.cell (World.block_lt_of_cell? w _ hw278_0)).trans hw278_0), ((HB.out.cell (World.block_lt_of_cell? w _ hw278_1)).trans hw278_1), ((HB.out.cell (World.block_lt_of_cell? w _ hw278_2)).trans hw278_2), ((HB.out.cell (World.block_lt_of_cell? w _ hw278_3)).trans hw278_3), ((HB.out.cell (World.block_lt_of_cell? w _ hw278_4)).trans hw278_4)⟩ (fun hHeld => ?_)
         clear hK K
         refine nor_ (N := some 97) ?_
         refine pur_ (i := 10) (N := some 87) #[true, true, true, true, true, true, true, true, true, true, true, false, false, false, false] (any_of HT_.out (by kernel_rfl)) ?_
         refine pur_ (i := 11) (N := some 98) #[true, true, true, true, true, true, true, true, true, true, true, true, false, false, false] (any_of HT_.out (by kernel_rfl)) ?_
         refine pur_ (i := 12) (N := some 99) #[true, true, true, true, true, true, true, true, true, true, true, true, true, false, false] (any_of HT_.out (by kernel_rfl)) ?_
         refine pur_ (i := 13) (N := some 7) #[true, true, true, true, true, true, true, true, true, true, true, true, true, true, false] (any_of HT_.out (by kernel_rfl)) ?_
         refine pur_ (i := 14) (N := some 8) #[true, true, true, true, true, true, true, true, true, true, true, true, true, true, true] (any_of HT_.out (by kernel_rfl)) ?_
         refine done_ (done_of HT_.out (by kernel_rfl)) ?_
         try go_wp2
         go_ret2
         exact ⟨_, by first | rfl | (simp [errW_none, errW_some] <;> rfl) | (simp [*, errW_none, errW_some] <;> rfl), by first | exact Kd.S_nil _ _ _ _ _ | exact Kd.N_nil _ _ _ _ _ | exact Kd.V_nil _ _ _ _ _ | exact Kd.Q_nil _ _ _ _ _ | exact Kd.R_nil _ _ _ _ _, bel_⟩
       ·
        rw [if_neg c21] at H
        exact absurd H (by simp)
      ·
       rw [if_neg c20] at H
       have c20b0 : (a0_0 == 9) = false := beq_eq_false_iff_ne.mpr c20
       have c20b1 : (a0_0 != 9) = true := bne_iff_ne.mpr c20
       by_cases c44 : 2 < (l1.length : Int)
       ·
        rw [if_pos c44] at H
        have c44b0 : decide (2 < (l1.length : Int)) = true := decide_eq_true c44
        have c44b1 : decide (2 < l1.length) = true := decide_eq_true (by omega)
        clear c44
        replace H := Option.bind_eq_some_iff.mp H
        obtain ⟨⟨t286, t289⟩, A450, H⟩ := H
        replace H : (if t289 = true then (some (t286, true)) else (some (([] : List (S61)), false))) = some (r1, r2) := H
        have A45 := Aside0.mk A450
        clear A450
        by_cases c46 : t289 = true
        ·
         subst c46
         have H1 : (some (t286, true)) = some (r1, r2) := by rw [if_pos rfl] at H; exact H
         clear H
         have H := H1
         clear H1
         simp only [Option.some.injEq, Prod.mk.injEq] at H
         obtain ⟨rfl, rfl⟩ := H
         go_enter Tryz.func10, Tryz.ntmps10
         try go_wp2_with (first | ((with_reducible refine gate_dst (N := 2) rfl ?_); refine bxe_ (N := 2) (cs := #[.int .i64 a0_0, .slice A0_1 l0_1.length c0_1, .slice A0_2 l0_2.length c0_2, .slice A0_3 l0_3.length c0_3, .slice A0_4 l0_4.length c0_4, .slice A0_5 l0_5.length c0_5, .int .i64 a0_6, .slice A0_7 l0_7.length c0_7]) (t := 32) ?_; intro gb264 hg w47 hbox hb; have BK264 := Aside0.mk (hbox); have GW264 := Aside0.mk (by rw [hg]; exact (below_size bel_) : w.heap.size ≤ gb264); have GE264 := GW264; replace HB := Aside0.mk (below_step bel_ hb); clear hb hbox hg; obtain ⟨_, _, _, _, _, _, _, _, _, _, _, _, _, _, _, _⟩ := cel8_ BK264.out) | ((with_reducible refine gate_callee (f := 27) rfl ?_); refine goesL_ (some 11) rfl rfl Tryz.func27 (by kernel_rfl) rfl #[.agg #[.int .i64 a0_0, .slice A0_1 l0_1.length c0_1, .slice A0_2 l0_2.length c0_2, .slice A0_3 l0_3.length c0_3, .slice A0_4 l0_4.length c0_4, .slice A0_5 l0_5.length c0_5, .int .i64 a0_6, .slice A0_7 l0_7.length c0_7], .slice A1 l1.length c1, .int .i64 8, .int .i64 10] rfl ar_ ?_; (with_reducible refine (prop_Fits.calls k a0_0 _ _ l0_1 _ _ l0_2 _ _ l0_3 _ _ l0_4 _ _ l0_5 a0_6 _ _ l0_7 _ _ l1 8 10 true _ ?_ ?_ ?_ ?_ ?_ ?_ ?_ ?_ ?_ ?_ ?_ ?_ ?_ ?_ A3.out).mono ?_); exact ca_ ((Kd.C_below HR0_1.out HB.out)); exact HC0_1.out; exact ca_ ((Kd.C_below HR0_2.out HB.out)); exact HC0_2.out; exact ca_ ((Kd.C_below HR0_3.out HB.out)); exact HC0_3.out; exact ca_ ((Kd.C_below HR0_4.out HB.out)); exact HC0_4.out; exact ca_ ((Kd.C_below HR0_5.out HB.out)); exact HC0_5.out; exact ca_ ((Kd.C_below HR0_7.out HB.out)); exact HC0_7.out; exact ca_ ((Kd.C_below HR1.out HB.out)); exact HC1.out; rintro e w49 ⟨rfl, hb⟩; refine ⟨_, rfl, ?_⟩; replace BK264 := Aside0.mk (blk_below (bk_ BK264.out) hb); replace HB := Aside0.mk (below_step bel_ hb); clear hb; obtain ⟨_, _, _, _, _, _, _, _, _, _, _, _, _, _, _, _⟩ := cel8_ BK264.out))
         replace BK264 := Aside0.mk (blk_drew BK264.out)
         replace HB := Aside0.mk (below_drew1 HB.out)
         have p272 : 0 ≤ (0 : Int) := (by omega)
         have q272 : 0 < (l1.length : Int) := dq_
         obtain ⟨ad272, A272_1, c272_1, e272, hx272_0, hx272_1, hx272_2, hx272_3, hx272_4, hl272_1, hi272_1⟩ := at_T61 HR1.out 0 p272 q272
         have hw272_4 := hx272_4
         (try rw [show ((0 : Int)).toNat = 0 from rfl] at hw272_4)
         (try rw [show 0 * 5 = 0 from rfl] at hw272_4)
         (try rw [Addr.add_zero'] at hw272_4)
         have hw272_3 := hx272_3
         (try rw [show ((0 : Int)).toNat = 0 from rfl] at hw272_3)
         (try rw [show 0 * 5 = 0 from rfl] at hw272_3)
         (try rw [Addr.add_zero'] at hw272_3)
         have hw272_2 := hx272_2
         (try rw [show ((0 : Int)).toNat = 0 from rfl] at hw272_2)
         (try rw [show 0 * 5 = 0 from rfl] at hw272_2)
         (try rw [Addr.add_zero'] at hw272_2)
         have hw272_1 := hx272_1
         (try rw [show ((0 : Int)).toNat = 0 from rfl] at hw272_1)
         (try rw [show 0 * 5 = 0 from rfl] at hw272_1)
         (try rw [Addr.add_zero'] at hw272_1)
         have hw272_0 := hx272_0
         (try rw [show ((0 : Int)).toNat = 0 from rfl] at hw272_0)
         (try rw [show 0 * 5 = 0 from rfl] at hw272_0)
         (try rw [Addr.add_zero'] at hw272_0)
         cases e272
         have qi272 : (0 < l1.length) = True := eq_true (by omega)
         (try rw [show ((0 : Int)).toNat = 0 from rfl] at hx272_0)
         (try rw [show 0 * 5 = 0 from rfl] at hx272_0)
         (try rw [Addr.add_zero'] at hx272_0)
         (try rw [show ((0 : Int)).toNat = 0 from rfl] at hx272_1)
         (try rw [show 0 * 5 = 0 from rfl] at hx272_1)
         (try rw [Addr.add_zero'] at hx272_1)
         (try rw [show ((0 : Int)).toNat = 0 from rfl] at hx272_2)
         (try rw [show 0 * 5 = 0 from rfl] at hx272_2)
         (try rw [Addr.add_zero'] at hx272_2)
         (try rw [show ((0 : Int)).toNat = 0 from rfl] at hx272_3)
         (try rw [show 0 * 5 = 0 from rfl] at hx272_3)
         (try rw [Addr.add_zero'] at hx272_3)
         (try rw [show ((0 : Int)).toNat = 0 from rfl] at hx272_4)
         (try rw [show 0 * 5 = 0 from rfl] at hx272_4)
         (try rw [Addr.add_zero'] at hx272_4)
         replace hx272_0 := (HB.out.cell (World.block_lt_of_cell? w _ hx272_0)).trans hx272_0
         replace hx272_1 := (HB.out.cell (World.block_lt_of_cell? w _ hx272_1)).trans hx272_1
         replace hx272_2 := (HB.out.cell (World.block_lt_of_cell? w _ hx272_2)).trans hx272_2
         replace hx272_3 := (HB.out.cell (World.block_lt_of_cell? w _ hx272_3)).trans hx272_3
         replace hx272_4 := (HB.out.cell (World.block_lt_of_cell? w _ hx272_4)).trans hx272_4
         have HR272_1 := Aside0.mk hi272_1
         have HC272_1 := Aside0.mk hl272_1
         clear hi272_1 hl272_1
         replace p272 := eq_true p272
         replace q272 := eq_true q272
         have p274 : 0 ≤ (1 : Int) := (by omega)
         have q274 : 1 < (l1.length : Int) := dq_
         obtain ⟨ad274, A274_1, c274_1, e274, hx274_0, hx274_1, hx274_2, hx274_3, hx274_4, hl274_1, hi274_1⟩ := at_T61 HR1.out 1 p274 q274
         have hw274_4 := hx274_4
         (try rw [show ((1 : Int)).toNat = 1 from rfl] at hw274_4)
         (try rw [show 1 * 5 = 5 from rfl] at hw274_4)
         (try simp only [Nat.reduceMul, Nat.reduceEqDiff, Go.Addr.add, ↓reduceIte] at hw274_4)
         have hw274_3 := hx274_3
         (try rw [show ((1 : Int)).toNat = 1 from rfl] at hw274_3)
         (try rw [show 1 * 5 = 5 from rfl] at hw274_3)
         (try simp only [Nat.reduceMul, Nat.reduceEqDiff, Go.Addr.add, ↓reduceIte] at hw274_3)
         have hw274_2 := hx274_2
         (try rw [show ((1 : Int)).toNat = 1 from rfl] at hw274_2)
         (try rw [show 1 * 5 = 5 from rfl] at hw274_2)
         (try simp only [Nat.reduceMul, Nat.reduceEqDiff, Go.Addr.add, ↓reduceIte] at hw274_2)
         have hw274_1 := hx274_1
         (try rw [show ((1 : Int)).toNat = 1 from rfl] at hw274_1)
         (try rw [show 1 * 5 = 5 from rfl] at hw274_1)
         (try simp only [Nat.reduceMul, Nat.reduceEqDiff, Go.Addr.add, ↓reduceIte] at hw274_1)
         have hw274_0 := hx274_0
         (try rw [show ((1 : Int)).toNat = 1 from rfl] at hw274_0)
         (try rw [show 1 * 5 = 5 from rfl] at hw274_0)
         (try simp only [Nat.reduceMul, Nat.reduceEqDiff, Go.Addr.add, ↓reduceIte] at hw274_0)
         obtain rfl : ad272 = ad274 := (by injection e274)
         (try simp only [show (1 : Int).toNat = 1 from rfl, Nat.reduceMul, Nat.reduceEqDiff, Go.Addr.add, ↓reduceIte] at hx274_0)
         (try simp only [show (1 : Int).toNat = 1 from rfl, Nat.reduceMul, Nat.reduceEqDiff, Go.Addr.add, ↓reduceIte] at hx274_1)
         (try simp only [show (1 : Int).toNat = 1 from rfl, Nat.reduceMul, Nat.reduceEqDiff, Go.Addr.add, ↓reduceIte] at hx274_2)
         (try simp only [show (1 : Int).toNat = 1 from rfl, Nat.reduceMul, Nat.reduceEqDiff, Go.Addr.add, ↓reduceIte] at hx274_3)
         (try simp only [show (1 : Int).toNat = 1 from rfl, Nat.reduceMul, Nat.reduceEqDiff, Go.Addr.add, ↓reduceIte] at hx274_4)
         have qi274 : (1 < l1.length) = True := eq_true (by omega)
         (try rw [show ((1 : Int)).toNat = 1 from rfl] at hx274_0)
         (try rw [show 1 * 5 = 5 from rfl] at hx274_0)
         (try rw [show ((1 : Int)).toNat = 1 from rfl] at hx274_1)
         (try rw [show 1 * 5 = 5 from rfl] at hx274_1)
         (try rw [show ((1 : Int)).toNat = 1 from rfl] at hx274_2)
         (try rw [show 1 * 5 = 5 from rfl] at hx274_2)
         (try rw [show ((1 : Int)).toNat = 1 from rfl] at hx274_3)
         (try rw [show 1 * 5 = 5 from rfl] at hx274_3)
         (try rw [show ((1 : Int)).toNat = 1 from rfl] at hx274_4)
         (try rw [show 1 * 5 = 5 from rfl] at hx274_4)
         replace hx274_0 := (HB.out.cell (World.block_lt_of_cell? w _ hx274_0)).trans hx274_0
         replace hx274_1 := (HB.out.cell (World.block_lt_of_cell? w _ hx274_1)).trans hx274_1
         replace hx274_2 := (HB.out.cell (World.block_lt_of_cell? w _ hx274_2)).trans hx274_2
         replace hx274_3 := (HB.out.cell (World.block_lt_of_cell? w _ hx274_3)).trans hx274_3
         replace hx274_4 := (HB.out.cell (World.block_lt_of_cell? w _ hx274_4)).trans hx274_4
         have HR274_1 := Aside0.mk hi274_1
         have HC274_1 := Aside0.mk hl274_1
         clear hi274_1 hl274_1
         replace p274 := eq_true p274
         replace q274 := eq_true q274
         refine start_ (n := 11) (S := fun w' => w'.cell? ad272 = some (.int .i64 ((rd_T61 l1 0).f0)) ∧ w'.cell? ⟨ad272.block, ad272.off + 1, none⟩ = some (.slice A272_1 ((rd_T61 l1 0).f1).length c272_1) ∧ w'.cell? ⟨ad272.block, ad272.off + 2, none⟩ = some (.int .i64 ((rd_T61 l1 0).f2)) ∧ w'.cell? ⟨ad272.block, ad272.off + 3, none⟩ = some (.int .i64 ((rd_T61 l1 0).f3)) ∧ w'.cell? ⟨ad272.block, ad272.off + 4, none⟩ = some (.int .i64 ((rd_T61 l1 0).f4)) ∧ w'.cell? ⟨ad272.block, ad272.off + 5, none⟩ = some (.int .i64 ((rd_T61 l1 1).f0)) ∧ w'.cell? ⟨ad272.block, ad272.off + 5 + 1, none⟩ = some (.slice A274_1 ((rd_T61 l1 1).f1).length c274_1) ∧ w'.cell? ⟨ad272.block, ad272.off + 5 + 2, none⟩ = some (.int .i64 ((rd_T61 l1 1).f2)) ∧ w'.cell? ⟨ad272.block, ad272.off + 5 + 3, none⟩ = some (.int .i64 ((rd_T61 l1 1).f3)) ∧ w'.cell? ⟨ad272.block, ad272.off + 5 + 4, none⟩ = some (.int .i64 ((rd_T61 l1 1).f4))) (ds := []) #[false, false, false, false, false, false, false, false, false, false, false] (by kernel_rfl) rfl rfl ⟨((HB.out.cell (World.block_lt_of_cell? w _ hw272_0)).trans hw272_0), ((HB.out.cell (World.block_lt_of_cell? w _ hw272_1)).trans hw272_1), ((HB.out.cell (World.block_lt_of_cell? w _ hw272_2)).trans hw272_2), ((HB.out.cell (World.block_lt_of_cell? w _ hw272_3)).trans hw272_3), ((HB.out.cell (World.block_lt_of_cell? w _ hw272_4)).trans hw272_4), ((HB.out.cell (World.block_lt_of_cell? w _ hw274_0)).trans hw274_0), ((HB.out.cell (World.block_lt_of_cell? w _ hw274_1)).trans hw274_1), ((HB.out.cell (World.block_lt_of_cell? w _ hw274_2)).trans hw274_2), ((HB.out.cell (World.block_lt_of_cell? w _ hw274_3)).trans hw274_3), ((HB.out.cell (World.block_lt_of_cell? w _ hw274_4)).trans hw274_4)⟩ (fun hHeld => ?_); refine with_tabW ext_Filter.tab5 ext_Filter.bits5 (fun HT_ HW_ => ?_)
         generalize w49.drew = w51 at BK264 HB HR272_1 HR274_1 hx272_0 hx272_1 hx272_2 hx272_3 hx272_4 hx274_0 hx274_1 hx274_2 hx274_3 hx274_4 hHeld ⊢
         refine pur_ (i := 0) (N := some 25) #[true, false, false, false, false, false, false, false, false, false, false] (any_of HT_.out (by kernel_rfl)) ?_
         refine pur_ (i := 1) (N := some 26) #[true, true, false, false, false, false, false, false, false, false, false] (any_of HT_.out (by kernel_rfl)) ?_
         refine pur_ (i := 4) (N := some 29) #[true, true, false, false, true, false, false, false, false, false, false] (any_of HT_.out (by kernel_rfl)) ?_
         refine pur_ (i := 5) (N := some 30) #[true, true, false, false, true, true, false, false, false, false, false] (any_of HT_.out (by kernel_rfl)) ?_
         refine take_ (i := 2) (N := some 27) (v := ?_) (a' := ?_) #[true, true, true, false, true, true, false, false, false, false, false] rfl rfl (take_ofW HT_.out HW_.out (by kernel_rfl)) (fun _ _ _ h => h) (Or.inl ⟨by rfl, ?_⟩) hHeld ?_ ?_
         rotate_left
         ·
          rintro w' ⟨s0, s1, s2, s3, s4, s5, s6, s7, s8, s9⟩
          go_simp
          with_reducible rfl
         rotate_left
         ·
          simp only [Act.put, List.setIfInBounds_toArray, List.set_cons_zero, List.set_cons_succ, i64_w, i32_w]
          rfl
         refine take_ (i := 6) (N := some 31) (v := ?_) (a' := ?_) #[true, true, true, false, true, true, true, false, false, false, false] rfl rfl (take_ofW HT_.out HW_.out (by kernel_rfl)) (fun _ _ _ h => h) (Or.inl ⟨by rfl, ?_⟩) hHeld ?_ ?_
         rotate_left
         ·
          rintro w' ⟨s0, s1, s2, s3, s4, s5, s6, s7, s8, s9⟩
          go_simp
          with_reducible rfl
         rotate_left
         ·
          simp only [Act.put, List.setIfInBounds_toArray, List.set_cons_zero, List.set_cons_succ, i64_w, i32_w]
          rfl
         refine one_ (i := 3) (N := some 28) #[true, true, true, true, true, true, true, false, false, false, false] rfl rfl (one_of HT_.out (by kernel_rfl)) (by decide) (fun K hK => ?_)
         refine goes_ Tryz.func29 (by kernel_rfl) rfl #[.agg #[.int .i64 ((rd_T61 l1 0).f0), .slice A272_1 ((rd_T61 l1 0).f1).length c272_1, .int .i64 ((rd_T61 l1 0).f2), .int .i64 ((rd_T61 l1 0).f3), .int .i64 ((rd_T61 l1 0).f4)]] (by rfl) rfl rfl ar_ ?_
         with_reducible refine (dom_Dom_Size.calls ((rd_T61 l1 0).f0) _ _ ((rd_T61 l1 0).f1) ((rd_T61 l1 0).f2) ((rd_T61 l1 0).f3) ((rd_T61 l1 0).f4) t273 _ ?_ ?_ A16.out).mono ?_
         exact ca_ ((Kd.C_below HR272_1.out HB.out))
         exact HC272_1.out
         rintro e w52 ⟨rfl, hb⟩
         refine ⟨_, rfl, ?_⟩
         replace BK264 := Aside0.mk (blk_below (bk_ BK264.out) hb)
         replace HB := Aside0.mk (below_step bel_ hb)
         clear hb
         refine hK.out _ _ ⟨((HB.out.cell (World.block_lt_of_cell? w _ hw272_0)).trans hw272_0), ((HB.out.cell (World.block_lt_of_cell? w _ hw272_1)).trans hw272_1), ((HB.out.cell (World.block_lt_of_cell? w _ hw272_2)).trans hw272_2), ((HB.out.cell (World.block_lt_of_cell? w _ hw272_3)).trans hw272_3), ((HB.out.cell (World.block_lt_of_cell? w _ hw272_4)).trans hw272_4), ((HB.out.cell (World.block_lt_of_cell? w _ hw274_0)).trans hw274_0), ((HB.out.cell (World.block_lt_of_cell? w _ hw274_1)).trans hw274_1), ((HB.out.cell (World.block_lt_of_cell? w _ hw274_2)).trans hw274_2), ((HB.out.cell (World.block_lt_of_cell? w _ hw274_3)).trans hw274_3), ((HB.out.cell (World.block_lt_of_cell? w _ hw274_4)).trans hw274_4)⟩ (fun hHeld => ?_)
         clear hK K
         refine nor_ (N := some 28) ?_
         refine one_ (i := 7) (N := some 32) #[true, true, true, true, true, true, true, true, false, false, false] rfl rfl (one_of HT_.out (by kernel_rfl)) (by decide) (fun K hK => ?_)
         refine goes_ Tryz.func29 (by kernel_rfl) rfl #[.agg #[.int .i64 ((rd_T61 l1 1).f0), .slice A274_1 ((rd_T61 l1 1).f1).length c274_1, .int .i64 ((rd_T61 l1 1).f2), .int .i64 ((rd_T61 l1 1).f3), .int .i64 ((rd_T61 l1 1).f4)]] (by rfl) rfl rfl ar_ ?_
         with_reducible refine (dom_Dom_Size.calls ((rd_T61 l1 1).f0) _ _ ((rd_T61 l1 1).f1) ((rd_T61 l1 1).f2) ((rd_T61 l1 1).f3) ((rd_T61 l1 1).f4) t275 _ ?_ ?_ A18.out).mono ?_
         exact ca_ ((Kd.C_below HR274_1.out HB.out))
         exact HC274_1.out
         rintro e w53 ⟨rfl, hb⟩
         refine ⟨_, rfl, ?_⟩
         replace BK264 := Aside0.mk (blk_below (bk_ BK264.out) hb)
         replace HB := Aside0.mk (below_step bel_ hb)
         clear hb
         refine hK.out _ _ ⟨((HB.out.cell (World.block_lt_of_cell? w _ hw272_0)).trans hw272_0), ((HB.out.cell (World.block_lt_of_cell? w _ hw272_1)).trans hw272_1), ((HB.out.cell (World.block_lt_of_cell? w _ hw272_2)).trans hw272_2), ((HB.out.cell (World.block_lt_of_cell? w _ hw272_3)).trans hw272_3), ((HB.out.cell (World.block_lt_of_cell? w _ hw272_4)).trans hw272_4), ((HB.out.cell (World.block_lt_of_cell? w _ hw274_0)).trans hw274_0), ((HB.out.cell (World.block_lt_of_cell? w _ hw274_1)).trans hw274_1), ((HB.out.cell (World.block_lt_of_cell? w _ hw274_2)).trans hw274_2), ((HB.out.cell (World.block_lt_of_cell? w _ hw274_3)).trans hw274_3), ((HB.out.cell (World.block_lt_of_cell? w _ hw274_4)).trans hw274_4)⟩ (fun hHeld => ?_)
         clear hK K
         refine nor_ (N := some 32) ?_
         refine pur_ (i := 8) (N := some 33) #[true, true, true, true, true, true, true, true, true, false, false] (any_of HT_.out (by kernel_rfl)) ?_
         refine pur_ (i := 9) (N := some 34) #[true, true, true, true, true, true, true, true, true, true, false] (any_of HT_.out (by kernel_rfl)) ?_
         refine pur_ (i := 10) (N := some 6) #[true, true, true, true, true, true, true, true, true, true, true] (any_of HT_.out (by kernel_rfl)) ?_
         refine done_ (done_of HT_.out (by kernel_rfl)) ?_
         obtain ⟨_, _, _, _, _, _, _, _, _, _, _, _, _, _, _, _⟩ := cel8_ BK264.out
         try go_wp2
         replace BK264 := Aside0.mk (blk_drew BK264.out)
         replace HB := Aside0.mk (below_drew1 HB.out)
         have p283 : 0 ≤ (0 : Int) := (by omega)
         have q283 : 0 < (l1.length : Int) := dq_
         obtain ⟨ad283, A283_1, c283_1, e283, hx283_0, hx283_1, hx283_2, hx283_3, hx283_4, hl283_1, hi283_1⟩ := at_T61 HR1.out 0 p283 q283
         have hw283_4 := hx283_4
         (try rw [show ((0 : Int)).toNat = 0 from rfl] at hw283_4)
         (try rw [show 0 * 5 = 0 from rfl] at hw283_4)
         (try rw [Addr.add_zero'] at hw283_4)
         have hw283_3 := hx283_3
         (try rw [show ((0 : Int)).toNat = 0 from rfl] at hw283_3)
         (try rw [show 0 * 5 = 0 from rfl] at hw283_3)
         (try rw [Addr.add_zero'] at hw283_3)
         have hw283_2 := hx283_2
         (try rw [show ((0 : Int)).toNat = 0 from rfl] at hw283_2)
         (try rw [show 0 * 5 = 0 from rfl] at hw283_2)
         (try rw [Addr.add_zero'] at hw283_2)
         have hw283_1 := hx283_1
         (try rw [show ((0 : Int)).toNat = 0 from rfl] at hw283_1)
         (try rw [show 0 * 5 = 0 from rfl] at hw283_1)
         (try rw [Addr.add_zero'] at hw283_1)
         have hw283_0 := hx283_0
         (try rw [show ((0 : Int)).toNat = 0 from rfl] at hw283_0)
         (try rw [show 0 * 5 = 0 from rfl] at hw283_0)
         (try rw [Addr.add_zero'] at hw283_0)
         obtain rfl : ad272 = ad283 := (by injection e283)
         have qi283 : (0 < l1.length) = True := eq_true (by omega)
         (try rw [show ((0 : Int)).toNat = 0 from rfl] at hx283_0)
         (try rw [show 0 * 5 = 0 from rfl] at hx283_0)
         (try rw [Addr.add_zero'] at hx283_0)
         (try rw [show ((0 : Int)).toNat = 0 from rfl] at hx283_1)
         (try rw [show 0 * 5 = 0 from rfl] at hx283_1)
         (try rw [Addr.add_zero'] at hx283_1)
         (try rw [show ((0 : Int)).toNat = 0 from rfl] at hx283_2)
         (try rw [show 0 * 5 = 0 from rfl] at hx283_2)
         (try rw [Addr.add_zero'] at hx283_2)
         (try rw [show ((0 : Int)).toNat = 0 from rfl] at hx283_3)
         (try rw [show 0 * 5 = 0 from rfl] at hx283_3)
         (try rw [Addr.add_zero'] at hx283_3)
         (try rw [show ((0 : Int)).toNat = 0 from rfl] at hx283_4)
         (try rw [show 0 * 5 = 0 from rfl] at hx283_4)
         (try rw [Addr.add_zero'] at hx283_4)
         replace hx283_0 := (HB.out.cell (World.block_lt_of_cell? w _ hx283_0)).trans hx283_0
         replace hx283_1 := (HB.out.cell (World.block_lt_of_cell? w _ hx283_1)).trans hx283_1
         replace hx283_2 := (HB.out.cell (World.block_lt_of_cell? w _ hx283_2)).trans hx283_2
         replace hx283_3 := (HB.out.cell (World.block_lt_of_cell? w _ hx283_3)).trans hx283_3
         replace hx283_4 := (HB.out.cell (World.block_lt_of_cell? w _ hx283_4)).trans hx283_4
         have HR283_1 := Aside0.mk hi283_1
         have HC283_1 := Aside0.mk hl283_1
         clear hi283_1 hl283_1
         replace p283 := eq_true p283
         replace q283 := eq_true q283
         have p284 : 0 ≤ (1 : Int) := (by omega)
         have q284 : 1 < (l1.length : Int) := dq_
         obtain ⟨ad284, A284_1, c284_1, e284, hx284_0, hx284_1, hx284_2, hx284_3, hx284_4, hl284_1, hi284_1⟩ := at_T61 HR1.out 1 p284 q284
         have hw284_4 := hx284_4
         (try rw [show ((1 : Int)).toNat = 1 from rfl] at hw284_4)
         (try rw [show 1 * 5 = 5 from rfl] at hw284_4)
         (try simp only [Nat.reduceMul, Nat.reduceEqDiff, Go.Addr.add, ↓reduceIte] at hw284_4)
         have hw284_3 := hx284_3
         (try rw [show ((1 : Int)).toNat = 1 from rfl] at hw284_3)
         (try rw [show 1 * 5 = 5 from rfl] at hw284_3)
         (try simp only [Nat.reduceMul, Nat.reduceEqDiff, Go.Addr.add, ↓reduceIte] at hw284_3)
         have hw284_2 := hx284_2
         (try rw [show ((1 : Int)).toNat = 1 from rfl] at hw284_2)
         (try rw [show 1 * 5 = 5 from rfl] at hw284_2)
         (try simp only [Nat.reduceMul, Nat.reduceEqDiff, Go.Addr.add, ↓reduceIte] at hw284_2)
         have hw284_1 := hx284_1
         (try rw [show ((1 : Int)).toNat = 1 from rfl] at hw284_1)
         (try rw [show 1 * 5 = 5 from rfl] at hw284_1)
         (try simp only [Nat.reduceMul, Nat.reduceEqDiff, Go.Addr.add, ↓reduceIte] at hw284_1)
         have hw284_0 := hx284_0
         (try rw [show ((1 : Int)).toNat = 1 from rfl] at hw284_0)
         (try rw [show 1 * 5 = 5 from rfl] at hw284_0)
         (try simp only [Nat.reduceMul, Nat.reduceEqDiff, Go.Addr.add, ↓reduceIte] at hw284_0)
         obtain rfl : ad272 = ad284 := (by injection e284)
         (try simp only [show (1 : Int).toNat = 1 from rfl, Nat.reduceMul, Nat.reduceEqDiff, Go.Addr.add, ↓reduceIte] at hx284_0)
         (try simp only [show (1 : Int).toNat = 1 from rfl, Nat.reduceMul, Nat.reduceEqDiff, Go.Addr.add, ↓reduceIte] at hx284_1)
         (try simp only [show (1 : Int).toNat = 1 from rfl, Nat.reduceMul, Nat.reduceEqDiff, Go.Addr.add, ↓reduceIte] at hx284_2)
         (try simp only [show (1 : Int).toNat = 1 from rfl, Nat.reduceMul, Nat.reduceEqDiff, Go.Addr.add, ↓reduceIte] at hx284_3)
         (try simp only [show (1 : Int).toNat = 1 from rfl, Nat.reduceMul, Nat.reduceEqDiff, Go.Addr.add, ↓reduceIte] at hx284_4)
         have qi284 : (1 < l1.length) = True := eq_true (by omega)
         (try rw [show ((1 : Int)).toNat = 1 from rfl] at hx284_0)
         (try rw [show 1 * 5 = 5 from rfl] at hx284_0)
         (try rw [show ((1 : Int)).toNat = 1 from rfl] at hx284_1)
         (try rw [show 1 * 5 = 5 from rfl] at hx284_1)
         (try rw [show ((1 : Int)).toNat = 1 from rfl] at hx284_2)
         (try rw [show 1 * 5 = 5 from rfl] at hx284_2)
         (try rw [show ((1 : Int)).toNat = 1 from rfl] at hx284_3)
         (try rw [show 1 * 5 = 5 from rfl] at hx284_3)
         (try rw [show ((1 : Int)).toNat = 1 from rfl] at hx284_4)
         (try rw [show 1 * 5 = 5 from rfl] at hx284_4)
         replace hx284_0 := (HB.out.cell (World.block_lt_of_cell? w _ hx284_0)).trans hx284_0
         replace hx284_1 := (HB.out.cell (World.block_lt_of_cell? w _ hx284_1)).trans hx284_1
         replace hx284_2 := (HB.out.cell (World.block_lt_of_cell? w _ hx284_2)).trans hx284_2
         replace hx284_3 := (HB.out.cell (World.block_lt_of_cell? w _ hx284_3)).trans hx284_3
         replace hx284_4 := (HB.out.cell (World.block_lt_of_cell? w _ hx284_4)).trans hx284_4
         have HR284_1 := Aside0.mk hi284_1
         have HC284_1 := Aside0.mk hl284_1
         clear hi284_1 hl284_1
         replace p284 := eq_true p284
         replace q284 := eq_true q284
         have p285 : 0 ≤ (2 : Int) := (by omega)
         have q285 : 2 < (l1.length : Int) := dq_
         obtain ⟨ad285, A285_1, c285_1, e285, hx285_0, hx285_1, hx285_2, hx285_3, hx285_4, hl285_1, hi285_1⟩ := at_T61 HR1.out 2 p285 q285
         have hw285_4 := hx285_4
         (try rw [show ((2 : Int)).toNat = 2 from rfl] at hw285_4)
         (try rw [show 2 * 5 = 10 from rfl] at hw285_4)
         (try simp only [Nat.reduceMul, Nat.reduceEqDiff, Go.Addr.add, ↓reduceIte] at hw285_4)
         have hw285_3 := hx285_3
         (try rw [show ((2 : Int)).toNat = 2 from rfl] at hw285_3)
         (try rw [show 2 * 5 = 10 from rfl] at hw285_3)
         (try simp only [Nat.reduceMul, Nat.reduceEqDiff, Go.Addr.add, ↓reduceIte] at hw285_3)
         have hw285_2 := hx285_2
         (try rw [show ((2 : Int)).toNat = 2 from rfl] at hw285_2)
         (try rw [show 2 * 5 = 10 from rfl] at hw285_2)
         (try simp only [Nat.reduceMul, Nat.reduceEqDiff, Go.Addr.add, ↓reduceIte] at hw285_2)
         have hw285_1 := hx285_1
         (try rw [show ((2 : Int)).toNat = 2 from rfl] at hw285_1)
         (try rw [show 2 * 5 = 10 from rfl] at hw285_1)
         (try simp only [Nat.reduceMul, Nat.reduceEqDiff, Go.Addr.add, ↓reduceIte] at hw285_1)
         have hw285_0 := hx285_0
         (try rw [show ((2 : Int)).toNat = 2 from rfl] at hw285_0)
         (try rw [show 2 * 5 = 10 from rfl] at hw285_0)
         (try simp only [Nat.reduceMul, Nat.reduceEqDiff, Go.Addr.add, ↓reduceIte] at hw285_0)
         obtain rfl : ad272 = ad285 := (by injection e285)
         (try simp only [show (2 : Int).toNat = 2 from rfl, Nat.reduceMul, Nat.reduceEqDiff, Go.Addr.add, ↓reduceIte] at hx285_0)
         (try simp only [show (2 : Int).toNat = 2 from rfl, Nat.reduceMul, Nat.reduceEqDiff, Go.Addr.add, ↓reduceIte] at hx285_1)
         (try simp only [show (2 : Int).toNat = 2 from rfl, Nat.reduceMul, Nat.reduceEqDiff, Go.Addr.add, ↓reduceIte] at hx285_2)
         (try simp only [show (2 : Int).toNat = 2 from rfl, Nat.reduceMul, Nat.reduceEqDiff, Go.Addr.add, ↓reduceIte] at hx285_3)
         (try simp only [show (2 : Int).toNat = 2 from rfl, Nat.reduceMul, Nat.reduceEqDiff, Go.Addr.add, ↓reduceIte] at hx285_4)
         have qi285 : (2 < l1.length) = True := eq_true (by omega)
         (try rw [show ((2 : Int)).toNat = 2 from rfl] at hx285_0)
         (try rw [show 2 * 5 = 10 from rfl] at hx285_0)
         (try rw [show ((2 : Int)).toNat = 2 from rfl] at hx285_1)
         (try rw [show 2 * 5 = 10 from rfl] at hx285_1)
         (try rw [show ((2 : Int)).toNat = 2 from rfl] at hx285_2)
         (try rw [show 2 * 5 = 10 from rfl] at hx285_2)
         (try rw [show ((2 : Int)).toNat = 2 from rfl] at hx285_3)
         (try rw [show 2 * 5 = 10 from rfl] at hx285_3)
         (try rw [show ((2 : Int)).toNat = 2 from rfl] at hx285_4)
         (try rw [show 2 * 5 = 10 from rfl] at hx285_4)
         replace hx285_0 := (HB.out.cell (World.block_lt_of_cell? w _ hx285_0)).trans hx285_0
         replace hx285_1 := (HB.out.cell (World.block_lt_of_cell? w _ hx285_1)).trans hx285_1
         replace hx285_2 := (HB.out.cell (World.block_lt_of_cell? w _ hx285_2)).trans hx285_2
         replace hx285_3 := (HB.out.cell (World.block_lt_of_cell? w _ hx285_3)).trans hx285_3
         replace hx285_4 := (HB.out.cell (World.block_lt_of_cell? w _ hx285_4)).trans hx285_4
         have HR285_1 := Aside0.mk hi285_1
         have HC285_1 := Aside0.mk hl285_1
         clear hi285_1 hl285_1
         replace p285 := eq_true p285
         replace q285 := eq_true q285
         refine start_ (n := 15) (S := fun w' => w'.cell? ad272 = some (.int .i64 ((rd_T61 l1 0).f0)) ∧ w'.cell? ⟨ad272.block, ad272.off + 1, none⟩ = some (.slice A283_1 ((rd_T61 l1 0).f1).length c283_1) ∧ w'.cell? ⟨ad272.block, ad272.off + 2, none⟩ = some (.int .i64 ((rd_T61 l1 0).f2)) ∧ w'.cell? ⟨ad272.block, ad272.off + 3, none⟩ = some (.int .i64 ((rd_T61 l1 0).f3)) ∧ w'.cell? ⟨ad272.block, ad272.off + 4, none⟩ = some (.int .i64 ((rd_T61 l1 0).f4)) ∧ w'.cell? ⟨ad272.block, ad272.off + 5, none⟩ = some (.int .i64 ((rd_T61 l1 1).f0)) ∧ w'.cell? ⟨ad272.block, ad272.off + 5 + 1, none⟩ = some (.slice A284_1 ((rd_T61 l1 1).f1).length c284_1) ∧ w'.cell? ⟨ad272.block, ad272.off + 5 + 2, none⟩ = some (.int .i64 ((rd_T61 l1 1).f2)) ∧ w'.cell? ⟨ad272.block, ad272.off + 5 + 3, none⟩ = some (.int .i64 ((rd_T61 l1 1).f3)) ∧ w'.cell? ⟨ad272.block, ad272.off + 5 + 4, none⟩ = some (.int .i64 ((rd_T61 l1 1).f4)) ∧ w'.cell? ⟨ad272.block, ad272.off + 10, none⟩ = some (.int .i64 ((rd_T61 l1 2).f0)) ∧ w'.cell? ⟨ad272.block, ad272.off + 10 + 1, none⟩ = some (.slice A285_1 ((rd_T61 l1 2).f1).length c285_1) ∧ w'.cell? ⟨ad272.block, ad272.off + 10 + 2, none⟩ = some (.int .i64 ((rd_T61 l1 2).f2)) ∧ w'.cell? ⟨ad272.block, ad272.off + 10 + 3, none⟩ = some (.int .i64 ((rd_T61 l1 2).f3)) ∧ w'.cell? ⟨ad272.block, ad272.off + 10 + 4, none⟩ = some (.int .i64 ((rd_T61 l1 2).f4))) (ds := []) #[false, false, false, false, false, false, false, false, false, false, false, false, false, false, false] (by kernel_rfl) rfl rfl ⟨((HB.out.cell (World.block_lt_of_cell? w _ hw283_0)).trans hw283_0), ((HB.out.cell (World.block_lt_of_cell? w _ hw283_1)).trans hw283_1), ((HB.out.cell (World.block_lt_of_cell? w _ hw283_2)).trans hw283_2), ((HB.out.cell (World.block_lt_of_cell? w _ hw283_3)).trans hw283_3), ((HB.out.cell (World.block_lt_of_cell? w _ hw283_4)).trans hw283_4), ((HB.out.cell (World.block_lt_of_cell? w _ hw284_0)).trans hw284_0), ((HB.out.cell (World.block_lt_of_cell? w _ hw284_1)).trans hw284_1), ((HB.out.cell (World.block_lt_of_cell? w _ hw284_2)).trans hw284_2), ((HB.out.cell (World.block_lt_of_cell? w _ hw284_3)).trans hw284_3), ((HB.out.cell (World.block_lt_of_cell? w _ hw284_4)).trans hw284_4), ((HB.out.cell (World.block_lt_of_cell? w _ hw285_0)).trans hw285_0), ((HB.out.cell (World.block_lt_of_cell? w _ hw285_1)).trans hw285_1), ((HB.out.cell (World.block_lt_of_cell? w _ hw285_2)).trans hw285_2), ((HB.out.cell (World.block_lt_of_cell? w _ hw285_3)).trans hw285_3), ((HB.out.cell (World.block_lt_of_cell? w _ hw285_4)).trans hw285_4)⟩ (fun hHeld => ?_); refine with_tabW ext_Filter.tab8 ext_Filter.bits8 (fun HT_ HW_ => ?_)
         generalize w53.drew = w55 at BK264 HB HR283_1 HR284_1 HR285_1 hx283_0 hx283_1 hx283_2 hx283_3 hx283_4 hx284_0 hx284_1 hx284_2 hx284_3 hx284_4 hx285_0 hx285_1 hx285_2 hx285_3 hx285_4 hHeld ⊢
         refine pur_ (i := 0) (N := some 36) #[true, false, false, false, false, false, false, false, false, false, false, false, false, false, false] (any_of HT_.out (by kernel_rfl)) ?_
         refine pur_ (i := 1) (N := some 37) #[true, true, false, false, false, false, false, false, false, false, false, false, false, false, false] (any_of HT_.out (by kernel_rfl)) ?_
         refine pur_ (i := 3) (N := some 39) #[true, true, false, true, false, false, false, false, false, false, false, false, false, false, false] (any_of HT_.out (by kernel_rfl)) ?_
         refine pur_ (i := 4) (N := some 40) #[true, true, false, true, true, false, false, false, false, false, false, false, false, false, false] (any_of HT_.out (by kernel_rfl)) ?_
         refine pur_ (i := 6) (N := some 42) #[true, true, false, true, true, false, true, false, false, false, false, false, false, false, false] (any_of HT_.out (by kernel_rfl)) ?_
         refine pur_ (i := 7) (N := some 43) #[true, true, false, true, true, false, true, true, false, false, false, false, false, false, false] (any_of HT_.out (by kernel_rfl)) ?_
         refine take_ (i := 2) (N := some 38) (v := ?_) (a' := ?_) #[true, true, true, true, true, false, true, true, false, false, false, false, false, false, false] rfl rfl (take_ofW HT_.out HW_.out (by kernel_rfl)) (fun _ _ _ h => h) (Or.inl ⟨by rfl, ?_⟩) hHeld ?_ ?_
         rotate_left
         ·
          rintro w' ⟨s0, s1, s2, s3, s4, s5, s6, s7, s8, s9, s10, s11, s12, s13, s14⟩
          go_simp
          with_reducible rfl
         rotate_left
         ·
          simp only [Act.put, List.setIfInBounds_toArray, List.set_cons_zero, List.set_cons_succ, i64_w, i32_w]
          rfl
         refine take_ (i := 5) (N := some 41) (v := ?_) (a' := ?_) #[true, true, true, true, true, true, true, true, false, false, false, false, false, false, false] rfl rfl (take_ofW HT_.out HW_.out (by kernel_rfl)) (fun _ _ _ h => h) (Or.inl ⟨by rfl, ?_⟩) hHeld ?_ ?_
         rotate_left
         ·
          rintro w' ⟨s0, s1, s2, s3, s4, s5, s6, s7, s8, s9, s10, s11, s12, s13, s14⟩
          go_simp
          with_reducible rfl
         rotate_left
         ·
          simp only [Act.put, List.setIfInBounds_toArray, List.set_cons_zero, List.set_cons_succ, i64_w, i32_w]
          rfl
         refine take_ (i := 8) (N := some 44) (v := ?_) (a' := ?_) #[true, true, true, true, true, true, true, true, true, false, false, false, false, false, false] rfl rfl (take_ofW HT_.out HW_.out (by kernel_rfl)) (fun _ _ _ h => h) (Or.inl ⟨by rfl, ?_⟩) hHeld ?_ ?_
         rotate_left
         ·
          rintro w' ⟨s0, s1, s2, s3, s4, s5, s6, s7, s8, s9, s10, s11, s12, s13, s14⟩
          go_simp
          with_reducible rfl
         rotate_left
         ·
          simp only [Act.put, List.setIfInBounds_toArray, List.set_cons_zero, List.set_cons_succ, i64_w, i32_w]
          rfl
         refine one_ (i := 9) (N := some 45) #[true, true, true, true, true, true, true, true, true, true, false, false, false, false, false] rfl rfl (one_of HT_.out (by kernel_rfl)) (by decide) (fun K hK => ?_)
         refine goes_ Tryz.func32 (by kernel_rfl) rfl #[.agg #[.int .i64 ((rd_T61 l1 0).f0), .slice A283_1 ((rd_T61 l1 0).f1).length c283_1, .int .i64 ((rd_T61 l1 0).f2), .int .i64 ((rd_T61 l1 0).f3), .int .i64 ((rd_T61 l1 0).f4)], .agg #[.int .i64 ((rd_T61 l1 1).f0), .slice A284_1 ((rd_T61 l1 1).f1).length c284_1, .int .i64 ((rd_T61 l1 1).f2), .int .i64 ((rd_T61 l1 1).f3), .int .i64 ((rd_T61 l1 1).f4)], .agg #[.int .i64 ((rd_T61 l1 2).f0), .slice A285_1 ((rd_T61 l1 2).f1).length c285_1, .int .i64 ((rd_T61 l1 2).f2), .int .i64 ((rd_T61 l1 2).f3), .int .i64 ((rd_T61 l1 2).f4)], .func (.func 34) #[] #[]] (by rfl) rfl rfl ar_ ?_
         with_reducible refine (prop_Pairs_at_ext_Filter_2.calls k ((rd_T61 l1 0).f0) _ _ ((rd_T61 l1 0).f1) ((rd_T61 l1 0).f2) ((rd_T61 l1 0).f3) ((rd_T61 l1 0).f4) ((rd_T61 l1 1).f0) _ _ ((rd_T61 l1 1).f1) ((rd_T61 l1 1).f2) ((rd_T61 l1 1).f3) ((rd_T61 l1 1).f4) ((rd_T61 l1 2).f0) _ _ ((rd_T61 l1 2).f1) ((rd_T61 l1 2).f2) ((rd_T61 l1 2).f3) ((rd_T61 l1 2).f4) t286 true _ ?_ ?_ ?_ ?_ ?_ ?_ ?_ A45.out).mono ?_
         exact ca_ ((Kd.C_below HR283_1.out HB.out))
         exact HC283_1.out
         exact ca_ ((Kd.C_below HR284_1.out HB.out))
         exact HC284_1.out
         exact ca_ ((Kd.C_below HR285_1.out HB.out))
         exact HC285_1.out
         exact ca_ ((Kd.C_below HRtab.out HB.out))
         rintro e w56 ⟨v287, rfl, ho0, hb⟩
         refine ⟨_, rfl, ?_⟩
         have HO288 := Aside0.mk (Kd.N_lower (Kd.N_mono (ok' := fun k_ => (w.heap.size ≤ k_) ∧ k_ ≠ gb264) ho0 (fun k_ hk_ => ⟨(Nat.le_trans (below_size bel_) hk_), (Kd.freshB (bk_ BK264.out) k_ hk_)⟩)) (below_size bel_))
         replace BK264 := Aside0.mk (blk_below (bk_ BK264.out) hb)
         replace HB := Aside0.mk (below_step bel_ hb)
         clear hb ho0
         refine hK.out _ _ ⟨((HB.out.cell (World.block_lt_of_cell? w _ hw283_0)).trans hw283_0), ((HB.out.cell (World.block_lt_of_cell? w _ hw283_1)).trans hw283_1), ((HB.out.cell (World.block_lt_of_cell? w _ hw283_2)).trans hw283_2), ((HB.out.cell (World.block_lt_of_cell? w _ hw283_3)).trans hw283_3), ((HB.out.cell (World.block_lt_of_cell? w _ hw283_4)).trans hw283_4), ((HB.out.cell (World.block_lt_of_cell? w _ hw284_0)).trans hw284_0), ((HB.out.cell (World.block_lt_of_cell? w _ hw284_1)).trans hw284_1), ((HB.out.cell (World.block_lt_of_cell? w _ hw284_2)).trans hw284_2), ((HB.out.cell (World.block_lt_of_cell? w _ hw284_3)).trans hw284_3), ((HB.out.cell (World.block_lt_of_cell? w _ hw284_4)).trans hw284_4), ((HB.out.cell (World.block_lt_of_cell? w _ hw285_0)).trans hw285_0), ((HB.out.cell (World.block_lt_of_cell? w _ hw285_1)).trans hw285_1), ((HB.out.cell (World.block_lt_of_cell? w _ hw285_2)).trans hw285_2), ((HB.out.cell (World.block_lt_of_cell? w _ hw285_3)).trans hw285_3), ((HB.out.cell (World.block_lt_of_cell? w _ hw285_4)).trans hw285_4)⟩ (fun hHeld => ?_)
         clear hK K
         refine nor_ (N := some 45) ?_
         refine pur_ (i := 10) (N := some 35) #[true, true, true, true, true, true, true, true, true, true, true, false, false, false, false] (any_of HT_.out (by kernel_rfl)) ?_
         refine pur_ (i := 11) (N := some 46) #[true, true, true, true, true, true, true, true, true, true, true, true, false, false, false] (any_of HT_.out (by kernel_rfl)) ?_
         refine pur_ (i := 12) (N := some 47) #[true, true, true, true, true, true, true, true, true, true, true, true, true, false, false] (any_of HT_.out (by kernel_rfl)) ?_
         refine pur_ (i := 13) (N := some 7) #[true, true, true, true, true, true, true, true, true, true, true, true, true, true, false] (any_of HT_.out (by kernel_rfl)) ?_
         refine pur_ (i := 14) (N := some 8) #[true, true, true, true, true, true, true, true, true, true, true, true, true, true, true] (any_of HT_.out (by kernel_rfl)) ?_
         refine done_ (done_of HT_.out (by kernel_rfl)) ?_
         try go_wp2
         go_ret2
         exact ⟨_, by first | rfl | (simp [errW_none, errW_some] <;> rfl) | (simp [*, errW_none, errW_some] <;> rfl), by refine vN_ ?_; exact Kd.N_mono HO288.out (fun _ hk => hk.1), bel_⟩
        ·
         replace c46 := Bool.eq_false_iff.mpr c46
         subst c46
         have H1 : (some (([] : List (S61)), false)) = some (r1, r2) := by rw [if_neg (show ¬ (false = true) by decide)] at H; exact H
         clear H
         have H := H1
         clear H1
         simp only [Option.some.injEq, Prod.mk.injEq] at H
         obtain ⟨rfl, rfl⟩ := H
         go_enter Tryz.func10, Tryz.ntmps10
         try go_wp2_with (first | ((with_reducible refine gate_dst (N := 2) rfl ?_); refine bxe_ (N := 2) (cs := #[.int .i64 a0_0, .slice A0_1 l0_1.length c0_1, .slice A0_2 l0_2.length c0_2, .slice A0_3 l0_3.length c0_3, .slice A0_4 l0_4.length c0_4, .slice A0_5 l0_5.length c0_5, .int .i64 a0_6, .slice A0_7 l0_7.length c0_7]) (t := 32) ?_; intro gb264 hg w57 hbox hb; have BK264 := Aside0.mk (hbox); have GW264 := Aside0.mk (by rw [hg]; exact (below_size bel_) : w.heap.size ≤ gb264); have GE264 := GW264; replace HB := Aside0.mk (below_step bel_ hb); clear hb hbox hg; obtain ⟨_, _, _, _, _, _, _, _, _, _, _, _, _, _, _, _⟩ := cel8_ BK264.out) | ((with_reducible refine gate_callee (f := 27) rfl ?_); refine goesL_ (some 11) rfl rfl Tryz.func27 (by kernel_rfl) rfl #[.agg #[.int .i64 a0_0, .slice A0_1 l0_1.length c0_1, .slice A0_2 l0_2.length c0_2, .slice A0_3 l0_3.length c0_3, .slice A0_4 l0_4.length c0_4, .slice A0_5 l0_5.length c0_5, .int .i64 a0_6, .slice A0_7 l0_7.length c0_7], .slice A1 l1.length c1, .int .i64 8, .int .i64 10] rfl ar_ ?_; (with_reducible refine (prop_Fits.calls k a0_0 _ _ l0_1 _ _ l0_2 _ _ l0_3 _ _ l0_4 _ _ l0_5 a0_6 _ _ l0_7 _ _ l1 8 10 true _ ?_ ?_ ?_ ?_ ?_ ?_ ?_ ?_ ?_ ?_ ?_ ?_ ?_ ?_ A3.out).mono ?_); exact ca_ ((Kd.C_below HR0_1.out HB.out)); exact HC0_1.out; exact ca_ ((Kd.C_below HR0_2.out HB.out)); exact HC0_2.out; exact ca_ ((Kd.C_below HR0_3.out HB.out)); exact HC0_3.out; exact ca_ ((Kd.C_below HR0_4.out HB.out)); exact HC0_4.out; exact ca_ ((Kd.C_below HR0_5.out HB.out)); exact HC0_5.out; exact ca_ ((Kd.C_below HR0_7.out HB.out)); exact HC0_7.out; exact ca_ ((Kd.C_below HR1.out HB.out)); exact HC1.out; rintro e w59 ⟨rfl, hb⟩; refine ⟨_, rfl, ?_⟩; replace BK264 := Aside0.mk (blk_below (bk_ BK264.out) hb); replace HB := Aside0.mk (below_step bel_ hb); clear hb; obtain ⟨_, _, _, _, _, _, _, _, _, _, _, _, _, _, _, _⟩ := cel8_ BK264.out))
         replace BK264 := Aside0.mk (blk_drew BK264.out)
         replace HB := Aside0.mk (below_drew1 HB.out)
         have p272 : 0 ≤ (0 : Int) := (by omega)
         have q272 : 0 < (l1.length : Int) := dq_
         obtain ⟨ad272, A272_1, c272_1, e272, hx272_0, hx272_1, hx272_2, hx272_3, hx272_4, hl272_1, hi272_1⟩ := at_T61 HR1.out 0 p272 q272
         have hw272_4 := hx272_4
         (try rw [show ((0 : Int)).toNat = 0 from rfl] at hw272_4)
         (try rw [show 0 * 5 = 0 from rfl] at hw272_4)
         (try rw [Addr.add_zero'] at hw272_4)
         have hw272_3 := hx272_3
         (try rw [show ((0 : Int)).toNat = 0 from rfl] at hw272_3)
         (try rw [show 0 * 5 = 0 from rfl] at hw272_3)
         (try rw [Addr.add_zero'] at hw272_3)
         have hw272_2 := hx272_2
         (try rw [show ((0 : Int)).toNat = 0 from rfl] at hw272_2)
         (try rw [show 0 * 5 = 0 from rfl] at hw272_2)
         (try rw [Addr.add_zero'] at hw272_2)
         have hw272_1 := hx272_1
         (try rw [show ((0 : Int)).toNat = 0 from rfl] at hw272_1)
         (try rw [show 0 * 5 = 0 from rfl] at hw272_1)
         (try rw [Addr.add_zero'] at hw272_1)
         have hw272_0 := hx272_0
         (try rw [show ((0 : Int)).toNat = 0 from rfl] at hw272_0)
         (try rw [show 0 * 5 = 0 from rfl] at hw272_0)
         (try rw [Addr.add_zero'] at hw272_0)
         cases e272
         have qi272 : (0 < l1.length) = True := eq_true (by omega)
         (try rw [show ((0 : Int)).toNat = 0 from rfl] at hx272_0)
         (try rw [show 0 * 5 = 0 from rfl] at hx272_0)
         (try rw [Addr.add_zero'] at hx272_0)
         (try rw [show ((0 : Int)).toNat = 0 from rfl] at hx272_1)
         (try rw [show 0 * 5 = 0 from rfl] at hx272_1)
         (try rw [Addr.add_zero'] at hx272_1)
         (try rw [show ((0 : Int)).toNat = 0 from rfl] at hx272_2)
         (try rw [show 0 * 5 = 0 from rfl] at hx272_2)
         (try rw [Addr.add_zero'] at hx272_2)
         (try rw [show ((0 : Int)).toNat = 0 from rfl] at hx272_3)
         (try rw [show 0 * 5 = 0 from rfl] at hx272_3)
         (try rw [Addr.add_zero'] at hx272_3)
         (try rw [show ((0 : Int)).toNat = 0 from rfl] at hx272_4)
         (try rw [show 0 * 5 = 0 from rfl] at hx272_4)
         (try rw [Addr.add_zero'] at hx272_4)
         replace hx272_0 := (HB.out.cell (World.block_lt_of_cell? w _ hx272_0)).trans hx272_0
         replace hx272_1 := (HB.out.cell (World.block_lt_of_cell? w _ hx272_1)).trans hx272_1
         replace hx272_2 := (HB.out.cell (World.block_lt_of_cell? w _ hx272_2)).trans hx272_2
         replace hx272_3 := (HB.out.cell (World.block_lt_of_cell? w _ hx272_3)).trans hx272_3
         replace hx272_4 := (HB.out.cell (World.block_lt_of_cell? w _ hx272_4)).trans hx272_4
         have HR272_1 := Aside0.mk hi272_1
         have HC272_1 := Aside0.mk hl272_1
         clear hi272_1 hl272_1
         replace p272 := eq_true p272
         replace q272 := eq_true q272
         have p274 : 0 ≤ (1 : Int) := (by omega)
         have q274 : 1 < (l1.length : Int) := dq_
         obtain ⟨ad274, A274_1, c274_1, e274, hx274_0, hx274_1, hx274_2, hx274_3, hx274_4, hl274_1, hi274_1⟩ := at_T61 HR1.out 1 p274 q274
         have hw274_4 := hx274_4
         (try rw [show ((1 : Int)).toNat = 1 from rfl] at hw274_4)
         (try rw [show 1 * 5 = 5 from rfl] at hw274_4)
         (try simp only [Nat.reduceMul, Nat.reduceEqDiff, Go.Addr.add, ↓reduceIte] at hw274_4)
         have hw274_3 := hx274_3
         (try rw [show ((1 : Int)).toNat = 1 from rfl] at hw274_3)
         (try rw [show 1 * 5 = 5 from rfl] at hw274_3)
         (try simp only [Nat.reduceMul, Nat.reduceEqDiff, Go.Addr.add, ↓reduceIte] at hw274_3)
         have hw274_2 := hx274_2
         (try rw [show ((1 : Int)).toNat = 1 from rfl] at hw274_2)
         (try rw [show 1 * 5 = 5 from rfl] at hw274_2)
         (try simp only [Nat.reduceMul, Nat.reduceEqDiff, Go.Addr.add, ↓reduceIte] at hw274_2)
         have hw274_1 := hx274_1
         (try rw [show ((1 : Int)).toNat = 1 from rfl] at hw274_1)
         (try rw [show 1 * 5 = 5 from rfl] at hw274_1)
         (try simp only [Nat.reduceMul, Nat.reduceEqDiff, Go.Addr.add, ↓reduceIte] at hw274_1)
         have hw274_0 := hx274_0
         (try rw [show ((1 : Int)).toNat = 1 from rfl] at hw274_0)
         (try rw [show 1 * 5 = 5 from rfl] at hw274_0)
         (try simp only [Nat.reduceMul, Nat.reduceEqDiff, Go.Addr.add, ↓reduceIte] at hw274_0)
         obtain rfl : ad272 = ad274 := (by injection e274)
         (try simp only [show (1 : Int).toNat = 1 from rfl, Nat.reduceMul, Nat.reduceEqDiff, Go.Addr.add, ↓reduceIte] at hx274_0)
         (try simp only [show (1 : Int).toNat = 1 from rfl, Nat.reduceMul, Nat.reduceEqDiff, Go.Addr.add, ↓reduceIte] at hx274_1)
         (try simp only [show (1 : Int).toNat = 1 from rfl, Nat.reduceMul, Nat.reduceEqDiff, Go.Addr.add, ↓reduceIte] at hx274_2)
         (try simp only [show (1 : Int).toNat = 1 from rfl, Nat.reduceMul, Nat.reduceEqDiff, Go.Addr.add, ↓reduceIte] at hx274_3)
         (try simp only [show (1 : Int).toNat = 1 from rfl, Nat.reduceMul, Nat.reduceEqDiff, Go.Addr.add, ↓reduceIte] at hx274_4)
         have qi274 : (1 < l1.length) = True := eq_true (by omega)
         (try rw [show ((1 : Int)).toNat = 1 from rfl] at hx274_0)
         (try rw [show 1 * 5 = 5 from rfl] at hx274_0)
         (try rw [show ((1 : Int)).toNat = 1 from rfl] at hx274_1)
         (try rw [show 1 * 5 = 5 from rfl] at hx274_1)
         (try rw [show ((1 : Int)).toNat = 1 from rfl] at hx274_2)
         (try rw [show 1 * 5 = 5 from rfl] at hx274_2)
         (try rw [show ((1 : Int)).toNat = 1 from rfl] at hx274_3)
         (try rw [show 1 * 5 = 5 from rfl] at hx274_3)
         (try rw [show ((1 : Int)).toNat = 1 from rfl] at hx274_4)
         (try rw [show 1 * 5 = 5 from rfl] at hx274_4)
         replace hx274_0 := (HB.out.cell (World.block_lt_of_cell? w _ hx274_0)).trans hx274_0
         replace hx274_1 := (HB.out.cell (World.block_lt_of_cell? w _ hx274_1)).trans hx274_1
         replace hx274_2 := (HB.out.cell (World.block_lt_of_cell? w _ hx274_2)).trans hx274_2
         replace hx274_3 := (HB.out.cell (World.block_lt_of_cell? w _ hx274_3)).trans hx274_3
         replace hx274_4 := (HB.out.cell (World.block_lt_of_cell? w _ hx274_4)).trans hx274_4
         have HR274_1 := Aside0.mk hi274_1
         have HC274_1 := Aside0.mk hl274_1
         clear hi274_1 hl274_1
         replace p274 := eq_true p274
         replace q274 := eq_true q274
         refine start_ (n := 11) (S := fun w' => w'.cell? ad272 = some (.int .i64 ((rd_T61 l1 0).f0)) ∧ w'.cell? ⟨ad272.block, ad272.off + 1, none⟩ = some (.slice A272_1 ((rd_T61 l1 0).f1).length c272_1) ∧ w'.cell? ⟨ad272.block, ad272.off + 2, none⟩ = some (.int .i64 ((rd_T61 l1 0).f2)) ∧ w'.cell? ⟨ad272.block, ad272.off + 3, none⟩ = some (.int .i64 ((rd_T61 l1 0).f3)) ∧ w'.cell? ⟨ad272.block, ad272.off + 4, none⟩ = some (.int .i64 ((rd_T61 l1 0).f4)) ∧ w'.cell? ⟨ad272.block, ad272.off + 5, none⟩ = some (.int .i64 ((rd_T61 l1 1).f0)) ∧ w'.cell? ⟨ad272.block, ad272.off + 5 + 1, none⟩ = some (.slice A274_1 ((rd_T61 l1 1).f1).length c274_1) ∧ w'.cell? ⟨ad272.block, ad272.off + 5 + 2, none⟩ = some (.int .i64 ((rd_T61 l1 1).f2)) ∧ w'.cell? ⟨ad272.block, ad272.off + 5 + 3, none⟩ = some (.int .i64 ((rd_T61 l1 1).f3)) ∧ w'.cell? ⟨ad272.block, ad272.off + 5 + 4, none⟩ = some (.int .i64 ((rd_T61 l1 1).f4))) (ds := []) #[false, false, false, false, false, false, false, false, false, false, false] (by kernel_rfl) rfl rfl ⟨((HB.out.cell (World.block_lt_of_cell? w _ hw272_0)).trans hw272_0), ((HB.out.cell (World.block_lt_of_cell? w _ hw272_1)).trans hw272_1), ((HB.out.cell (World.block_lt_of_cell? w _ hw272_2)).trans hw272_2), ((HB.out.cell (World.block_lt_of_cell? w _ hw272_3)).trans hw272_3), ((HB.out.cell (World.block_lt_of_cell? w _ hw272_4)).trans hw272_4), ((HB.out.cell (World.block_lt_of_cell? w _ hw274_0)).trans hw274_0), ((HB.out.cell (World.block_lt_of_cell? w _ hw274_1)).trans hw274_1), ((HB.out.cell (World.block_lt_of_cell? w _ hw274_2)).trans hw274_2), ((HB.out.cell (World.block_lt_of_cell? w _ hw274_3)).trans hw274_3), ((HB.out.cell (World.block_lt_of_cell? w _ hw274_4)).trans hw274_4)⟩ (fun hHeld => ?_); refine with_tabW ext_Filter.tab5 ext_Filter.bits5 (fun HT_ HW_ => ?_)
         generalize w59.drew = w61 at BK264 HB HR272_1 HR274_1 hx272_0 hx272_1 hx272_2 hx272_3 hx272_4 hx274_0 hx274_1 hx274_2 hx274_3 hx274_4 hHeld ⊢
         refine pur_ (i := 0) (N := some 25) #[true, false, false, false, false, false, false, false, false, false, false] (any_of HT_.out (by kernel_rfl)) ?_
         refine pur_ (i := 1) (N := some 26) #[true, true, false, false, false, false, false, false, false, false, false] (any_of HT_.out (by kernel_rfl)) ?_
         refine pur_ (i := 4) (N := some 29) #[true, true, false, false, true, false, false, false, false, false, false] (any_of HT_.out (by kernel_rfl)) ?_
         refine pur_ (i := 5) (N := some 30) #[true, true, false, false, true, true, false, false, false, false, false] (any_of HT_.out (by kernel_rfl)) ?_
         refine take_ (i := 2) (N := some 27) (v := ?_) (a' := ?_) #[true, true, true, false, true, true, false, false, false, false, false] rfl rfl (take_ofW HT_.out HW_.out (by kernel_rfl)) (fun _ _ _ h => h) (Or.inl ⟨by rfl, ?_⟩) hHeld ?_ ?_
         rotate_left
         ·
          rintro w' ⟨s0, s1, s2, s3, s4, s5, s6, s7, s8, s9⟩
          go_simp
          with_reducible rfl
         rotate_left
         ·
          simp only [Act.put, List.setIfInBounds_toArray, List.set_cons_zero, List.set_cons_succ, i64_w, i32_w]
          rfl
         refine take_ (i := 6) (N := some 31) (v := ?_) (a' := ?_) #[true, true, true, false, true, true, true, false, false, false, false] rfl rfl (take_ofW HT_.out HW_.out (by kernel_rfl)) (fun _ _ _ h => h) (Or.inl ⟨by rfl, ?_⟩) hHeld ?_ ?_
         rotate_left
         ·
          rintro w' ⟨s0, s1, s2, s3, s4, s5, s6, s7, s8, s9⟩
          go_simp
          with_reducible rfl
         rotate_left
         ·
          simp only [Act.put, List.setIfInBounds_toArray, List.set_cons_zero, List.set_cons_succ, i64_w, i32_w]
          rfl
         refine one_ (i := 3) (N := some 28) #[true, true, true, true, true, true, true, false, false, false, false] rfl rfl (one_of HT_.out (by kernel_rfl)) (by decide) (fun K hK => ?_)
         refine goes_ Tryz.func29 (by kernel_rfl) rfl #[.agg #[.int .i64 ((rd_T61 l1 0).f0), .slice A272_1 ((rd_T61 l1 0).f1).length c272_1, .int .i64 ((rd_T61 l1 0).f2), .int .i64 ((rd_T61 l1 0).f3), .int .i64 ((rd_T61 l1 0).f4)]] (by rfl) rfl rfl ar_ ?_
         with_reducible refine (dom_Dom_Size.calls ((rd_T61 l1 0).f0) _ _ ((rd_T61 l1 0).f1) ((rd_T61 l1 0).f2) ((rd_T61 l1 0).f3) ((rd_T61 l1 0).f4) t273 _ ?_ ?_ A16.out).mono ?_
         exact ca_ ((Kd.C_below HR272_1.out HB.out))
         exact HC272_1.out
         rintro e w62 ⟨rfl, hb⟩
         refine ⟨_, rfl, ?_⟩
         replace BK264 := Aside0.mk (blk_below (bk_ BK264.out) hb)
         replace HB := Aside0.mk (below_step bel_ hb)
         clear hb
         refine hK.out _ _ ⟨((HB.out.cell (World.block_lt_of_cell? w _ hw272_0)).trans hw272_0), ((HB.out.cell (World.block_lt_of_cell? w _ hw272_1)).trans hw272_1), ((HB.out.cell (World.block_lt_of_cell? w _ hw272_2)).trans hw272_2), ((HB.out.cell (World.block_lt_of_cell? w _ hw272_3)).trans hw272_3), ((HB.out.cell (World.block_lt_of_cell? w _ hw272_4)).trans hw272_4), ((HB.out.cell (World.block_lt_of_cell? w _ hw274_0)).trans hw274_0), ((HB.out.cell (World.block_lt_of_cell? w _ hw274_1)).trans hw274_1), ((HB.out.cell (World.block_lt_of_cell? w _ hw274_2)).trans hw274_2), ((HB.out.cell (World.block_lt_of_cell? w _ hw274_3)).trans hw274_3), ((HB.out.cell (World.block_lt_of_cell? w _ hw274_4)).trans hw274_4)⟩ (fun hHeld => ?_)
         clear hK K
         refine nor_ (N := some 28) ?_
         refine one_ (i := 7) (N := some 32) #[true, true, true, true, true, true, true, true, false, false, false] rfl rfl (one_of HT_.out (by kernel_rfl)) (by decide) (fun K hK => ?_)
         refine goes_ Tryz.func29 (by kernel_rfl) rfl #[.agg #[.int .i64 ((rd_T61 l1 1).f0), .slice A274_1 ((rd_T61 l1 1).f1).length c274_1, .int .i64 ((rd_T61 l1 1).f2), .int .i64 ((rd_T61 l1 1).f3), .int .i64 ((rd_T61 l1 1).f4)]] (by rfl) rfl rfl ar_ ?_
         with_reducible refine (dom_Dom_Size.calls ((rd_T61 l1 1).f0) _ _ ((rd_T61 l1 1).f1) ((rd_T61 l1 1).f2) ((rd_T61 l1 1).f3) ((rd_T61 l1 1).f4) t275 _ ?_ ?_ A18.out).mono ?_
         exact ca_ ((Kd.C_below HR274_1.out HB.out))
         exact HC274_1.out
         rintro e w63 ⟨rfl, hb⟩
         refine ⟨_, rfl, ?_⟩
         replace BK264 := Aside0.mk (blk_below (bk_ BK264.out) hb)
         replace HB := Aside0.mk (below_step bel_ hb)
         clear hb
         refine hK.out _ _ ⟨((HB.out.cell (World.block_lt_of_cell? w _ hw272_0)).trans hw272_0), ((HB.out.cell (World.block_lt_of_cell? w _ hw272_1)).trans hw272_1), ((HB.out.cell (World.block_lt_of_cell? w _ hw272_2)).trans hw272_2), ((HB.out.cell (World.block_lt_of_cell? w _ hw272_3)).trans hw272_3), ((HB.out.cell (World.block_lt_of_cell? w _ hw272_4)).trans hw272_4), ((HB.out.cell (World.block_lt_of_cell? w _ hw274_0)).trans hw274_0), ((HB.out.cell (World.block_lt_of_cell? w _ hw274_1)).trans hw274_1), ((HB.out.cell (World.block_lt_of_cell? w _ hw274_2)).trans hw274_2), ((HB.out.cell (World.block_lt_of_cell? w _ hw274_3)).trans hw274_3), ((HB.out.cell (World.block_lt_of_cell? w _ hw274_4)).trans hw274_4)⟩ (fun hHeld => ?_)
         clear hK K
         refine nor_ (N := some 32) ?_
         refine pur_ (i := 8) (N := some 33) #[true, true, true, true, true, true, true, true, true, false, false] (any_of HT_.out (by kernel_rfl)) ?_
         refine pur_ (i := 9) (N := some 34) #[true, true, true, true, true, true, true, true, true, true, false] (any_of HT_.out (by kernel_rfl)) ?_
         refine pur_ (i := 10) (N := some 6) #[true, true, true, true, true, true, true, true, true, true, true] (any_of HT_.out (by kernel_rfl)) ?_
         refine done_ (done_of HT_.out (by kernel_rfl)) ?_
         obtain ⟨_, _, _, _, _, _, _, _, _, _, _, _, _, _, _, _⟩ := cel8_ BK264.out
         try go_wp2
         replace HB := Aside0.mk (below_drew1 HB.out)
         have p283 : 0 ≤ (0 : Int) := (by omega)
         have q283 : 0 < (l1.length : Int) := dq_
         obtain ⟨ad283, A283_1, c283_1, e283, hx283_0, hx283_1, hx283_2, hx283_3, hx283_4, hl283_1, hi283_1⟩ := at_T61 HR1.out 0 p283 q283
         have hw283_4 := hx283_4
         (try rw [show ((0 : Int)).toNat = 0 from rfl] at hw283_4)
         (try rw [show 0 * 5 = 0 from rfl] at hw283_4)
         (try rw [Addr.add_zero'] at hw283_4)
         have hw283_3 := hx283_3
         (try rw [show ((0 : Int)).toNat = 0 from rfl] at hw283_3)
         (try rw [show 0 * 5 = 0 from rfl] at hw283_3)
         (try rw [Addr.add_zero'] at hw283_3)
         have hw283_2 := hx283_2
         (try rw [show ((0 : Int)).toNat = 0 from rfl] at hw283_2)
         (try rw [show 0 * 5 = 0 from rfl] at hw283_2)
         (try rw [Addr.add_zero'] at hw283_2)
         have hw283_1 := hx283_1
         (try rw [show ((0 : Int)).toNat = 0 from rfl] at hw283_1)
         (try rw [show 0 * 5 = 0 from rfl] at hw283_1)
         (try rw [Addr.add_zero'] at hw283_1)
         have hw283_0 := hx283_0
         (try rw [show ((0 : Int)).toNat = 0 from rfl] at hw283_0)
         (try rw [show 0 * 5 = 0 from rfl] at hw283_0)
         (try rw [Addr.add_zero'] at hw283_0)
         obtain rfl : ad272 = ad283 := (by injection e283)
         have qi283 : (0 < l1.length) = True := eq_true (by omega)
         (try rw [show ((0 : Int)).toNat = 0 from rfl] at hx283_0)
         (try rw [show 0 * 5 = 0 from rfl] at hx283_0)
         (try rw [Addr.add_zero'] at hx283_0)
         (try rw [show ((0 : Int)).toNat = 0 from rfl] at hx283_1)
         (try rw [show 0 * 5 = 0 from rfl] at hx283_1)
         (try rw [Addr.add_zero'] at hx283_1)
         (try rw [show ((0 : Int)).toNat = 0 from rfl] at hx283_2)
         (try rw [show 0 * 5 = 0 from rfl] at hx283_2)
         (try rw [Addr.add_zero'] at hx283_2)
         (try rw [show ((0 : Int)).toNat = 0 from rfl] at hx283_3)
         (try rw [show 0 * 5 = 0 from rfl] at hx283_3)
         (try rw [Addr.add_zero'] at hx283_3)
         (try rw [show ((0 : Int)).toNat = 0 from rfl] at hx283_4)
         (try rw [show 0 * 5 = 0 from rfl] at hx283_4)
         (try rw [Addr.add_zero'] at hx283_4)
         replace hx283_0 := (HB.out.cell (World.block_lt_of_cell? w _ hx283_0)).trans hx283_0
         replace hx283_1 := (HB.out.cell (World.block_lt_of_cell? w _ hx283_1)).trans hx283_1
         replace hx283_2 := (HB.out.cell (World.block_lt_of_cell? w _ hx283_2)).trans hx283_2
         replace hx283_3 := (HB.out.cell (World.block_lt_of_cell? w _ hx283_3)).trans hx283_3
         replace hx283_4 := (HB.out.cell (World.block_lt_of_cell? w _ hx283_4)).trans hx283_4
         have HR283_1 := Aside0.mk hi283_1
         have HC283_1 := Aside0.mk hl283_1
         clear hi283_1 hl283_1
         replace p283 := eq_true p283
         replace q283 := eq_true q283
         have p284 : 0 ≤ (1 : Int) := (by omega)
         have q284 : 1 < (l1.length : Int) := dq_
         obtain ⟨ad284, A284_1, c284_1, e284, hx284_0, hx284_1, hx284_2, hx284_3, hx284_4, hl284_1, hi284_1⟩ := at_T61 HR1.out 1 p284 q284
         have hw284_4 := hx284_4
         (try rw [show ((1 : Int)).toNat = 1 from rfl] at hw284_4)
         (try rw [show 1 * 5 = 5 from rfl] at hw284_4)
         (try simp only [Nat.reduceMul, Nat.reduceEqDiff, Go.Addr.add, ↓reduceIte] at hw284_4)
         have hw284_3 := hx284_3
         (try rw [show ((1 : Int)).toNat = 1 from rfl] at hw284_3)
         (try rw [show 1 * 5 = 5 from rfl] at hw284_3)
         (try simp only [Nat.reduceMul, Nat.reduceEqDiff, Go.Addr.add, ↓reduceIte] at hw284_3)
         have hw284_2 := hx284_2
         (try rw [show ((1 : Int)).toNat = 1 from rfl] at hw284_2)
         (try rw [show 1 * 5 = 5 from rfl] at hw284_2)
         (try simp only [Nat.reduceMul, Nat.reduceEqDiff, Go.Addr.add, ↓reduceIte] at hw284_2)
         have hw284_1 := hx284_1
         (try rw [show ((1 : Int)).toNat = 1 from rfl] at hw284_1)
         (try rw [show 1 * 5 = 5 from rfl] at hw284_1)
         (try simp only [Nat.reduceMul, Nat.reduceEqDiff, Go.Addr.add, ↓reduceIte] at hw284_1)
         have hw284_0 := hx284_0
         (try rw [show ((1 : Int)).toNat = 1 from rfl] at hw284_0)
         (try rw [show 1 * 5 = 5 from rfl] at hw284_0)
         (try simp only [Nat.reduceMul, Nat.reduceEqDiff, Go.Addr.add, ↓reduceIte] at hw284_0)
         obtain rfl : ad272 = ad284 := (by injection e284)
         (try simp only [show (1 : Int).toNat = 1 from rfl, Nat.reduceMul, Nat.reduceEqDiff, Go.Addr.add, ↓reduceIte] at hx284_0)
         (try simp only [show (1 : Int).toNat = 1 from rfl, Nat.reduceMul, Nat.reduceEqDiff, Go.Addr.add, ↓reduceIte] at hx284_1)
         (try simp only [show (1 : Int).toNat = 1 from rfl, Nat.reduceMul, Nat.reduceEqDiff, Go.Addr.add, ↓reduceIte] at hx284_2)
         (try simp only [show (1 : Int).toNat = 1 from rfl, Nat.reduceMul, Nat.reduceEqDiff, Go.Addr.add, ↓reduceIte] at hx284_3)
         (try simp only [show (1 : Int).toNat = 1 from rfl, Nat.reduceMul, Nat.reduceEqDiff, Go.Addr.add, ↓reduceIte] at hx284_4)
         have qi284 : (1 < l1.length) = True := eq_true (by omega)
         (try rw [show ((1 : Int)).toNat = 1 from rfl] at hx284_0)
         (try rw [show 1 * 5 = 5 from rfl] at hx284_0)
         (try rw [show ((1 : Int)).toNat = 1 from rfl] at hx284_1)
         (try rw [show 1 * 5 = 5 from rfl] at hx284_1)
         (try rw [show ((1 : Int)).toNat = 1 from rfl] at hx284_2)
         (try rw [show 1 * 5 = 5 from rfl] at hx284_2)
         (try rw [show ((1 : Int)).toNat = 1 from rfl] at hx284_3)
         (try rw [show 1 * 5 = 5 from rfl] at hx284_3)
         (try rw [show ((1 : Int)).toNat = 1 from rfl] at hx284_4)
         (try rw [show 1 * 5 = 5 from rfl] at hx284_4)
         replace hx284_0 := (HB.out.cell (World.block_lt_of_cell? w _ hx284_0)).trans hx284_0
         replace hx284_1 := (HB.out.cell (World.block_lt_of_cell? w _ hx284_1)).trans hx284_1
         replace hx284_2 := (HB.out.cell (World.block_lt_of_cell? w _ hx284_2)).trans hx284_2
         replace hx284_3 := (HB.out.cell (World.block_lt_of_cell? w _ hx284_3)).trans hx284_3
         replace hx284_4 := (HB.out.cell (World.block_lt_of_cell? w _ hx284_4)).trans hx284_4
         have HR284_1 := Aside0.mk hi284_1
         have HC284_1 := Aside0.mk hl284_1
         clear hi284_1 hl284_1
         replace p284 := eq_true p284
         replace q284 := eq_true q284
         have p285 : 0 ≤ (2 : Int) := (by omega)
         have q285 : 2 < (l1.length : Int) := dq_
         obtain ⟨ad285, A285_1, c285_1, e285, hx285_0, hx285_1, hx285_2, hx285_3, hx285_4, hl285_1, hi285_1⟩ := at_T61 HR1.out 2 p285 q285
         have hw285_4 := hx285_4
         (try rw [show ((2 : Int)).toNat = 2 from rfl] at hw285_4)
         (try rw [show 2 * 5 = 10 from rfl] at hw285_4)
         (try simp only [Nat.reduceMul, Nat.reduceEqDiff, Go.Addr.add, ↓reduceIte] at hw285_4)
         have hw285_3 := hx285_3
         (try rw [show ((2 : Int)).toNat = 2 from rfl] at hw285_3)
         (try rw [show 2 * 5 = 10 from rfl] at hw285_3)
         (try simp only [Nat.reduceMul, Nat.reduceEqDiff, Go.Addr.add, ↓reduceIte] at hw285_3)
         have hw285_2 := hx285_2
         (try rw [show ((2 : Int)).toNat = 2 from rfl] at hw285_2)
         (try rw [show 2 * 5 = 10 from rfl] at hw285_2)
         (try simp only [Nat.reduceMul, Nat.reduceEqDiff, Go.Addr.add, ↓reduceIte] at hw285_2)
         have hw285_1 := hx285_1
         (try rw [show ((2 : Int)).toNat = 2 from rfl] at hw285_1)
         (try rw [show 2 * 5 = 10 from rfl] at hw285_1)
         (try simp only [Nat.reduceMul, Nat.reduceEqDiff, Go.Addr.add, ↓reduceIte] at hw285_1)
         have hw285_0 := hx285_0
         (try rw [show ((2 : Int)).toNat = 2 from rfl] at hw285_0)
         (try rw [show 2 * 5 = 10 from rfl] at hw285_0)
         (try simp only [Nat.reduceMul, Nat.reduceEqDiff, Go.Addr.add, ↓reduceIte] at hw285_0)
         obtain rfl : ad272 = ad285 := (by injection e285)
         (try simp only [show (2 : Int).toNat = 2 from rfl, Nat.reduceMul, Nat.reduceEqDiff, Go.Addr.add, ↓reduceIte] at hx285_0)
         (try simp only [show (2 : Int).toNat = 2 from rfl, Nat.reduceMul, Nat.reduceEqDiff, Go.Addr.add, ↓reduceIte] at hx285_1)
         (try simp only [show (2 : Int).toNat = 2 from rfl, Nat.reduceMul, Nat.reduceEqDiff, Go.Addr.add, ↓reduceIte] at hx285_2)
         (try simp only [show (2 : Int).toNat = 2 from rfl, Nat.reduceMul, Nat.reduceEqDiff, Go.Addr.add, ↓reduceIte] at hx285_3)
         (try simp only [show (2 : Int).toNat = 2 from rfl, Nat.reduceMul, Nat.reduceEqDiff, Go.Addr.add, ↓reduceIte] at hx285_4)
         have qi285 : (2 < l1.length) = True := eq_true (by omega)
         (try rw [show ((2 : Int)).toNat = 2 from rfl] at hx285_0)
         (try rw [show 2 * 5 = 10 from rfl] at hx285_0)
         (try rw [show ((2 : Int)).toNat = 2 from rfl] at hx285_1)
         (try rw [show 2 * 5 = 10 from rfl] at hx285_1)
         (try rw [show ((2 : Int)).toNat = 2 from rfl] at hx285_2)
         (try rw [show 2 * 5 = 10 from rfl] at hx285_2)
         (try rw [show ((2 : Int)).toNat = 2 from rfl] at hx285_3)
         (try rw [show 2 * 5 = 10 from rfl] at hx285_3)
         (try rw [show ((2 : Int)).toNat = 2 from rfl] at hx285_4)
         (try rw [show 2 * 5 = 10 from rfl] at hx285_4)
         replace hx285_0 := (HB.out.cell (World.block_lt_of_cell? w _ hx285_0)).trans hx285_0
         replace hx285_1 := (HB.out.cell (World.block_lt_of_cell? w _ hx285_1)).trans hx285_1
         replace hx285_2 := (HB.out.cell (World.block_lt_of_cell? w _ hx285_2)).trans hx285_2
         replace hx285_3 := (HB.out.cell (World.block_lt_of_cell? w _ hx285_3)).trans hx285_3
         replace hx285_4 := (HB.out.cell (World.block_lt_of_cell? w _ hx285_4)).trans hx285_4
         have HR285_1 := Aside0.mk hi285_1
         have HC285_1 := Aside0.mk hl285_1
         clear hi285_1 hl285_1
         replace p285 := eq_true p285
         replace q285 := eq_true q285
         refine start_ (n := 15) (S := fun w' => w'.cell? ad272 = some (.int .i64 ((rd_T61 l1 0).f0)) ∧ w'.cell? ⟨ad272.block, ad272.off + 1, none⟩ = some (.slice A283_1 ((rd_T61 l1 0).f1).length c283_1) ∧ w'.cell? ⟨ad272.block, ad272.off + 2, none⟩ = some (.int .i64 ((rd_T61 l1 0).f2)) ∧ w'.cell? ⟨ad272.block, ad272.off + 3, none⟩ = some (.int .i64 ((rd_T61 l1 0).f3)) ∧ w'.cell? ⟨ad272.block, ad272.off + 4, none⟩ = some (.int .i64 ((rd_T61 l1 0).f4)) ∧ w'.cell? ⟨ad272.block, ad272.off + 5, none⟩ = some (.int .i64 ((rd_T61 l1 1).f0)) ∧ w'.cell? ⟨ad272.block, ad272.off + 5 + 1, none⟩ = some (.slice A284_1 ((rd_T61 l1 1).f1).length c284_1) ∧ w'.cell? ⟨ad272.block, ad272.off + 5 + 2, none⟩ = some (.int .i64 ((rd_T61 l1 1).f2)) ∧ w'.cell? ⟨ad272.block, ad272.off + 5 + 3, none⟩ = some (.int .i64 ((rd_T61 l1 1).f3)) ∧ w'.cell? ⟨ad272.block, ad272.off + 5 + 4, none⟩ = some (.int .i64 ((rd_T61 l1 1).f4)) ∧ w'.cell? ⟨ad272.block, ad272.off + 10, none⟩ = some (.int .i64 ((rd_T61 l1 2).f0)) ∧ w'.cell? ⟨ad272.block, ad272.off + 10 + 1, none⟩ = some (.slice A285_1 ((rd_T61 l1 2).f1).length c285_1) ∧ w'.cell? ⟨ad272.block, ad272.off + 10 + 2, none⟩ = some (.int .i64 ((rd_T61 l1 2).f2)) ∧ w'.cell? ⟨ad272.block, ad272.off + 10 + 3, none⟩ = some (.int .i64 ((rd_T61 l1 2).f3)) ∧ w'.cell? ⟨ad272.block, ad272.off + 10 + 4, none⟩ = some (.int .i64 ((rd_T61 l1 2).f4))) (ds := []) #[false, false, false, false, false, false, false, false, false, false, false, false, false, false, false] (by kernel_rfl) rfl rfl ⟨((HB.out.cell (World.block_lt_of_cell? w _ hw283_0)).trans hw283_0), ((HB.out.cell (World.block_lt_of_cell? w _ hw283_1)).trans hw283_1), ((HB.out.cell (World.block_lt_of_cell? w _ hw283_2)).trans hw283_2), ((HB.out.cell (World.block_lt_of_cell? w _ hw283_3)).trans hw283_3), ((HB.out.cell (World.block_lt_of_cell? w _ hw283_4)).trans hw283_4), ((HB.out.cell (World.block_lt_of_cell? w _ hw284_0)).trans hw284_0), ((HB.out.cell (World.block_lt_of_cell? w _ hw284_1)).trans hw284_1), ((HB.out.cell (World.block_lt_of_cell? w _ hw284_2)).trans hw284_2), ((HB.out.cell (World.block_lt_of_cell? w _ hw284_3)).trans hw284_3), ((HB.out.cell (World.block_lt_of_cell? w _ hw284_4)).trans hw284_4), ((HB.out.cell (World.block_lt_of_cell? w _ hw285_0)).trans hw285_0), ((HB.out.cell (World.block_lt_of_cell? w _ hw285_1)).trans hw285_1), ((HB.out.cell (World.block_lt_of_cell? w _ hw285_2)).trans hw285_2), ((HB.out.cell (World.block_lt_of_cell? w _ hw285_3)).trans hw285_3), ((HB.out.cell (World.block_lt_of_cell? w _ hw285_4)).trans hw285_4)⟩ (fun hHeld => ?_); refine with_tabW ext_Filter.tab8 ext_Filter.bits8 (fun HT_ HW_ => ?_)
         generalize w63.drew = w65 at BK264 HB HR283_1 HR284_1 HR285_1 hx283_0 hx283_1 hx283_2 hx283_3 hx283_4 hx284_0 hx284_1 hx284_2 hx284_3 hx284_4 hx285_0 hx285_1 hx285_2 hx285_3 hx285_4 hHeld ⊢
         refine pur_ (i := 0) (N := some 36) #[true, false, false, false, false, false, false, false, false, false, false, false, false, false, false] (any_of HT_.out (by kernel_rfl)) ?_
         refine pur_ (i := 1) (N := some 37) #[true, true, false, false, false, false, false, false, false, false, false, false, false, false, false] (any_of HT_.out (by kernel_rfl)) ?_
         refine pur_ (i := 3) (N := some 39) #[true, true, false, true, false, false, false, false, false, false, false, false, false, false, false] (any_of HT_.out (by kernel_rfl)) ?_
         refine pur_ (i := 4) (N := some 40) #[true, true, false, true, true, false, false, false, false, false, false, false, false, false, false] (any_of HT_.out (by kernel_rfl)) ?_
         refine pur_ (i := 6) (N := some 42) #[true, true, false, true, true, false, true, false, false, false, false, false, false, false, false] (any_of HT_.out (by kernel_rfl)) ?_
         refine pur_ (i := 7) (N := some 43) #[true, true, false, true, true, false, true, true, false, false, false, false, false, false, false] (any_of HT_.out (by kernel_rfl)) ?_
         refine take_ (i := 2) (N := some 38) (v := ?_) (a' := ?_) #[true, true, true, true, true, false, true, true, false, false, false, false, false, false, false] rfl rfl (take_ofW HT_.out HW_.out (by kernel_rfl)) (fun _ _ _ h => h) (Or.inl ⟨by rfl, ?_⟩) hHeld ?_ ?_
         rotate_left
         ·
          rintro w' ⟨s0, s1, s2, s3, s4, s5, s6, s7, s8, s9, s10, s11, s12, s13, s14⟩
          go_simp
          with_reducible rfl
         rotate_left
         ·
          simp only [Act.put, List.setIfInBounds_toArray, List.set_cons_zero, List.set_cons_succ, i64_w, i32_w]
          rfl
         refine take_ (i := 5) (N := some 41) (v := ?_) (a' := ?_) #[true, true, true, true, true, true, true, true, false, false, false, false, false, false, false] rfl rfl (take_ofW HT_.out HW_.out (by kernel_rfl)) (fun _ _ _ h => h) (Or.inl ⟨by rfl, ?_⟩) hHeld ?_ ?_
         rotate_left
         ·
          rintro w' ⟨s0, s1, s2, s3, s4, s5, s6, s7, s8, s9, s10, s11, s12, s13, s14⟩
          go_simp
          with_reducible rfl
         rotate_left
         ·
          simp only [Act.put, List.setIfInBounds_toArray, List.set_cons_zero, List.set_cons_succ, i64_w, i32_w]
          rfl
         refine take_ (i := 8) (N := some 44) (v := ?_) (a' := ?_) #[true, true, true, true, true, true, true, true, true, false, false, false, false, false, false] rfl rfl (take_ofW HT_.out HW_.out (by kernel_rfl)) (fun _ _ _ h => h) (Or.inl ⟨by rfl, ?_⟩) hHeld ?_ ?_
         rotate_left
         ·
          rintro w' ⟨s0, s1, s2, s3, s4, s5, s6, s7, s8, s9, s10, s11, s12, s13, s14⟩
          go_simp
          with_reducible rfl
         rotate_left
         ·
          simp only [Act.put, List.setIfInBounds_toArray, List.set_cons_zero, List.set_cons_succ, i64_w, i32_w]
          rfl
         refine one_ (i := 9) (N := some 45) #[true, true, true, true, true, true, true, true, true, true, false, false, false, false, false] rfl rfl (one_of HT_.out (by kernel_rfl)) (by decide) (fun K hK => ?_)
         refine goes_ Tryz.func32 (by kernel_rfl) rfl #[.agg #[.int .i64 ((rd_T61 l1 0).f0), .slice A283_1 ((rd_T61 l1 0).f1).length c283_1, .int .i64 ((rd_T61 l1 0).f2), .int .i64 ((rd_T61 l1 0).f3), .int .i64 ((rd_T61 l1 0).f4)], .agg #[.int .i64 ((rd_T61 l1 1).f0), .slice A284_1 ((rd_T61 l1 1).f1).length c284_1, .int .i64 ((rd_T61 l1 1).f2), .int .i64 ((rd_T61 l1 1).f3), .int .i64 ((rd_T61 l1 1).f4)], .agg #[.int .i64 ((rd_T61 l1 2).f0), .slice A285_1 ((rd_T61 l1 2).f1).length c285_1, .int .i64 ((rd_T61 l1 2).f2), .int .i64 ((rd_T61 l1 2).f3), .int .i64 ((rd_T61 l1 2).f4)], .func (.func 34) #[] #[]] (by rfl) rfl rfl ar_ ?_
         with_reducible refine (prop_Pairs_at_ext_Filter_2.calls k ((rd_T61 l1 0).f0) _ _ ((rd_T61 l1 0).f1) ((rd_T61 l1 0).f2) ((rd_T61 l1 0).f3) ((rd_T61 l1 0).f4) ((rd_T61 l1 1).f0) _ _ ((rd_T61 l1 1).f1) ((rd_T61 l1 1).f2) ((rd_T61 l1 1).f3) ((rd_T61 l1 1).f4) ((rd_T61 l1 2).f0) _ _ ((rd_T61 l1 2).f1) ((rd_T61 l1 2).f2) ((rd_T61 l1 2).f3) ((rd_T61 l1 2).f4) t286 false _ ?_ ?_ ?_ ?_ ?_ ?_ ?_ A45.out).mono ?_
         exact ca_ ((Kd.C_below HR283_1.out HB.out))
         exact HC283_1.out
         exact ca_ ((Kd.C_below HR284_1.out HB.out))
         exact HC284_1.out
         exact ca_ ((Kd.C_below HR285_1.out HB.out))
         exact HC285_1.out
         exact ca_ ((Kd.C_below HRtab.out HB.out))
         rintro e w66 ⟨v287, rfl, ho0, hb⟩
         refine ⟨_, rfl, ?_⟩
         replace HB := Aside0.mk (below_step bel_ hb)
         clear hb ho0
         refine hK.out _ _ ⟨((HB.out.cell (World.block_lt_of_cell? w _ hw283_0)).trans hw283_0), ((HB.out.cell (World.block_lt_of_cell? w _ hw283_1)).trans hw283_1), ((HB.out.cell (World.block_lt_of_cell? w _ hw283_2)).trans hw283_2), ((HB.out.cell (World.block_lt_of_cell? w _ hw283_3)).trans hw283_3), ((HB.out.cell (World.block_lt_of_cell? w _ hw283_4)).trans hw283_4), ((HB.out.cell (World.block_lt_of_cell? w _ hw284_0)).trans hw284_0), ((HB.out.cell (World.block_lt_of_cell? w _ hw284_1)).trans hw284_1), ((HB.out.cell (World.block_lt_of_cell? w _ hw284_2)).trans hw284_2), ((HB.out.cell (World.block_lt_of_cell? w _ hw284_3)).trans hw284_3), ((HB.out.cell (World.block_lt_of_cell? w _ hw284_4)).trans hw284_4), ((HB.out.cell (World.block_lt_of_cell? w _ hw285_0)).trans hw285_0), ((HB.out.cell (World.block_lt_of_cell? w _ hw285_1)).trans hw285_1), ((HB.out.cell (World.block_lt_of_cell? w _ hw285_2)).trans hw285_2), ((HB.out.cell (World.block_lt_of_cell? w _ hw285_3)).trans hw285_3), ((HB.out.cell (World.block_lt_of_cell? w _ hw285_4)).trans hw285_4)⟩ (fun hHeld => ?_)
         clear hK K
         refine nor_ (N := some 45) ?_
         refine pur_ (i := 10) (N := some 35) #[true, true, true, true, true, true, true, true, true, true, true, false, false, false, false] (any_of HT_.out (by kernel_rfl)) ?_
         refine pur_ (i := 11) (N := some 46) #[true, true, true, true, true, true, true, true, true, true, true, true, false, false, false] (any_of HT_.out (by kernel_rfl)) ?_
         refine pur_ (i := 12) (N := some 47) #[true, true, true, true, true, true, true, true, true, true, true, true, true, false, false] (any_of HT_.out (by kernel_rfl)) ?_
         refine pur_ (i := 13) (N := some 7) #[true, true, true, true, true, true, true, true, true, true, true, true, true, true, false] (any_of HT_.out (by kernel_rfl)) ?_
         refine pur_ (i := 14) (N := some 8) #[true, true, true, true, true, true, true, true, true, true, true, true, true, true, true] (any_of HT_.out (by kernel_rfl)) ?_
         refine done_ (done_of HT_.out (by kernel_rfl)) ?_
         try go_wp2
         go_ret2
         exact ⟨_, by first | rfl | (simp [errW_none, errW_some] <;> rfl) | (simp [*, errW_none, errW_some] <;> rfl), by first | exact Kd.S_nil _ _ _ _ _ | exact Kd.N_nil _ _ _ _ _ | exact Kd.V_nil _ _ _ _ _ | exact Kd.Q_nil _ _ _ _ _ | exact Kd.R_nil _ _ _ _ _, bel_⟩
       ·
        rw [if_neg c44] at H
        exact absurd H (by simp)
    ·
     rw [if_neg c17] at H
     exact absurd H (by simp)
   ·
    rw [if_neg c15] at H
    exact absurd H (by simp)
 ·
  replace c4 := Bool.eq_false_iff.mpr c4
  subst c4
  have H1 : (some (([] : List (S61)), false)) = some (r1, r2) := by rw [if_neg (show ¬ (false = true) by decide)] at H; exact H
  clear H
  have H := H1
  clear H1
  simp only [Option.some.injEq, Prod.mk.injEq] at H
  obtain ⟨rfl, rfl⟩ := H
  go_enter Tryz.func10, Tryz.ntmps10
  go_wp2_with (first | ((with_reducible refine gate_dst (N := 2) rfl ?_); refine bxe_ (N := 2) (cs := #[.int .i64 a0_0, .slice A0_1 l0_1.length c0_1, .slice A0_2 l0_2.length c0_2, .slice A0_3 l0_3.length c0_3, .slice A0_4 l0_4.length c0_4, .slice A0_5 l0_5.length c0_5, .int .i64 a0_6, .slice A0_7 l0_7.length c0_7]) (t := 32) ?_; intro gb264 hg w67 hbox hb; have BK264 := Aside0.mk (hbox); have GW264 := Aside0.mk (by rw [hg]; exact (below_size bel_) : w.heap.size ≤ gb264); have GE264 := GW264; replace HB := Aside0.mk (below_step bel_ hb); clear hb hbox hg; obtain ⟨_, _, _, _, _, _, _, _, _, _, _, _, _, _, _, _⟩ := cel8_ BK264.out) | ((with_reducible refine gate_callee (f := 27) rfl ?_); refine goesL_ (some 11) rfl rfl Tryz.func27 (by kernel_rfl) rfl #[.agg #[.int .i64 a0_0, .slice A0_1 l0_1.length c0_1, .slice A0_2 l0_2.length c0_2, .slice A0_3 l0_3.length c0_3, .slice A0_4 l0_4.length c0_4, .slice A0_5 l0_5.length c0_5, .int .i64 a0_6, .slice A0_7 l0_7.length c0_7], .slice A1 l1.length c1, .int .i64 8, .int .i64 10] rfl ar_ ?_; (with_reducible refine (prop_Fits.calls k a0_0 _ _ l0_1 _ _ l0_2 _ _ l0_3 _ _ l0_4 _ _ l0_5 a0_6 _ _ l0_7 _ _ l1 8 10 false _ ?_ ?_ ?_ ?_ ?_ ?_ ?_ ?_ ?_ ?_ ?_ ?_ ?_ ?_ A3.out).mono ?_); exact ca_ ((Kd.C_below HR0_1.out HB.out)); exact HC0_1.out; exact ca_ ((Kd.C_below HR0_2.out HB.out)); exact HC0_2.out; exact ca_ ((Kd.C_below HR0_3.out HB.out)); exact HC0_3.out; exact ca_ ((Kd.C_below HR0_4.out HB.out)); exact HC0_4.out; exact ca_ ((Kd.C_below HR0_5.out HB.out)); exact HC0_5.out; exact ca_ ((Kd.C_below HR0_7.out HB.out)); exact HC0_7.out; exact ca_ ((Kd.C_below HR1.out HB.out)); exact HC1.out; rintro e w69 ⟨rfl, hb⟩; refine ⟨_, rfl, ?_⟩; replace HB := Aside0.mk (below_step bel_ hb); clear hb))
  go_ret2
  exact ⟨_, by first | rfl | (simp [errW_none, errW_some] <;> rfl) | (simp [*, errW_none, errW_some] <;> rfl), by first | exact Kd.S_nil _ _ _ _ _ | exact Kd.N_nil _ _ _ _ _ | exact Kd.V_nil _ _ _ _ _ | exact Kd.Q_nil _ _ _ _ _ | exact Kd.R_nil _ _ _ _ _, bel_⟩

end Go.Proofs.YtiofjnhmogeenaaGreatDoor.XExtFixed
