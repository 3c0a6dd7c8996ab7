-- by xprint.py, a program of this session, over the kit's print
import Derived.Test.YtmhchlbbfpmdgaaGreatDoorXCKex0
import Derived.Test.YtmhchlbbfpmdgaaGreatDoorXCKex6
import Derived.Test.YtmhchlbbfpmdgaaGreatDoorXCKex7
import Derived.Test.YtmhchlbbfpmdgaaGreatDoorXCKex12
import Derived.Test.YtmhchlbbfpmdgaaGreatDoorXCKex16
import Derived.Test.YtmhchlbbfpmdgaaGreatDoorXCKex19
import Derived.Test.YtmhchlbbfpmdgaaGreatDoorXCKex21
import Derived.Test.YtmhchlbbfpmdgaaGreatDoorXCKex22
import Derived.Test.YtmhchlbbfpmdgaaGreatDoorXCKex26
import Derived.Test.YtmhchlbbfpmdgaaGreatDoorXCKex27
import Derived.Test.YtmhchlbbfpmdgaaGreatDoorSq
namespace Go.Proofs.YtmhchlbbfpmdgaaGreatDoor.XClauseKeeps
open Go.RowKit Go.Proofs.YtmhchlbbfpmdgaaGreatDoor.Sq Go.Proofs.YtmhchlbbfpmdgaaGreatDoorW.PrintWords Go.Proofs.YtmhchlbbfpmdgaaGreatDoorW.PrintLast Go.Proofs.YtmhchlbbfpmdgaaGreatDoorW.PrintMore
attribute [local go_sem] max2_int min2_int max_two min_two max_three min_three max_four min_four   -- for this text's walks alone
set_option linter.unusedVariables false
set_option linter.unusedSimpArgs false

/-! ### jigsawlaw14_ClauseKeeps: function 6 -/
mutual
def jigsawlaw14_ClauseKeeps.j0 : Nat → List (List Int) → List (List Int) → List (S58) → Bool → Bool → Int → List Int → List Int → List Int → List Int → List Int → Int → List (List Int) → Option (Bool)
 | 0, _, _, _, _, _, _, _, _, _, _, _, _, _ => none
 | k + 1, x6, x7, x9, x10, x42, x583000, x583001, x583002, x583003, x583004, x583005, x583006, x583007 => if x42 = true then ((jigsawlaw14_wakes.f k).bind fun t594 => (some t594)) else (if x10 = true then (if (x9.length : Int) = (x6.length : Int) then (jigsawlaw14_ClauseKeeps.l0 k x7 x9 x6 (x6.length : Int) 0 x583000 x583001 x583002 x583003 x583004 x583005 x583006 x583007) else (none)) else ((jigsawlaw14_wakes.f k).bind fun t595 => (if t595 = true then (some ((x7.length : Int) == 0)) else (none))))
def jigsawlaw14_ClauseKeeps.l0 : Nat → List (List Int) → List (S58) → List (List Int) → Int → Int → Int → List Int → List Int → List Int → List Int → List Int → Int → List (List Int) → Option (Bool)
 | 0, _, _, _, _, _, _, _, _, _, _, _, _, _ => none
 | k + 1, x7, x9, x57, x58, x59, x583000, x583001, x583002, x583003, x583004, x583005, x583006, x583007 => if x59 < x58 then (if 0 ≤ x59 then (if x59 < (x57.length : Int) then (if x59 < (x9.length : Int) then ((dom_Dom_List.f k ((rd_T58 x9 x59).f0) ((rd_T58 x9 x59).f1) ((rd_T58 x9 x59).f2) ((rd_T58 x9 x59).f3) ((rd_T58 x9 x59).f4)).bind fun t598 => (jigsawlaw14_ClauseKeeps.l1 k x7 x9 (rd_L7 x57 x59) x57 x58 x59 t598 (t598.length : Int) 0 x583000 x583001 x583002 x583003 x583004 x583005 x583006 x583007)) else (none)) else (none)) else (none)) else (jigsawlaw14_ClauseKeeps.l2 k x9 x7 (x7.length : Int) 0 x583000 x583001 x583002 x583003 x583004 x583005 x583006 x583007)
def jigsawlaw14_ClauseKeeps.l1 : Nat → List (List Int) → List (S58) → List Int → List (List Int) → Int → Int → List Int → Int → Int → Int → List Int → List Int → List Int → List Int → List Int → Int → List (List Int) → Option (Bool)
 | 0, _, _, _, _, _, _, _, _, _, _, _, _, _, _, _, _, _ => none
 | k + 1, x7, x9, x12, x57, x58, x59, x68, x69, x70, x583000, x583001, x583002, x583003, x583004, x583005, x583006, x583007 => if x70 < x69 then (if 0 ≤ x70 then (if x70 < (x68.length : Int) then ((slices_Contains_int_int.f k x12 (rd x68 x70)).bind fun t602 => (if t602 = true then (jigsawlaw14_ClauseKeeps.l1 k x7 x9 x12 x57 x58 x59 x68 x69 (wrap64 (x70 + 1)) x583000 x583001 x583002 x583003 x583004 x583005 x583006 x583007) else (none))) else (none)) else (none)) else (jigsawlaw14_ClauseKeeps.l0 k x7 x9 x57 x58 (wrap64 (x59 + 1)) x583000 x583001 x583002 x583003 x583004 x583005 x583006 x583007)
def jigsawlaw14_ClauseKeeps.l2 : Nat → List (S58) → List (List Int) → Int → Int → Int → List Int → List Int → List Int → List Int → List Int → Int → List (List Int) → Option (Bool)
 | 0, _, _, _, _, _, _, _, _, _, _, _, _ => none
 | k + 1, x9, x80, x81, x82, x583000, x583001, x583002, x583003, x583004, x583005, x583006, x583007 => if x82 < x81 then (if 0 ≤ x82 then (if x82 < (x80.length : Int) then (jigsawlaw14_ClauseKeeps.l3 k x9 x80 x81 x82 (rd_L7 x80 x82) ((rd_L7 x80 x82).length : Int) 0 x583000 x583001 x583002 x583003 x583004 x583005 x583006 x583007) else (none)) else (none)) else ((clause_Filter.f k x583000 x583001 x583002 x583003 x583004 x583005 x583006 x583007 x9).bind fun bt607 => ((jigsawlaw14_wakes.f k).bind fun t611 => (if t611 = true then (if bt607.2 = true then ((jigsawlaw14_lists.f k bt607.1).bind fun t612 => ((jigsawlaw14_lists.f k x9).bind fun t615 => ((jigsawref10_Same.f k t612 t615).bind fun t618 => (some t618)))) else (none)) else (none))))
def jigsawlaw14_ClauseKeeps.l3 : Nat → List (S58) → List (List Int) → Int → Int → List Int → Int → Int → Int → List Int → List Int → List Int → List Int → List Int → Int → List (List Int) → Option (Bool)
 | 0, _, _, _, _, _, _, _, _, _, _, _, _, _, _, _ => none
 | k + 1, x9, x80, x81, x82, x86, x87, x88, x583000, x583001, x583002, x583003, x583004, x583005, x583006, x583007 => if x88 < x87 then (if 0 ≤ x88 then (if x88 < (x86.length : Int) then (if x88 < (x9.length : Int) then ((dom_Dom_Has.f ((rd_T58 x9 x88).f0) ((rd_T58 x9 x88).f1) ((rd_T58 x9 x88).f2) ((rd_T58 x9 x88).f3) ((rd_T58 x9 x88).f4) (rd x86 x88)).bind fun t606 => (if t606 = true then (jigsawlaw14_ClauseKeeps.l3 k x9 x80 x81 x82 x86 x87 (wrap64 (x88 + 1)) x583000 x583001 x583002 x583003 x583004 x583005 x583006 x583007) else (none))) else (none)) else (none)) else (none)) else (jigsawlaw14_ClauseKeeps.l2 k x9 x80 x81 (wrap64 (x82 + 1)) x583000 x583001 x583002 x583003 x583004 x583005 x583006 x583007)
end
def jigsawlaw14_ClauseKeeps.f (k : Nat) (a0_0 : Int) (l0_1 : List Int) (l0_2 : List Int) (l0_3 : List Int) (a0_4 : Int) (a0_5 : Int) (l0_6 : List (List Int)) (a1 : Int) : Option (Bool) := (jigsawlaw14_kind.f a1).bind fun t558 => ((jigsawref10_Make.f k a0_0 l0_1 l0_2 l0_3 a0_4 a0_5 l0_6 t558 6).bind fun bt559 => ((jigsawref10_Solutions.f k bt559.1 bt559.2.1 bt559.2.2.1 bt559.2.2.2.1 bt559.2.2.2.2.1 bt559.2.2.2.2.2.1 bt559.2.2.2.2.2.2.1 bt559.2.2.2.2.2.2.2.1 bt559.2.2.2.2.2.2.2.2 4000).bind fun bt583 => ((jigsawlaw14_doms.f k bt559.2.2.2.2.2.2.2.2).bind fun t587 => ((clause_Filter.f k bt559.1 bt559.2.1 bt559.2.2.1 bt559.2.2.2.1 bt559.2.2.2.2.1 bt559.2.2.2.2.2.1 bt559.2.2.2.2.2.2.1 bt559.2.2.2.2.2.2.2.1 t587).bind fun bt590 => (jigsawlaw14_ClauseKeeps.j0 k bt559.2.2.2.2.2.2.2.2 bt583.1 bt590.1 bt590.2 (!bt583.2) bt559.1 bt559.2.1 bt559.2.2.1 bt559.2.2.2.1 bt559.2.2.2.2.1 bt559.2.2.2.2.2.1 bt559.2.2.2.2.2.2.1 bt559.2.2.2.2.2.2.2.1)))))
theorem jigsawlaw14_ClauseKeeps.mono_l : ∀ k, (∀ y0 y1 y2 y3 y4 y5 y6 y7 y8 y9 y10 y11 y12, LeO (jigsawlaw14_ClauseKeeps.j0 k y0 y1 y2 y3 y4 y5 y6 y7 y8 y9 y10 y11 y12) (jigsawlaw14_ClauseKeeps.j0 (k + 1) y0 y1 y2 y3 y4 y5 y6 y7 y8 y9 y10 y11 y12)) ∧ (∀ y0 y1 y2 y3 y4 y5 y6 y7 y8 y9 y10 y11 y12, LeO (jigsawlaw14_ClauseKeeps.l0 k y0 y1 y2 y3 y4 y5 y6 y7 y8 y9 y10 y11 y12) (jigsawlaw14_ClauseKeeps.l0 (k + 1) y0 y1 y2 y3 y4 y5 y6 y7 y8 y9 y10 y11 y12)) ∧ (∀ y0 y1 y2 y3 y4 y5 y6 y7 y8 y9 y10 y11 y12 y13 y14 y15 y16, LeO (jigsawlaw14_ClauseKeeps.l1 k y0 y1 y2 y3 y4 y5 y6 y7 y8 y9 y10 y11 y12 y13 y14 y15 y16) (jigsawlaw14_ClauseKeeps.l1 (k + 1) y0 y1 y2 y3 y4 y5 y6 y7 y8 y9 y10 y11 y12 y13 y14 y15 y16)) ∧ (∀ y0 y1 y2 y3 y4 y5 y6 y7 y8 y9 y10 y11, LeO (jigsawlaw14_ClauseKeeps.l2 k y0 y1 y2 y3 y4 y5 y6 y7 y8 y9 y10 y11) (jigsawlaw14_ClauseKeeps.l2 (k + 1) y0 y1 y2 y3 y4 y5 y6 y7 y8 y9 y10 y11)) ∧ (∀ y0 y1 y2 y3 y4 y5 y6 y7 y8 y9 y10 y11 y12 y13 y14, LeO (jigsawlaw14_ClauseKeeps.l3 k y0 y1 y2 y3 y4 y5 y6 y7 y8 y9 y10 y11 y12 y13 y14) (jigsawlaw14_ClauseKeeps.l3 (k + 1) y0 y1 y2 y3 y4 y5 y6 y7 y8 y9 y10 y11 y12 y13 y14))
 | 0 => ⟨fun _ _ _ _ _ _ _ _ _ _ _ _ _ r h => by simp [jigsawlaw14_ClauseKeeps.j0] at h, fun _ _ _ _ _ _ _ _ _ _ _ _ _ r h => by simp [jigsawlaw14_ClauseKeeps.l0] at h, fun _ _ _ _ _ _ _ _ _ _ _ _ _ _ _ _ _ r h => by simp [jigsawlaw14_ClauseKeeps.l1] at h, fun _ _ _ _ _ _ _ _ _ _ _ _ r h => by simp [jigsawlaw14_ClauseKeeps.l2] at h, fun _ _ _ _ _ _ _ _ _ _ _ _ _ _ _ r h => by simp [jigsawlaw14_ClauseKeeps.l3] at h⟩
 | k + 1 => by
  obtain ⟨ih0, ih1, ih2, ih3, ih4⟩ := jigsawlaw14_ClauseKeeps.mono_l k
  refine ⟨?_, ?_, ?_, ?_, ?_⟩
  ·
   intro y0 y1 y2 y3 y4 y5 y6 y7 y8 y9 y10 y11 y12
   unfold jigsawlaw14_ClauseKeeps.j0
   have m0 := @clause_Filter.mono
   have m1 := @dom_Dom_List.mono
   have m2 := @jigsawlaw14_doms.mono
   have m3 := @jigsawlaw14_lists.mono
   have m4 := @jigsawlaw14_wakes.mono
   have m5 := @jigsawref10_Make.mono
   have m6 := @jigsawref10_Same.mono
   have m7 := @jigsawref10_Solutions.mono
   have m8 := @slices_Contains_int_int.mono
   exact leo_
  ·
   intro y0 y1 y2 y3 y4 y5 y6 y7 y8 y9 y10 y11 y12
   unfold jigsawlaw14_ClauseKeeps.l0
   have m0 := @clause_Filter.mono
   have m1 := @dom_Dom_List.mono
   have m2 := @jigsawlaw14_doms.mono
   have m3 := @jigsawlaw14_lists.mono
   have m4 := @jigsawlaw14_wakes.mono
   have m5 := @jigsawref10_Make.mono
   have m6 := @jigsawref10_Same.mono
   have m7 := @jigsawref10_Solutions.mono
   have m8 := @slices_Contains_int_int.mono
   exact leo_
  ·
   intro y0 y1 y2 y3 y4 y5 y6 y7 y8 y9 y10 y11 y12 y13 y14 y15 y16
   unfold jigsawlaw14_ClauseKeeps.l1
   have m0 := @clause_Filter.mono
   have m1 := @dom_Dom_List.mono
   have m2 := @jigsawlaw14_doms.mono
   have m3 := @jigsawlaw14_lists.mono
   have m4 := @jigsawlaw14_wakes.mono
   have m5 := @jigsawref10_Make.mono
   have m6 := @jigsawref10_Same.mono
   have m7 := @jigsawref10_Solutions.mono
   have m8 := @slices_Contains_int_int.mono
   exact leo_
  ·
   intro y0 y1 y2 y3 y4 y5 y6 y7 y8 y9 y10 y11
   unfold jigsawlaw14_ClauseKeeps.l2
   have m0 := @clause_Filter.mono
   have m1 := @dom_Dom_List.mono
   have m2 := @jigsawlaw14_doms.mono
   have m3 := @jigsawlaw14_lists.mono
   have m4 := @jigsawlaw14_wakes.mono
   have m5 := @jigsawref10_Make.mono
   have m6 := @jigsawref10_Same.mono
   have m7 := @jigsawref10_Solutions.mono
   have m8 := @slices_Contains_int_int.mono
   exact leo_
  ·
   intro y0 y1 y2 y3 y4 y5 y6 y7 y8 y9 y10 y11 y12 y13 y14
   unfold jigsawlaw14_ClauseKeeps.l3
   have m0 := @clause_Filter.mono
   have m1 := @dom_Dom_List.mono
   have m2 := @jigsawlaw14_doms.mono
   have m3 := @jigsawlaw14_lists.mono
   have m4 := @jigsawlaw14_wakes.mono
   have m5 := @jigsawref10_Make.mono
   have m6 := @jigsawref10_Same.mono
   have m7 := @jigsawref10_Solutions.mono
   have m8 := @slices_Contains_int_int.mono
   exact leo_
theorem jigsawlaw14_ClauseKeeps.mono : ∀ a0 a1 a2 a3 a4 a5 a6 a7 k, LeO (jigsawlaw14_ClauseKeeps.f k a0 a1 a2 a3 a4 a5 a6 a7) (jigsawlaw14_ClauseKeeps.f (k + 1) a0 a1 a2 a3 a4 a5 a6 a7) := by
 intro a0 a1 a2 a3 a4 a5 a6 a7 k
 obtain ⟨ih0, ih1, ih2, ih3, ih4⟩ := jigsawlaw14_ClauseKeeps.mono_l k
 unfold jigsawlaw14_ClauseKeeps.f
 have m0 := @clause_Filter.mono
 have m1 := @dom_Dom_List.mono
 have m2 := @jigsawlaw14_doms.mono
 have m3 := @jigsawlaw14_lists.mono
 have m4 := @jigsawlaw14_wakes.mono
 have m5 := @jigsawref10_Make.mono
 have m6 := @jigsawref10_Same.mono
 have m7 := @jigsawref10_Solutions.mono
 have m8 := @slices_Contains_int_int.mono
 exact leo_
def jigsawlaw14_ClauseKeeps.T1 : Bool × List (List Nat × List Nat) := (true, [([], []), ([], []), ([1], [1]), ([0, 2, 2], [0, 2]), ([3], [3]), ([4], [4]), ([4], [4]), ([], []), ([7, 5, 3, 0, 1, 2, 3, 4, 5, 7], [5, 7]), ([6, 8, 0, 1, 2, 3, 4, 5, 6, 7, 8], [6])])
def jigsawlaw14_ClauseKeeps.B1 : List Nat := [0, 0, 2, 7, 15, 31, 31, 0, 191, 511]
theorem jigsawlaw14_ClauseKeeps.tab1 : rtab .any (opsOf Tryz.f6 1) = jigsawlaw14_ClauseKeeps.T1 := by kernel_rfl
theorem jigsawlaw14_ClauseKeeps.bits1 : waitsOk jigsawlaw14_ClauseKeeps.T1.2 jigsawlaw14_ClauseKeeps.B1 = true := by kernel_rfl
def jigsawlaw14_ClauseKeeps.T3 : Bool × List (List Nat × List Nat) := (true, [([], []), ([], []), ([1], [1]), ([0, 2, 2], [0, 2]), ([3], [3]), ([4], [4]), ([4], [4]), ([5, 3, 0, 1, 2, 3, 4, 5], [5]), ([6, 7, 0, 1, 2, 3, 4, 5, 6, 7], [6])])
def jigsawlaw14_ClauseKeeps.B3 : List Nat := [0, 0, 2, 7, 15, 31, 31, 63, 255]
theorem jigsawlaw14_ClauseKeeps.tab3 : rtab .any (opsOf Tryz.f6 3) = jigsawlaw14_ClauseKeeps.T3 := by kernel_rfl
theorem jigsawlaw14_ClauseKeeps.bits3 : waitsOk jigsawlaw14_ClauseKeeps.T3.2 jigsawlaw14_ClauseKeeps.B3 = true := by kernel_rfl
set_option maxHeartbeats 8000000 in
set_option maxRecDepth 100000 in
theorem jigsawlaw14_ClauseKeeps.calls (k : Nat) (a0_0 : Int) (A0_1 : Option Addr) (c0_1 : Nat) (l0_1 : List Int) (A0_2 : Option Addr) (c0_2 : Nat) (l0_2 : List Int) (A0_3 : Option Addr) (c0_3 : Nat) (l0_3 : List Int) (a0_4 : Int) (a0_5 : Int) (A0_6 : Option Addr) (c0_6 : Nat) (l0_6 : List (List Int)) (a1 : Int) (r : Bool) (w : World) (hr0_1 : Kd.C (Kd.int .u8) w A0_1 l0_1.length l0_1) (hc0_1 : l0_1.length ≤ c0_1) (hr0_2 : Kd.C (Kd.int .u8) w A0_2 l0_2.length l0_2) (hc0_2 : l0_2.length ≤ c0_2) (hr0_3 : Kd.C (Kd.int .i8) w A0_3 l0_3.length l0_3) (hc0_3 : l0_3.length ≤ c0_3) (hr0_6 : Kd.C (Kd.slice 3 (Kd.int .i64)) w A0_6 l0_6.length l0_6) (hc0_6 : l0_6.length ≤ c0_6) (hrtab : Kd.C (Kd.int .u8) w (some ⟨0, 0, none⟩) tabL.length tabL) (h : jigsawlaw14_ClauseKeeps.f k a0_0 l0_1 l0_2 l0_3 a0_4 a0_5 l0_6 a1 = some r) :
  Calls Tryz.prog 6 #[.agg #[.int .u8 a0_0, .slice A0_1 l0_1.length c0_1, .slice A0_2 l0_2.length c0_2, .slice A0_3 l0_3.length c0_3, .int .i16 a0_4, .int .u8 a0_5, .slice A0_6 l0_6.length c0_6], .int .u8 a1] w fun e w' => e = .returned (.bool r) ∧ Below w.heap.size w w' := by
 have hu29 := Tryz.underlying29
 have hu32 := Tryz.underlying32
 have hu58 := Tryz.underlying58
 have HR0_1 := Aside0.mk hr0_1
 have HC0_1 := Aside0.mk hc0_1
 clear hr0_1 hc0_1
 have HR0_2 := Aside0.mk hr0_2
 have HC0_2 := Aside0.mk hc0_2
 clear hr0_2 hc0_2
 have HR0_3 := Aside0.mk hr0_3
 have HC0_3 := Aside0.mk hc0_3
 clear hr0_3 hc0_3
 have HR0_6 := Aside0.mk hr0_6
 have HC0_6 := Aside0.mk hc0_6
 clear hr0_6 hc0_6
 have HRtab := Aside0.mk hrtab
 clear hrtab
 have HB := Aside0.mk (Below.refl w.heap.size w)
 have H : ((jigsawlaw14_kind.f a1).bind fun t558 => ((jigsawref10_Make.f k a0_0 l0_1 l0_2 l0_3 a0_4 a0_5 l0_6 t558 6).bind fun bt559 => ((jigsawref10_Solutions.f k bt559.1 bt559.2.1 bt559.2.2.1 bt559.2.2.2.1 bt559.2.2.2.2.1 bt559.2.2.2.2.2.1 bt559.2.2.2.2.2.2.1 bt559.2.2.2.2.2.2.2.1 bt559.2.2.2.2.2.2.2.2 4000).bind fun bt583 => ((jigsawlaw14_doms.f k bt559.2.2.2.2.2.2.2.2).bind fun t587 => ((clause_Filter.f k bt559.1 bt559.2.1 bt559.2.2.1 bt559.2.2.2.1 bt559.2.2.2.2.1 bt559.2.2.2.2.2.1 bt559.2.2.2.2.2.2.1 bt559.2.2.2.2.2.2.2.1 t587).bind fun bt590 => (jigsawlaw14_ClauseKeeps.j0 k bt559.2.2.2.2.2.2.2.2 bt583.1 bt590.1 bt590.2 (!bt583.2) bt559.1 bt559.2.1 bt559.2.2.1 bt559.2.2.2.1 bt559.2.2.2.2.1 bt559.2.2.2.2.2.1 bt559.2.2.2.2.2.2.1 bt559.2.2.2.2.2.2.2.1)))))) = some r := h
 clear h
 replace H := Option.bind_eq_some_iff.mp H
 obtain ⟨t558, A30, H⟩ := H
 try dsimp only at H
 have A3 := Aside0.mk A30
 clear A30
 replace H := Option.bind_eq_some_iff.mp H
 obtain ⟨⟨t559, t560, t563, t566, t569, t572, t575, t576, t579⟩, A40, H⟩ := H
 try dsimp only at H
 have A4 := Aside0.mk A40
 clear A40
 replace H := Option.bind_eq_some_iff.mp H
 obtain ⟨⟨t583, t586⟩, A50, H⟩ := H
 try dsimp only at H
 have A5 := Aside0.mk A50
 clear A50
 replace H := Option.bind_eq_some_iff.mp H
 obtain ⟨t587, A60, H⟩ := H
 try dsimp only at H
 have A6 := Aside0.mk A60
 clear A60
 replace H := Option.bind_eq_some_iff.mp H
 obtain ⟨⟨t590, t593⟩, A70, H⟩ := H
 try dsimp only at H
 have A7 := Aside0.mk A70
 clear A70
 have HC8 := Aside0.mk H
 clear H
 go_enter Tryz.func6, Tryz.ntmps6
 try go_wp2_with (first | ((with_reducible refine gate_dst (N := 2) rfl ?_); (try (refine gate_guard (by rfl) ?_; dsimp only)); refine bxe_ (N := 2) (cs := #[.int .u8 a0_0, .slice A0_1 l0_1.length c0_1, .slice A0_2 l0_2.length c0_2, .slice A0_3 l0_3.length c0_3, .int .i16 a0_4, .int .u8 a0_5, .slice A0_6 l0_6.length c0_6]) (t := 29) ?_; intro gb557 hg w9 hbox hb; have BK557 := Aside0.mk (hbox); have GW557 := Aside0.mk (by rw [hg]; exact (below_size bel_) : w.heap.size ≤ gb557); have GE557 := GW557; replace HB := Aside0.mk (below_step bel_ hb); clear hb hbox hg))
 replace BK557 := Aside0.mk (blk_drew BK557.out)
 replace HB := Aside0.mk (below_drew1 HB.out)
 refine start_ (n := 10) (S := fun w' => w'.cell? ⟨gb557, 0, none⟩ = some (.int .u8 a0_0) ∧ w'.cell? ⟨gb557, 1, none⟩ = some (.slice A0_1 l0_1.length c0_1) ∧ w'.cell? ⟨gb557, 2, none⟩ = some (.slice A0_2 l0_2.length c0_2) ∧ w'.cell? ⟨gb557, 3, none⟩ = some (.slice A0_3 l0_3.length c0_3) ∧ w'.cell? ⟨gb557, 4, none⟩ = some (.int .i16 a0_4) ∧ w'.cell? ⟨gb557, 5, none⟩ = some (.int .u8 a0_5) ∧ w'.cell? ⟨gb557, 6, none⟩ = some (.slice A0_6 l0_6.length c0_6)) (ds := []) #[false, false, false, false, false, false, false, false, false, false] (by kernel_rfl) rfl rfl ⟨(blk_cell BK557.out 0).trans rfl, (blk_cell BK557.out 1).trans rfl, (blk_cell BK557.out 2).trans rfl, (blk_cell BK557.out 3).trans rfl, (blk_cell BK557.out 4).trans rfl, (blk_cell BK557.out 5).trans rfl, (blk_cell BK557.out 6).trans rfl⟩ (fun hHeld => ?_); refine with_tabW jigsawlaw14_ClauseKeeps.tab1 jigsawlaw14_ClauseKeeps.bits1 (fun HT_ HW_ => ?_)
 generalize w9.drew = w10 at BK557 HB hHeld ⊢
 refine pur_ (i := 1) (N := some 23) #[false, true, false, false, false, false, false, false, false, false] (any_of HT_.out (by kernel_rfl)) ?_
 refine take_ (i := 0) (N := some 22) (v := ?_) (a' := ?_) #[true, true, false, false, false, false, false, false, false, false] rfl rfl (take_ofW HT_.out HW_.out (by kernel_rfl)) (fun _ _ _ h => h) (Or.inl ⟨by rfl, ?_⟩) hHeld ?_ ?_
 rotate_left
 ·
  rintro w' ⟨s0, s1, s2, s3, s4, s5, s6⟩
  go_simp
  with_reducible rfl
 rotate_left
 ·
  simp only [Act.put, List.setIfInBounds_toArray, List.set_cons_zero, List.set_cons_succ, i64_w, i32_w]
  rfl
 refine join_ (σ := Value × Value × Value × Value × Value × Value × Value × Nat) 2 #[true, true, true, true, true, true, true, true, false, false] (fun s_ => [(24, .int .i64 t558), (25, .tuple #[.agg #[.int .i64 t559, s_.1, s_.2.1, s_.2.2.1, s_.2.2.2.1, s_.2.2.2.2.1, .int .i64 t575, s_.2.2.2.2.2.1], s_.2.2.2.2.2.2.1]), (5, .pointer (some ⟨s_.2.2.2.2.2.2.2, 0, none⟩)), (21, .tuple #[.agg #[.int .i64 t559, s_.1, s_.2.1, s_.2.2.1, s_.2.2.2.1, s_.2.2.2.2.1, .int .i64 t575, s_.2.2.2.2.2.1], s_.2.2.2.2.2.2.1]), (26, .agg #[.int .i64 t559, s_.1, s_.2.1, s_.2.2.1, s_.2.2.2.1, s_.2.2.2.2.1, .int .i64 t575, s_.2.2.2.2.2.1]), (27, s_.2.2.2.2.2.2.1)]) (fun s_ w' => (w'.cell? ⟨gb557, 0, none⟩ = some (.int .u8 a0_0) ∧ w'.cell? ⟨gb557, 1, none⟩ = some (.slice A0_1 l0_1.length c0_1) ∧ w'.cell? ⟨gb557, 2, none⟩ = some (.slice A0_2 l0_2.length c0_2) ∧ w'.cell? ⟨gb557, 3, none⟩ = some (.slice A0_3 l0_3.length c0_3) ∧ w'.cell? ⟨gb557, 4, none⟩ = some (.int .i16 a0_4) ∧ w'.cell? ⟨gb557, 5, none⟩ = some (.int .u8 a0_5) ∧ w'.cell? ⟨gb557, 6, none⟩ = some (.slice A0_6 l0_6.length c0_6)) ∧ (Kd.R (Kd.int .i64) 3 w' w.heap.size (fun k_ => some k_ ≠ (s_.2.1 : Value).ownBlock ∧ some k_ ≠ (s_.2.2.1 : Value).ownBlock ∧ some k_ ≠ (s_.2.2.2.1 : Value).ownBlock ∧ some k_ ≠ (s_.2.2.2.2.1 : Value).ownBlock) s_.1 t560) ∧ (Kd.R (Kd.int .i64) 3 w' w.heap.size (fun k_ => some k_ ≠ (s_.1 : Value).ownBlock ∧ some k_ ≠ (s_.2.2.1 : Value).ownBlock ∧ some k_ ≠ (s_.2.2.2.1 : Value).ownBlock ∧ some k_ ≠ (s_.2.2.2.2.1 : Value).ownBlock) s_.2.1 t563) ∧ (Kd.R (Kd.int .i64) 3 w' w.heap.size (fun k_ => some k_ ≠ (s_.1 : Value).ownBlock ∧ some k_ ≠ (s_.2.1 : Value).ownBlock ∧ some k_ ≠ (s_.2.2.2.1 : Value).ownBlock ∧ some k_ ≠ (s_.2.2.2.2.1 : Value).ownBlock) s_.2.2.1 t566) ∧ (Kd.R (Kd.int .i64) 3 w' w.heap.size (fun k_ => some k_ ≠ (s_.1 : Value).ownBlock ∧ some k_ ≠ (s_.2.1 : Value).ownBlock ∧ some k_ ≠ (s_.2.2.1 : Value).ownBlock ∧ some k_ ≠ (s_.2.2.2.2.1 : Value).ownBlock) s_.2.2.2.1 t569) ∧ (Kd.R (Kd.int .i64) 3 w' w.heap.size (fun k_ => some k_ ≠ (s_.1 : Value).ownBlock ∧ some k_ ≠ (s_.2.1 : Value).ownBlock ∧ some k_ ≠ (s_.2.2.1 : Value).ownBlock ∧ some k_ ≠ (s_.2.2.2.1 : Value).ownBlock) s_.2.2.2.2.1 t572) ∧ (Kd.N (Kd.slice 3 (Kd.int .i64)) 30 w' w.heap.size (fun k_ => some k_ ≠ (s_.1 : Value).ownBlock ∧ some k_ ≠ (s_.2.1 : Value).ownBlock ∧ some k_ ≠ (s_.2.2.1 : Value).ownBlock ∧ some k_ ≠ (s_.2.2.2.1 : Value).ownBlock ∧ some k_ ≠ (s_.2.2.2.2.1 : Value).ownBlock ∧ some k_ ≠ (s_.2.2.2.2.2.2.1 : Value).ownBlock ∧ k_ ≠ gb557 ∧ k_ ≠ s_.2.2.2.2.2.2.2) s_.2.2.2.2.2.1 t576) ∧ (Kd.N (Kd.slice 3 (Kd.int .i64)) 30 w' w.heap.size (fun k_ => some k_ ≠ (s_.1 : Value).ownBlock ∧ some k_ ≠ (s_.2.1 : Value).ownBlock ∧ some k_ ≠ (s_.2.2.1 : Value).ownBlock ∧ some k_ ≠ (s_.2.2.2.1 : Value).ownBlock ∧ some k_ ≠ (s_.2.2.2.2.1 : Value).ownBlock ∧ some k_ ≠ (s_.2.2.2.2.2.1 : Value).ownBlock ∧ k_ ≠ gb557 ∧ k_ ≠ s_.2.2.2.2.2.2.2) s_.2.2.2.2.2.2.1 t579) ∧ (w'.heap[gb557]? = some (.cells #[.int .u8 a0_0, .slice A0_1 l0_1.length c0_1, .slice A0_2 l0_2.length c0_2, .slice A0_3 l0_3.length c0_3, .int .i16 a0_4, .int .u8 a0_5, .slice A0_6 l0_6.length c0_6] 29 (0, 0))) ∧ (w'.heap[s_.2.2.2.2.2.2.2]? = some (.cells #[.int .i64 0, .slice none 0 0, .slice none 0 0, .slice none 0 0, .slice none 0 0, .slice none 0 0, .int .i64 0, .slice none 0 0] 32 (0, 0))) ∧ (w.heap.size ≤ s_.2.2.2.2.2.2.2) ∧ (w.heap.size ≤ s_.2.2.2.2.2.2.2) ∧ (gb557 ≠ s_.2.2.2.2.2.2.2) ∧ (s_.2.2.2.2.2.2.2 ≠ gb557) ∧ (Below w.heap.size w w')) ?_ ?_
 rotate_left
 ·
  intro hCont
  refine two_ (i := 2) (j := 7) (Ni := some 24) (Nj := some 5) #[true, true, true, false, false, false, false, false, false, false] #[true, true, false, false, false, false, false, true, false, false] rfl rfl rfl rfl (two_of HT_.out (by kernel_rfl)) (by decide) (by decide) (fun K hK => ?_) (fun K hK => ?_)
  ·
   skip
   refine goes_ Tryz.func8 (by kernel_rfl) rfl #[.int .u8 a1] (by rfl) rfl rfl ar_ ?_
   with_reducible refine (jigsawlaw14_kind.calls a1 t558 _ A3.out).mono ?_
   rintro e w' ⟨rfl, ⟨nd, rfl⟩⟩
   refine ⟨_, rfl, ?_⟩
   refine hK.out _ _ ⟨(blk_cell BK557.out 0).trans rfl, (blk_cell BK557.out 1).trans rfl, (blk_cell BK557.out 2).trans rfl, (blk_cell BK557.out 3).trans rfl, (blk_cell BK557.out 4).trans rfl, (blk_cell BK557.out 5).trans rfl, (blk_cell BK557.out 6).trans rfl⟩ (fun hHeld => ?_)
   clear hK K
   refine nor_ (N := some 24) ?_
   refine two_ (i := 3) (j := 7) (Ni := some 25) (Nj := some 5) #[true, true, true, true, false, false, false, false, false, false] #[true, true, true, false, false, false, false, true, false, false] rfl rfl rfl rfl (two_of HT_.out (by kernel_rfl)) (by decide) (by decide) (fun K hK => ?_) (fun K hK => ?_)
   ·
    skip
    refine goes_ Tryz.func7 (by kernel_rfl) rfl #[.agg #[.int .u8 a0_0, .slice A0_1 l0_1.length c0_1, .slice A0_2 l0_2.length c0_2, .slice A0_3 l0_3.length c0_3, .int .i16 a0_4, .int .u8 a0_5, .slice A0_6 l0_6.length c0_6], .int .i64 t558, .int .i64 6] (by rfl) rfl rfl ar_ ?_
    with_reducible refine (jigsawref10_Make.calls k a0_0 _ _ l0_1 _ _ l0_2 _ _ l0_3 a0_4 a0_5 _ _ l0_6 t558 6 t559 t560 t563 t566 t569 t572 t575 t576 t579 _ ?_ ?_ ?_ ?_ ?_ ?_ ?_ ?_ A4.out).mono ?_
    focus repeat (first | exact (Kd.C_below HR0_1.out bel_) | (with_reducible refine Kd.C_alloc ?_ _) | (with_reducible refine Kd.C_drewN ?_ _) | (with_reducible refine Kd.C_drew ?_))
    exact HC0_1.out
    focus repeat (first | exact (Kd.C_below HR0_2.out bel_) | (with_reducible refine Kd.C_alloc ?_ _) | (with_reducible refine Kd.C_drewN ?_ _) | (with_reducible refine Kd.C_drew ?_))
    exact HC0_2.out
    focus repeat (first | exact (Kd.C_below HR0_3.out bel_) | (with_reducible refine Kd.C_alloc ?_ _) | (with_reducible refine Kd.C_drewN ?_ _) | (with_reducible refine Kd.C_drew ?_))
    exact HC0_3.out
    focus repeat (first | exact (Kd.C_below HR0_6.out bel_) | (with_reducible refine Kd.C_alloc ?_ _) | (with_reducible refine Kd.C_drewN ?_ _) | (with_reducible refine Kd.C_drew ?_))
    exact HC0_6.out
    rintro e w11 ⟨v561, v564, v567, v570, v573, v577, v580, rfl, ho0, ho1, ho2, ho3, ho4, ho5, ho6, hb⟩
    refine ⟨_, rfl, ?_⟩
    have HO562 := Aside0.mk (Kd.R_lower ho0 (below_size bel_))
    have HO565 := Aside0.mk (Kd.R_lower ho1 (below_size bel_))
    have HO568 := Aside0.mk (Kd.R_lower ho2 (below_size bel_))
    have HO571 := Aside0.mk (Kd.R_lower ho3 (below_size bel_))
    have HO574 := Aside0.mk (Kd.R_lower ho4 (below_size bel_))
    have HO578 := Aside0.mk (Kd.N_lower (Kd.N_mono (ok' := fun k_ => some k_ ≠ (v561 : Value).ownBlock ∧ some k_ ≠ (v564 : Value).ownBlock ∧ some k_ ≠ (v567 : Value).ownBlock ∧ some k_ ≠ (v570 : Value).ownBlock ∧ some k_ ≠ (v573 : Value).ownBlock ∧ some k_ ≠ (v580 : Value).ownBlock ∧ k_ ≠ gb557) (Kd.S_N (Kd.S_bound ho5)) (fun k_ hk_ => ⟨hk_.1.1, hk_.1.2.1, hk_.1.2.2.1, hk_.1.2.2.2.1, hk_.1.2.2.2.2.1, hk_.1.2.2.2.2.2, (Kd.freshB (bk_ BK557.out) k_ hk_.2.1)⟩)) (below_size bel_))
    have HO581 := Aside0.mk (Kd.N_lower (Kd.N_mono (ok' := fun k_ => some k_ ≠ (v561 : Value).ownBlock ∧ some k_ ≠ (v564 : Value).ownBlock ∧ some k_ ≠ (v567 : Value).ownBlock ∧ some k_ ≠ (v570 : Value).ownBlock ∧ some k_ ≠ (v573 : Value).ownBlock ∧ some k_ ≠ (v577 : Value).ownBlock ∧ k_ ≠ gb557) (Kd.S_N (Kd.S_bound ho6)) (fun k_ hk_ => ⟨hk_.1.1, hk_.1.2.1, hk_.1.2.2.1, hk_.1.2.2.2.1, hk_.1.2.2.2.2.1, hk_.1.2.2.2.2.2, (Kd.freshB (bk_ BK557.out) k_ hk_.2.1)⟩)) (below_size bel_))
    replace BK557 := Aside0.mk (blk_below (bk_ BK557.out) hb)
    replace HB := Aside0.mk (below_step bel_ hb)
    clear hb ho0 ho1 ho2 ho3 ho4 ho5 ho6
    refine hK.out _ _ ⟨(blk_cell BK557.out 0).trans rfl, (blk_cell BK557.out 1).trans rfl, (blk_cell BK557.out 2).trans rfl, (blk_cell BK557.out 3).trans rfl, (blk_cell BK557.out 4).trans rfl, (blk_cell BK557.out 5).trans rfl, (blk_cell BK557.out 6).trans rfl⟩ (fun hHeld => ?_)
    clear hK K
    refine nor_ (N := some 25) ?_
    refine pur_ (i := 4) (N := some 21) #[true, true, true, true, true, false, false, false, false, false] (any_of HT_.out (by kernel_rfl)) ?_
    refine pur_ (i := 5) (N := some 26) #[true, true, true, true, true, true, false, false, false, false] (any_of HT_.out (by kernel_rfl)) ?_
    refine pur_ (i := 6) (N := some 27) #[true, true, true, true, true, true, true, false, false, false] (any_of HT_.out (by kernel_rfl)) ?_
    refine one_ (i := 7) (N := some 5) #[true, true, true, true, true, true, true, true, false, false] rfl rfl (one_of HT_.out (by kernel_rfl)) (by decide) (fun K hK => ?_)
    refine box_step ?hg (N := 5) ?hd (cs := #[.int .i64 0, .slice none 0 0, .slice none 0 0, .slice none 0 0, .slice none 0 0, .slice none 0 0, .int .i64 0, .slice none 0 0]) (t := 32) ?hr ?_; (case hd => rfl); (case hg => rfl); (case hr => first | (go_simp; done) | (go_simp; rfl))
    intro gb582 hg w12 hbox hb
    replace HO562 := Aside0.mk (Kd.R_below (vR_ HO562.out) hb)
    replace HO565 := Aside0.mk (Kd.R_below (vR_ HO565.out) hb)
    replace HO568 := Aside0.mk (Kd.R_below (vR_ HO568.out) hb)
    replace HO571 := Aside0.mk (Kd.R_below (vR_ HO571.out) hb)
    replace HO574 := Aside0.mk (Kd.R_below (vR_ HO574.out) hb)
    replace HO578 := Aside0.mk (Kd.N_below (Kd.N_elderB (vN_ HO578.out) gb582 (Nat.le_of_eq hg.symm)) hb)
    replace HO581 := Aside0.mk (Kd.N_below (Kd.N_elderB (vN_ HO581.out) gb582 (Nat.le_of_eq hg.symm)) hb)
    have BK582 := Aside0.mk (hbox)
    have GW582 := Aside0.mk ((by rw [hg]; exact (below_size bel_) : w.heap.size ≤ gb582))
    have GE582 := Aside0.mk ((by rw [hg]; exact (below_size bel_) : w.heap.size ≤ gb582))
    replace HB := Aside0.mk (below_step bel_ hb)
    have NB557_582 := Aside0.mk ((by rw [hg]; exact Nat.ne_of_lt (blk_lt (bk_ BK557.out)) : gb557 ≠ gb582))
    have NB582_557 := Aside0.mk ((by rw [hg]; exact Nat.ne_of_gt (blk_lt (bk_ BK557.out)) : gb582 ≠ gb557))
    replace BK557 := Aside0.mk (blk_below (bk_ BK557.out) hb)
    clear hb hbox hg
    refine hK.out _ _ ⟨(blk_cell BK557.out 0).trans rfl, (blk_cell BK557.out 1).trans rfl, (blk_cell BK557.out 2).trans rfl, (blk_cell BK557.out 3).trans rfl, (blk_cell BK557.out 4).trans rfl, (blk_cell BK557.out 5).trans rfl, (blk_cell BK557.out 6).trans rfl⟩ (fun hHeld => ?_)
    clear hK K
    refine nor_ (N := some 5) ?_
    exact norm_ (by simp only [putAll, Act.put, List.setIfInBounds_toArray, List.set_cons_zero, List.set_cons_succ]) (hCont (v561, v564, v567, v570, v573, v577, v580, gb582) _ ⟨hHeld, (vR_ HO562.out), (vR_ HO565.out), (vR_ HO568.out), (vR_ HO571.out), (vR_ HO574.out), (by refine vN_ ?_; exact Kd.N_mono HO578.out (fun _ hk => ⟨hk.1.1, ⟨hk.1.2.1, ⟨hk.1.2.2.1, ⟨hk.1.2.2.2.1, ⟨hk.1.2.2.2.2.1, ⟨hk.1.2.2.2.2.2.1, ⟨hk.1.2.2.2.2.2.2, hk.2⟩⟩⟩⟩⟩⟩⟩)), (by refine vN_ ?_; exact Kd.N_mono HO581.out (fun _ hk => ⟨hk.1.1, ⟨hk.1.2.1, ⟨hk.1.2.2.1, ⟨hk.1.2.2.2.1, ⟨hk.1.2.2.2.2.1, ⟨hk.1.2.2.2.2.2.1, ⟨hk.1.2.2.2.2.2.2, hk.2⟩⟩⟩⟩⟩⟩⟩)), (bk_ BK557.out), (bk_ BK582.out), GW582.out, GE582.out, NB557_582.out, NB582_557.out, bel_⟩)
   ·
    skip
    refine box_step ?hg (N := 5) ?hd (cs := #[.int .i64 0, .slice none 0 0, .slice none 0 0, .slice none 0 0, .slice none 0 0, .slice none 0 0, .int .i64 0, .slice none 0 0]) (t := 32) ?hr ?_; (case hd => rfl); (case hg => rfl); (case hr => first | (go_simp; done) | (go_simp; rfl))
    intro gb582 hg w11 hbox hb
    have BK582 := Aside0.mk (hbox)
    have GW582 := Aside0.mk ((by rw [hg]; exact (below_size bel_) : w.heap.size ≤ gb582))
    have GE582 := Aside0.mk ((by rw [hg]; exact (below_size bel_) : w.heap.size ≤ gb582))
    replace HB := Aside0.mk (below_step bel_ hb)
    have NB557_582 := Aside0.mk ((by rw [hg]; exact Nat.ne_of_lt (blk_lt (bk_ BK557.out)) : gb557 ≠ gb582))
    have NB582_557 := Aside0.mk ((by rw [hg]; exact Nat.ne_of_gt (blk_lt (bk_ BK557.out)) : gb582 ≠ gb557))
    replace BK557 := Aside0.mk (blk_below (bk_ BK557.out) hb)
    clear hb hbox hg
    refine hK.out _ _ ⟨(blk_cell BK557.out 0).trans rfl, (blk_cell BK557.out 1).trans rfl, (blk_cell BK557.out 2).trans rfl, (blk_cell BK557.out 3).trans rfl, (blk_cell BK557.out 4).trans rfl, (blk_cell BK557.out 5).trans rfl, (blk_cell BK557.out 6).trans rfl⟩ (fun hHeld => ?_)
    clear hK K
    refine nor_ (N := some 5) ?_
    refine one_ (i := 3) (N := some 25) #[true, true, true, true, false, false, false, true, false, false] rfl rfl (one_of HT_.out (by kernel_rfl)) (by decide) (fun K hK => ?_)
    refine goes_ Tryz.func7 (by kernel_rfl) rfl #[.agg #[.int .u8 a0_0, .slice A0_1 l0_1.length c0_1, .slice A0_2 l0_2.length c0_2, .slice A0_3 l0_3.length c0_3, .int .i16 a0_4, .int .u8 a0_5, .slice A0_6 l0_6.length c0_6], .int .i64 t558, .int .i64 6] (by rfl) rfl rfl ar_ ?_
    with_reducible refine (jigsawref10_Make.calls k a0_0 _ _ l0_1 _ _ l0_2 _ _ l0_3 a0_4 a0_5 _ _ l0_6 t558 6 t559 t560 t563 t566 t569 t572 t575 t576 t579 _ ?_ ?_ ?_ ?_ ?_ ?_ ?_ ?_ A4.out).mono ?_
    exact ca_ ((Kd.C_below HR0_1.out HB.out))
    exact HC0_1.out
    exact ca_ ((Kd.C_below HR0_2.out HB.out))
    exact HC0_2.out
    exact ca_ ((Kd.C_below HR0_3.out HB.out))
    exact HC0_3.out
    exact ca_ ((Kd.C_below HR0_6.out HB.out))
    exact HC0_6.out
    rintro e w12 ⟨v561, v564, v567, v570, v573, v577, v580, rfl, ho0, ho1, ho2, ho3, ho4, ho5, ho6, hb⟩
    refine ⟨_, rfl, ?_⟩
    have HO562 := Aside0.mk (Kd.R_lower ho0 (below_size bel_))
    have HO565 := Aside0.mk (Kd.R_lower ho1 (below_size bel_))
    have HO568 := Aside0.mk (Kd.R_lower ho2 (below_size bel_))
    have HO571 := Aside0.mk (Kd.R_lower ho3 (below_size bel_))
    have HO574 := Aside0.mk (Kd.R_lower ho4 (below_size bel_))
    have HO578 := Aside0.mk (Kd.N_lower (Kd.N_mono (ok' := fun k_ => some k_ ≠ (v561 : Value).ownBlock ∧ some k_ ≠ (v564 : Value).ownBlock ∧ some k_ ≠ (v567 : Value).ownBlock ∧ some k_ ≠ (v570 : Value).ownBlock ∧ some k_ ≠ (v573 : Value).ownBlock ∧ some k_ ≠ (v580 : Value).ownBlock ∧ k_ ≠ gb557 ∧ k_ ≠ gb582) (Kd.S_N (Kd.S_bound ho5)) (fun k_ hk_ => ⟨hk_.1.1, hk_.1.2.1, hk_.1.2.2.1, hk_.1.2.2.2.1, hk_.1.2.2.2.2.1, hk_.1.2.2.2.2.2, (Kd.freshB (bk_ BK557.out) k_ hk_.2.1), (Kd.freshB (bk_ BK582.out) k_ hk_.2.1)⟩)) (below_size bel_))
    have HO581 := Aside0.mk (Kd.N_lower (Kd.N_mono (ok' := fun k_ => some k_ ≠ (v561 : Value).ownBlock ∧ some k_ ≠ (v564 : Value).ownBlock ∧ some k_ ≠ (v567 : Value).ownBlock ∧ some k_ ≠ (v570 : Value).ownBlock ∧ some k_ ≠ (v573 : Value).ownBlock ∧ some k_ ≠ (v577 : Value).ownBlock ∧ k_ ≠ gb557 ∧ k_ ≠ gb582) (Kd.S_N (Kd.S_bound ho6)) (fun k_ hk_ => ⟨hk_.1.1, hk_.1.2.1, hk_.1.2.2.1, hk_.1.2.2.2.1, hk_.1.2.2.2.2.1, hk_.1.2.2.2.2.2, (Kd.freshB (bk_ BK557.out) k_ hk_.2.1), (Kd.freshB (bk_ BK582.out) k_ hk_.2.1)⟩)) (below_size bel_))
    replace BK557 := Aside0.mk (blk_below (bk_ BK557.out) hb)
    replace BK582 := Aside0.mk (blk_below (bk_ BK582.out) hb)
    replace HB := Aside0.mk (below_step bel_ hb)
    clear hb ho0 ho1 ho2 ho3 ho4 ho5 ho6
    refine hK.out _ _ ⟨(blk_cell BK557.out 0).trans rfl, (blk_cell BK557.out 1).trans rfl, (blk_cell BK557.out 2).trans rfl, (blk_cell BK557.out 3).trans rfl, (blk_cell BK557.out 4).trans rfl, (blk_cell BK557.out 5).trans rfl, (blk_cell BK557.out 6).trans rfl⟩ (fun hHeld => ?_)
    clear hK K
    refine nor_ (N := some 25) ?_
    refine pur_ (i := 4) (N := some 21) #[true, true, true, true, true, false, false, true, false, false] (any_of HT_.out (by kernel_rfl)) ?_
    refine pur_ (i := 5) (N := some 26) #[true, true, true, true, true, true, false, true, false, false] (any_of HT_.out (by kernel_rfl)) ?_
    refine pur_ (i := 6) (N := some 27) #[true, true, true, true, true, true, true, true, false, false] (any_of HT_.out (by kernel_rfl)) ?_
    exact norm_ (by simp only [putAll, Act.put, List.setIfInBounds_toArray, List.set_cons_zero, List.set_cons_succ]) (hCont (v561, v564, v567, v570, v573, v577, v580, gb582) _ ⟨hHeld, (vR_ HO562.out), (vR_ HO565.out), (vR_ HO568.out), (vR_ HO571.out), (vR_ HO574.out), (vN_ HO578.out), (vN_ HO581.out), (bk_ BK557.out), (bk_ BK582.out), GW582.out, GE582.out, NB557_582.out, NB582_557.out, bel_⟩)
  ·
   skip
   refine box_step ?hg (N := 5) ?hd (cs := #[.int .i64 0, .slice none 0 0, .slice none 0 0, .slice none 0 0, .slice none 0 0, .slice none 0 0, .int .i64 0, .slice none 0 0]) (t := 32) ?hr ?_; (case hd => rfl); (case hg => rfl); (case hr => first | (go_simp; done) | (go_simp; rfl))
   intro gb582 hg w11 hbox hb
   have BK582 := Aside0.mk (hbox)
   have GW582 := Aside0.mk ((by rw [hg]; exact (below_size bel_) : w.heap.size ≤ gb582))
   have GE582 := Aside0.mk ((by rw [hg]; exact (below_size bel_) : w.heap.size ≤ gb582))
   replace HB := Aside0.mk (below_step bel_ hb)
   have NB557_582 := Aside0.mk ((by rw [hg]; exact Nat.ne_of_lt (blk_lt (bk_ BK557.out)) : gb557 ≠ gb582))
   have NB582_557 := Aside0.mk ((by rw [hg]; exact Nat.ne_of_gt (blk_lt (bk_ BK557.out)) : gb582 ≠ gb557))
   replace BK557 := Aside0.mk (blk_below (bk_ BK557.out) hb)
   clear hb hbox hg
   refine hK.out _ _ ⟨(blk_cell BK557.out 0).trans rfl, (blk_cell BK557.out 1).trans rfl, (blk_cell BK557.out 2).trans rfl, (blk_cell BK557.out 3).trans rfl, (blk_cell BK557.out 4).trans rfl, (blk_cell BK557.out 5).trans rfl, (blk_cell BK557.out 6).trans rfl⟩ (fun hHeld => ?_)
   clear hK K
   refine nor_ (N := some 5) ?_
   refine one_ (i := 2) (N := some 24) #[true, true, true, false, false, false, false, true, false, false] rfl rfl (one_of HT_.out (by kernel_rfl)) (by decide) (fun K hK => ?_)
   refine goes_ Tryz.func8 (by kernel_rfl) rfl #[.int .u8 a1] (by rfl) rfl rfl ar_ ?_
   with_reducible refine (jigsawlaw14_kind.calls a1 t558 _ A3.out).mono ?_
   rintro e w' ⟨rfl, ⟨nd, rfl⟩⟩
   refine ⟨_, rfl, ?_⟩
   refine hK.out _ _ ⟨(blk_cell BK557.out 0).trans rfl, (blk_cell BK557.out 1).trans rfl, (blk_cell BK557.out 2).trans rfl, (blk_cell BK557.out 3).trans rfl, (blk_cell BK557.out 4).trans rfl, (blk_cell BK557.out 5).trans rfl, (blk_cell BK557.out 6).trans rfl⟩ (fun hHeld => ?_)
   clear hK K
   refine nor_ (N := some 24) ?_
   refine one_ (i := 3) (N := some 25) #[true, true, true, true, false, false, false, true, false, false] rfl rfl (one_of HT_.out (by kernel_rfl)) (by decide) (fun K hK => ?_)
   refine goes_ Tryz.func7 (by kernel_rfl) rfl #[.agg #[.int .u8 a0_0, .slice A0_1 l0_1.length c0_1, .slice A0_2 l0_2.length c0_2, .slice A0_3 l0_3.length c0_3, .int .i16 a0_4, .int .u8 a0_5, .slice A0_6 l0_6.length c0_6], .int .i64 t558, .int .i64 6] (by rfl) rfl rfl ar_ ?_
   with_reducible refine (jigsawref10_Make.calls k a0_0 _ _ l0_1 _ _ l0_2 _ _ l0_3 a0_4 a0_5 _ _ l0_6 t558 6 t559 t560 t563 t566 t569 t572 t575 t576 t579 _ ?_ ?_ ?_ ?_ ?_ ?_ ?_ ?_ A4.out).mono ?_
   focus repeat (first | exact (Kd.C_below HR0_1.out bel_) | (with_reducible refine Kd.C_alloc ?_ _) | (with_reducible refine Kd.C_drewN ?_ _) | (with_reducible refine Kd.C_drew ?_))
   exact HC0_1.out
   focus repeat (first | exact (Kd.C_below HR0_2.out bel_) | (with_reducible refine Kd.C_alloc ?_ _) | (with_reducible refine Kd.C_drewN ?_ _) | (with_reducible refine Kd.C_drew ?_))
   exact HC0_2.out
   focus repeat (first | exact (Kd.C_below HR0_3.out bel_) | (with_reducible refine Kd.C_alloc ?_ _) | (with_reducible refine Kd.C_drewN ?_ _) | (with_reducible refine Kd.C_drew ?_))
   exact HC0_3.out
   focus repeat (first | exact (Kd.C_below HR0_6.out bel_) | (with_reducible refine Kd.C_alloc ?_ _) | (with_reducible refine Kd.C_drewN ?_ _) | (with_reducible refine Kd.C_drew ?_))
   exact HC0_6.out
   rintro e w12 ⟨v561, v564, v567, v570, v573, v577, v580, rfl, ho0, ho1, ho2, ho3, ho4, ho5, ho6, hb⟩
   refine ⟨_, rfl, ?_⟩
   have HO562 := Aside0.mk (Kd.R_lower ho0 (below_size bel_))
   have HO565 := Aside0.mk (Kd.R_lower ho1 (below_size bel_))
   have HO568 := Aside0.mk (Kd.R_lower ho2 (below_size bel_))
   have HO571 := Aside0.mk (Kd.R_lower ho3 (below_size bel_))
   have HO574 := Aside0.mk (Kd.R_lower ho4 (below_size bel_))
   have HO578 := Aside0.mk (Kd.N_lower (Kd.N_mono (ok' := fun k_ => some k_ ≠ (v561 : Value).ownBlock ∧ some k_ ≠ (v564 : Value).ownBlock ∧ some k_ ≠ (v567 : Value).ownBlock ∧ some k_ ≠ (v570 : Value).ownBlock ∧ some k_ ≠ (v573 : Value).ownBlock ∧ some k_ ≠ (v580 : Value).ownBlock ∧ k_ ≠ gb557 ∧ k_ ≠ gb582) (Kd.S_N (Kd.S_bound ho5)) (fun k_ hk_ => ⟨hk_.1.1, hk_.1.2.1, hk_.1.2.2.1, hk_.1.2.2.2.1, hk_.1.2.2.2.2.1, hk_.1.2.2.2.2.2, (Kd.freshB (bk_ BK557.out) k_ hk_.2.1), (Kd.freshB (bk_ BK582.out) k_ hk_.2.1)⟩)) (below_size bel_))
   have HO581 := Aside0.mk (Kd.N_lower (Kd.N_mono (ok' := fun k_ => some k_ ≠ (v561 : Value).ownBlock ∧ some k_ ≠ (v564 : Value).ownBlock ∧ some k_ ≠ (v567 : Value).ownBlock ∧ some k_ ≠ (v570 : Value).ownBlock ∧ some k_ ≠ (v573 : Value).ownBlock ∧ some k_ ≠ (v577 : Value).ownBlock ∧ k_ ≠ gb557 ∧ k_ ≠ gb582) (Kd.S_N (Kd.S_bound ho6)) (fun k_ hk_ => ⟨hk_.1.1, hk_.1.2.1, hk_.1.2.2.1, hk_.1.2.2.2.1, hk_.1.2.2.2.2.1, hk_.1.2.2.2.2.2, (Kd.freshB (bk_ BK557.out) k_ hk_.2.1), (Kd.freshB (bk_ BK582.out) k_ hk_.2.1)⟩)) (below_size bel_))
   replace BK557 := Aside0.mk (blk_below (bk_ BK557.out) hb)
   replace BK582 := Aside0.mk (blk_below (bk_ BK582.out) hb)
   replace HB := Aside0.mk (below_step bel_ hb)
   clear hb ho0 ho1 ho2 ho3 ho4 ho5 ho6
   refine hK.out _ _ ⟨(blk_cell BK557.out 0).trans rfl, (blk_cell BK557.out 1).trans rfl, (blk_cell BK557.out 2).trans rfl, (blk_cell BK557.out 3).trans rfl, (blk_cell BK557.out 4).trans rfl, (blk_cell BK557.out 5).trans rfl, (blk_cell BK557.out 6).trans rfl⟩ (fun hHeld => ?_)
   clear hK K
   refine nor_ (N := some 25) ?_
   refine pur_ (i := 4) (N := some 21) #[true, true, true, true, true, false, false, true, false, false] (any_of HT_.out (by kernel_rfl)) ?_
   refine pur_ (i := 5) (N := some 26) #[true, true, true, true, true, true, false, true, false, false] (any_of HT_.out (by kernel_rfl)) ?_
   refine pur_ (i := 6) (N := some 27) #[true, true, true, true, true, true, true, true, false, false] (any_of HT_.out (by kernel_rfl)) ?_
   exact norm_ (by simp only [putAll, Act.put, List.setIfInBounds_toArray, List.set_cons_zero, List.set_cons_succ]) (hCont (v561, v564, v567, v570, v573, v577, v580, gb582) _ ⟨hHeld, (vR_ HO562.out), (vR_ HO565.out), (vR_ HO568.out), (vR_ HO571.out), (vR_ HO574.out), (vN_ HO578.out), (vN_ HO581.out), (bk_ BK557.out), (bk_ BK582.out), GW582.out, GE582.out, NB557_582.out, NB582_557.out, bel_⟩)
 rintro ⟨v561, v564, v567, v570, v573, v577, v580, gb582⟩ w13 ⟨hS_, h0_, h1_, h2_, h3_, h4_, h5_, h6_, h7_, h8_, h9_, h10_, h11_, h12_, h13_⟩
 have HO562 : Aside0 (Kd.R (Kd.int .i64) 3 w13 w.heap.size (fun k_ => some k_ ≠ (v564 : Value).ownBlock ∧ some k_ ≠ (v567 : Value).ownBlock ∧ some k_ ≠ (v570 : Value).ownBlock ∧ some k_ ≠ (v573 : Value).ownBlock) v561 t560) := ⟨h0_⟩
 have HO565 : Aside0 (Kd.R (Kd.int .i64) 3 w13 w.heap.size (fun k_ => some k_ ≠ (v561 : Value).ownBlock ∧ some k_ ≠ (v567 : Value).ownBlock ∧ some k_ ≠ (v570 : Value).ownBlock ∧ some k_ ≠ (v573 : Value).ownBlock) v564 t563) := ⟨h1_⟩
 have HO568 : Aside0 (Kd.R (Kd.int .i64) 3 w13 w.heap.size (fun k_ => some k_ ≠ (v561 : Value).ownBlock ∧ some k_ ≠ (v564 : Value).ownBlock ∧ some k_ ≠ (v570 : Value).ownBlock ∧ some k_ ≠ (v573 : Value).ownBlock) v567 t566) := ⟨h2_⟩
 have HO571 : Aside0 (Kd.R (Kd.int .i64) 3 w13 w.heap.size (fun k_ => some k_ ≠ (v561 : Value).ownBlock ∧ some k_ ≠ (v564 : Value).ownBlock ∧ some k_ ≠ (v567 : Value).ownBlock ∧ some k_ ≠ (v573 : Value).ownBlock) v570 t569) := ⟨h3_⟩
 have HO574 : Aside0 (Kd.R (Kd.int .i64) 3 w13 w.heap.size (fun k_ => some k_ ≠ (v561 : Value).ownBlock ∧ some k_ ≠ (v564 : Value).ownBlock ∧ some k_ ≠ (v567 : Value).ownBlock ∧ some k_ ≠ (v570 : Value).ownBlock) v573 t572) := ⟨h4_⟩
 have HO578 : Aside0 (Kd.N (Kd.slice 3 (Kd.int .i64)) 30 w13 w.heap.size (fun k_ => some k_ ≠ (v561 : Value).ownBlock ∧ some k_ ≠ (v564 : Value).ownBlock ∧ some k_ ≠ (v567 : Value).ownBlock ∧ some k_ ≠ (v570 : Value).ownBlock ∧ some k_ ≠ (v573 : Value).ownBlock ∧ some k_ ≠ (v580 : Value).ownBlock ∧ k_ ≠ gb557 ∧ k_ ≠ gb582) v577 t576) := ⟨h5_⟩
 have HO581 : Aside0 (Kd.N (Kd.slice 3 (Kd.int .i64)) 30 w13 w.heap.size (fun k_ => some k_ ≠ (v561 : Value).ownBlock ∧ some k_ ≠ (v564 : Value).ownBlock ∧ some k_ ≠ (v567 : Value).ownBlock ∧ some k_ ≠ (v570 : Value).ownBlock ∧ some k_ ≠ (v573 : Value).ownBlock ∧ some k_ ≠ (v577 : Value).ownBlock ∧ k_ ≠ gb557 ∧ k_ ≠ gb582) v580 t579) := ⟨h6_⟩
 replace BK557 : Aside0 (w13.heap[gb557]? = some (.cells #[.int .u8 a0_0, .slice A0_1 l0_1.length c0_1, .slice A0_2 l0_2.length c0_2, .slice A0_3 l0_3.length c0_3, .int .i16 a0_4, .int .u8 a0_5, .slice A0_6 l0_6.length c0_6] 29 (0, 0))) := ⟨h7_⟩
 have BK582 : Aside0 (w13.heap[gb582]? = some (.cells #[.int .i64 0, .slice none 0 0, .slice none 0 0, .slice none 0 0, .slice none 0 0, .slice none 0 0, .int .i64 0, .slice none 0 0] 32 (0, 0))) := ⟨h8_⟩
 have GW582 : Aside0 (w.heap.size ≤ gb582) := ⟨h9_⟩
 have GE582 : Aside0 (w.heap.size ≤ gb582) := ⟨h10_⟩
 have NB557_582 : Aside0 (gb557 ≠ gb582) := ⟨h11_⟩
 have NB582_557 : Aside0 (gb582 ≠ gb557) := ⟨h12_⟩
 replace HB : Aside0 (Below w.heap.size w w13) := ⟨h13_⟩
 clear h0_ h1_ h2_ h3_ h4_ h5_ h6_ h7_ h8_ h9_ h10_ h11_ h12_ h13_
 have hHeld : w13.cell? ⟨gb557, 0, none⟩ = some (.int .u8 a0_0) ∧ w13.cell? ⟨gb557, 1, none⟩ = some (.slice A0_1 l0_1.length c0_1) ∧ w13.cell? ⟨gb557, 2, none⟩ = some (.slice A0_2 l0_2.length c0_2) ∧ w13.cell? ⟨gb557, 3, none⟩ = some (.slice A0_3 l0_3.length c0_3) ∧ w13.cell? ⟨gb557, 4, none⟩ = some (.int .i16 a0_4) ∧ w13.cell? ⟨gb557, 5, none⟩ = some (.int .u8 a0_5) ∧ w13.cell? ⟨gb557, 6, none⟩ = some (.slice A0_6 l0_6.length c0_6) := hS_
 obtain ⟨Ao15, co15, eo15⟩ := Kd.R_slice HO562.out
 (first | subst eo15 | (injection eo15 with f1_ f2_ f3_; have f4_ := f1_.symm; have f5_ := f3_.symm; clear f1_ f2_ f3_; subst f4_; subst f5_))
 obtain ⟨Ao17, co17, eo17⟩ := Kd.R_slice HO565.out
 (first | subst eo17 | (injection eo17 with f1_ f2_ f3_; have f4_ := f1_.symm; have f5_ := f3_.symm; clear f1_ f2_ f3_; subst f4_; subst f5_))
 obtain ⟨Ao19, co19, eo19⟩ := Kd.R_slice HO568.out
 (first | subst eo19 | (injection eo19 with f1_ f2_ f3_; have f4_ := f1_.symm; have f5_ := f3_.symm; clear f1_ f2_ f3_; subst f4_; subst f5_))
 obtain ⟨Ao21, co21, eo21⟩ := Kd.R_slice HO571.out
 (first | subst eo21 | (injection eo21 with f1_ f2_ f3_; have f4_ := f1_.symm; have f5_ := f3_.symm; clear f1_ f2_ f3_; subst f4_; subst f5_))
 obtain ⟨Ao23, co23, eo23⟩ := Kd.R_slice HO574.out
 (first | subst eo23 | (injection eo23 with f1_ f2_ f3_; have f4_ := f1_.symm; have f5_ := f3_.symm; clear f1_ f2_ f3_; subst f4_; subst f5_))
 obtain ⟨Ao26, co26, eo26⟩ := Kd.N_slice HO578.out
 (first | subst eo26 | (injection eo26 with f1_ f2_ f3_; have f4_ := f1_.symm; have f5_ := f3_.symm; clear f1_ f2_ f3_; subst f4_; subst f5_))
 refine norm_ (a' := ?_) ?_ ?_
 rotate_left
 ·
  simp only [putAll, Act.put, List.setIfInBounds_toArray, List.set_cons_zero, List.set_cons_succ]
  rfl
 refine one_ (i := 8) (N := none) #[true, true, true, true, true, true, true, true, true, false] rfl rfl (one_of HT_.out (by kernel_rfl)) (by decide) (fun K hK => ?_)
 have hs14 : w13.cell? ⟨gb582, 0, none⟩ = some (.int .i64 0) := (blk_cell BK582.out 0).trans rfl
 have hfs14 := blk_frozen BK582.out 0
 have hns14_0 := NB557_582.out
 have hms14_0 := NB582_557.out
 have hs16 : w13.cell? ⟨gb582, 1, none⟩ = some (.slice none 0 0) := (blk_cell BK582.out 1).trans rfl
 have hfs16 := blk_frozen BK582.out 1
 have hns16_0 := NB557_582.out
 have hms16_0 := NB582_557.out
 have hs18 : w13.cell? ⟨gb582, 2, none⟩ = some (.slice none 0 0) := (blk_cell BK582.out 2).trans rfl
 have hfs18 := blk_frozen BK582.out 2
 have hns18_0 := NB557_582.out
 have hms18_0 := NB582_557.out
 have hs20 : w13.cell? ⟨gb582, 3, none⟩ = some (.slice none 0 0) := (blk_cell BK582.out 3).trans rfl
 have hfs20 := blk_frozen BK582.out 3
 have hns20_0 := NB557_582.out
 have hms20_0 := NB582_557.out
 have hs22 : w13.cell? ⟨gb582, 4, none⟩ = some (.slice none 0 0) := (blk_cell BK582.out 4).trans rfl
 have hfs22 := blk_frozen BK582.out 4
 have hns22_0 := NB557_582.out
 have hms22_0 := NB582_557.out
 have hs24 : w13.cell? ⟨gb582, 5, none⟩ = some (.slice none 0 0) := (blk_cell BK582.out 5).trans rfl
 have hfs24 := blk_frozen BK582.out 5
 have hns24_0 := NB557_582.out
 have hms24_0 := NB582_557.out
 have hs25 : w13.cell? ⟨gb582, 6, none⟩ = some (.int .i64 0) := (blk_cell BK582.out 6).trans rfl
 have hfs25 := blk_frozen BK582.out 6
 have hns25_0 := NB557_582.out
 have hms25_0 := NB582_557.out
 have hs27 : w13.cell? ⟨gb582, 7, none⟩ = some (.slice none 0 0) := (blk_cell BK582.out 7).trans rfl
 have hfs27 := blk_frozen BK582.out 7
 have hns27_0 := NB557_582.out
 have hms27_0 := NB582_557.out
 refine skip_ (w1 := ?_) (by rfl) rfl ?_ ?_
 rotate_left
 ·
  go_simp
  rfl
 refine hK.out _ _ ⟨((cell_far (p := ⟨gb582, _, none⟩) NB557_582.out _).trans (((cell_far (p := ⟨gb582, _, none⟩) NB557_582.out _).trans (((cell_far (p := ⟨gb582, _, none⟩) NB557_582.out _).trans (((cell_far (p := ⟨gb582, _, none⟩) NB557_582.out _).trans (((cell_far (p := ⟨gb582, _, none⟩) NB557_582.out _).trans (((cell_far (p := ⟨gb582, _, none⟩) NB557_582.out _).trans (((cell_far (p := ⟨gb582, _, none⟩) NB557_582.out _).trans (((cell_far (p := ⟨gb582, _, none⟩) NB557_582.out _).trans (hHeld.1)))))))))))))))), ((cell_far (p := ⟨gb582, _, none⟩) NB557_582.out _).trans (((cell_far (p := ⟨gb582, _, none⟩) NB557_582.out _).trans (((cell_far (p := ⟨gb582, _, none⟩) NB557_582.out _).trans (((cell_far (p := ⟨gb582, _, none⟩) NB557_582.out _).trans (((cell_far (p := ⟨gb582, _, none⟩) NB557_582.out _).trans (((cell_far (p := ⟨gb582, _, none⟩) NB557_582.out _).trans (((cell_far (p := ⟨gb582, _, none⟩) NB557_582.out _).trans (((cell_far (p := ⟨gb582, _, none⟩) NB557_582.out _).trans (hHeld.2.1)))))))))))))))), ((cell_far (p := ⟨gb582, _, none⟩) NB557_582.out _).trans (((cell_far (p := ⟨gb582, _, none⟩) NB557_582.out _).trans (((cell_far (p := ⟨gb582, _, none⟩) NB557_582.out _).trans (((cell_far (p := ⟨gb582, _, none⟩) NB557_582.out _).trans (((cell_far (p := ⟨gb582, _, none⟩) NB557_582.out _).trans (((cell_far (p := ⟨gb582, _, none⟩) NB557_582.out _).trans (((cell_far (p := ⟨gb582, _, none⟩) NB557_582.out _).trans (((cell_far (p := ⟨gb582, _, none⟩) NB557_582.out _).trans (hHeld.2.2.1)))))))))))))))), ((cell_far (p := ⟨gb582, _, none⟩) NB557_582.out _).trans (((cell_far (p := ⟨gb582, _, none⟩) NB557_582.out _).trans (((cell_far (p := ⟨gb582, _, none⟩) NB557_582.out _).trans (((cell_far (p := ⟨gb582, _, none⟩) NB557_582.out _).trans (((cell_far (p := ⟨gb582, _, none⟩) NB557_582.out _).trans (((cell_far (p := ⟨gb582, _, none⟩) NB557_582.out _).trans (((cell_far (p := ⟨gb582, _, none⟩) NB557_582.out _).trans (((cell_far (p := ⟨gb582, _, none⟩) NB557_582.out _).trans (hHeld.2.2.2.1)))))))))))))))), ((cell_far (p := ⟨gb582, _, none⟩) NB557_582.out _).trans (((cell_far (p := ⟨gb582, _, none⟩) NB557_582.out _).trans (((cell_far (p := ⟨gb582, _, none⟩) NB557_582.out _).trans (((cell_far (p := ⟨gb582, _, none⟩) NB557_582.out _).trans (((cell_far (p := ⟨gb582, _, none⟩) NB557_582.out _).trans (((cell_far (p := ⟨gb582, _, none⟩) NB557_582.out _).trans (((cell_far (p := ⟨gb582, _, none⟩) NB557_582.out _).trans (((cell_far (p := ⟨gb582, _, none⟩) NB557_582.out _).trans (hHeld.2.2.2.2.1)))))))))))))))), ((cell_far (p := ⟨gb582, _, none⟩) NB557_582.out _).trans (((cell_far (p := ⟨gb582, _, none⟩) NB557_582.out _).trans (((cell_far (p := ⟨gb582, _, none⟩) NB557_582.out _).trans (((cell_far (p := ⟨gb582, _, none⟩) NB557_582.out _).trans (((cell_far (p := ⟨gb582, _, none⟩) NB557_582.out _).trans (((cell_far (p := ⟨gb582, _, none⟩) NB557_582.out _).trans (((cell_far (p := ⟨gb582, _, none⟩) NB557_582.out _).trans (((cell_far (p := ⟨gb582, _, none⟩) NB557_582.out _).trans (hHeld.2.2.2.2.2.1)))))))))))))))), ((cell_far (p := ⟨gb582, _, none⟩) NB557_582.out _).trans (((cell_far (p := ⟨gb582, _, none⟩) NB557_582.out _).trans (((cell_far (p := ⟨gb582, _, none⟩) NB557_582.out _).trans (((cell_far (p := ⟨gb582, _, none⟩) NB557_582.out _).trans (((cell_far (p := ⟨gb582, _, none⟩) NB557_582.out _).trans (((cell_far (p := ⟨gb582, _, none⟩) NB557_582.out _).trans (((cell_far (p := ⟨gb582, _, none⟩) NB557_582.out _).trans (((cell_far (p := ⟨gb582, _, none⟩) NB557_582.out _).trans (hHeld.2.2.2.2.2.2))))))))))))))))⟩ (fun hHeld => ?_)
 clear hK K
 refine pur_ (i := 9) (N := some 6) #[true, true, true, true, true, true, true, true, true, true] (any_of HT_.out (by kernel_rfl)) ?_
 refine done_ (done_of HT_.out (by kernel_rfl)) ?_
 obtain ⟨w28, hq_⟩ : ∃ x, x = ((((((((w13.setCell ⟨gb582, 0, none⟩ (.int .i64 t559)).setCell ⟨gb582, 1, none⟩ (.slice Ao15 t560.length co15)).setCell ⟨gb582, 2, none⟩ (.slice Ao17 t563.length co17)).setCell ⟨gb582, 3, none⟩ (.slice Ao19 t566.length co19)).setCell ⟨gb582, 4, none⟩ (.slice Ao21 t569.length co21)).setCell ⟨gb582, 5, none⟩ (.slice Ao23 t572.length co23)).setCell ⟨gb582, 6, none⟩ (.int .i64 t575)).setCell ⟨gb582, 7, none⟩ (.slice Ao26 t576.length co26)) := ⟨_, rfl⟩
 replace HO562 : Aside0 (Kd.R (Kd.int .i64) 3 w28 w.heap.size (fun k_ => some k_ ≠ (.slice Ao17 t563.length co17 : Value).ownBlock ∧ some k_ ≠ (.slice Ao19 t566.length co19 : Value).ownBlock ∧ some k_ ≠ (.slice Ao21 t569.length co21 : Value).ownBlock ∧ some k_ ≠ (.slice Ao23 t572.length co23 : Value).ownBlock) (.slice Ao15 t560.length co15) t560) := ⟨by subst hq_; refine vR_ ?_; exact Kd.R_mono (Kd.R_far (Kd.R_far (Kd.R_far (Kd.R_far (Kd.R_far (Kd.R_far (Kd.R_far (Kd.R_far (Kd.R_types HO562.out BK582.out (by decide)) (fun _ hk => hk.2) _) (fun _ hk => hk.2) _) (fun _ hk => hk.2) _) (fun _ hk => hk.2) _) (fun _ hk => hk.2) _) (fun _ hk => hk.2) _) (fun _ hk => hk.2) _) (fun _ hk => hk.2) _) (fun _ hk => ⟨hk.1.1, ⟨hk.1.2.1, ⟨hk.1.2.2.1, hk.1.2.2.2⟩⟩⟩)⟩
 replace HO565 : Aside0 (Kd.R (Kd.int .i64) 3 w28 w.heap.size (fun k_ => some k_ ≠ (.slice Ao15 t560.length co15 : Value).ownBlock ∧ some k_ ≠ (.slice Ao19 t566.length co19 : Value).ownBlock ∧ some k_ ≠ (.slice Ao21 t569.length co21 : Value).ownBlock ∧ some k_ ≠ (.slice Ao23 t572.length co23 : Value).ownBlock) (.slice Ao17 t563.length co17) t563) := ⟨by subst hq_; refine vR_ ?_; exact Kd.R_mono (Kd.R_far (Kd.R_far (Kd.R_far (Kd.R_far (Kd.R_far (Kd.R_far (Kd.R_far (Kd.R_far (Kd.R_types HO565.out BK582.out (by decide)) (fun _ hk => hk.2) _) (fun _ hk => hk.2) _) (fun _ hk => hk.2) _) (fun _ hk => hk.2) _) (fun _ hk => hk.2) _) (fun _ hk => hk.2) _) (fun _ hk => hk.2) _) (fun _ hk => hk.2) _) (fun _ hk => ⟨hk.1.1, ⟨hk.1.2.1, ⟨hk.1.2.2.1, hk.1.2.2.2⟩⟩⟩)⟩
 replace HO568 : Aside0 (Kd.R (Kd.int .i64) 3 w28 w.heap.size (fun k_ => some k_ ≠ (.slice Ao15 t560.length co15 : Value).ownBlock ∧ some k_ ≠ (.slice Ao17 t563.length co17 : Value).ownBlock ∧ some k_ ≠ (.slice Ao21 t569.length co21 : Value).ownBlock ∧ some k_ ≠ (.slice Ao23 t572.length co23 : Value).ownBlock) (.slice Ao19 t566.length co19) t566) := ⟨by subst hq_; refine vR_ ?_; exact Kd.R_mono (Kd.R_far (Kd.R_far (Kd.R_far (Kd.R_far (Kd.R_far (Kd.R_far (Kd.R_far (Kd.R_far (Kd.R_types HO568.out BK582.out (by decide)) (fun _ hk => hk.2) _) (fun _ hk => hk.2) _) (fun _ hk => hk.2) _) (fun _ hk => hk.2) _) (fun _ hk => hk.2) _) (fun _ hk => hk.2) _) (fun _ hk => hk.2) _) (fun _ hk => hk.2) _) (fun _ hk => ⟨hk.1.1, ⟨hk.1.2.1, ⟨hk.1.2.2.1, hk.1.2.2.2⟩⟩⟩)⟩
 replace HO571 : Aside0 (Kd.R (Kd.int .i64) 3 w28 w.heap.size (fun k_ => some k_ ≠ (.slice Ao15 t560.length co15 : Value).ownBlock ∧ some k_ ≠ (.slice Ao17 t563.length co17 : Value).ownBlock ∧ some k_ ≠ (.slice Ao19 t566.length co19 : Value).ownBlock ∧ some k_ ≠ (.slice Ao23 t572.length co23 : Value).ownBlock) (.slice Ao21 t569.length co21) t569) := ⟨by subst hq_; refine vR_ ?_; exact Kd.R_mono (Kd.R_far (Kd.R_far (Kd.R_far (Kd.R_far (Kd.R_far (Kd.R_far (Kd.R_far (Kd.R_far (Kd.R_types HO571.out BK582.out (by decide)) (fun _ hk => hk.2) _) (fun _ hk => hk.2) _) (fun _ hk => hk.2) _) (fun _ hk => hk.2) _) (fun _ hk => hk.2) _) (fun _ hk => hk.2) _) (fun _ hk => hk.2) _) (fun _ hk => hk.2) _) (fun _ hk => ⟨hk.1.1, ⟨hk.1.2.1, ⟨hk.1.2.2.1, hk.1.2.2.2⟩⟩⟩)⟩
 replace HO574 : Aside0 (Kd.R (Kd.int .i64) 3 w28 w.heap.size (fun k_ => some k_ ≠ (.slice Ao15 t560.length co15 : Value).ownBlock ∧ some k_ ≠ (.slice Ao17 t563.length co17 : Value).ownBlock ∧ some k_ ≠ (.slice Ao19 t566.length co19 : Value).ownBlock ∧ some k_ ≠ (.slice Ao21 t569.length co21 : Value).ownBlock) (.slice Ao23 t572.length co23) t572) := ⟨by subst hq_; refine vR_ ?_; exact Kd.R_mono (Kd.R_far (Kd.R_far (Kd.R_far (Kd.R_far (Kd.R_far (Kd.R_far (Kd.R_far (Kd.R_far (Kd.R_types HO574.out BK582.out (by decide)) (fun _ hk => hk.2) _) (fun _ hk => hk.2) _) (fun _ hk => hk.2) _) (fun _ hk => hk.2) _) (fun _ hk => hk.2) _) (fun _ hk => hk.2) _) (fun _ hk => hk.2) _) (fun _ hk => hk.2) _) (fun _ hk => ⟨hk.1.1, ⟨hk.1.2.1, ⟨hk.1.2.2.1, hk.1.2.2.2⟩⟩⟩)⟩
 replace HO578 : Aside0 (Kd.N (Kd.slice 3 (Kd.int .i64)) 30 w28 w.heap.size (fun k_ => some k_ ≠ (.slice Ao15 t560.length co15 : Value).ownBlock ∧ some k_ ≠ (.slice Ao17 t563.length co17 : Value).ownBlock ∧ some k_ ≠ (.slice Ao19 t566.length co19 : Value).ownBlock ∧ some k_ ≠ (.slice Ao21 t569.length co21 : Value).ownBlock ∧ some k_ ≠ (.slice Ao23 t572.length co23 : Value).ownBlock ∧ some k_ ≠ (v580 : Value).ownBlock ∧ k_ ≠ gb557 ∧ k_ ≠ gb582) (.slice Ao26 t576.length co26) t576) := ⟨by subst hq_; refine vN_ ?_; exact Kd.N_mono (Kd.N_far (Kd.N_far (Kd.N_far (Kd.N_far (Kd.N_far (Kd.N_far (Kd.N_far (Kd.N_far (Kd.N_mono HO578.out (fun k_ hk => (⟨hk, hk.2.2.2.2.2.2.2⟩ : _ ∧ k_ ≠ gb582))) (fun _ hk => hk.2) _) (fun _ hk => hk.2) _) (fun _ hk => hk.2) _) (fun _ hk => hk.2) _) (fun _ hk => hk.2) _) (fun _ hk => hk.2) _) (fun _ hk => hk.2) _) (fun _ hk => hk.2) _) (fun _ hk => ⟨hk.1.1, ⟨hk.1.2.1, ⟨hk.1.2.2.1, ⟨hk.1.2.2.2.1, ⟨hk.1.2.2.2.2.1, ⟨hk.1.2.2.2.2.2.1, ⟨hk.1.2.2.2.2.2.2.1, hk.1.2.2.2.2.2.2.2⟩⟩⟩⟩⟩⟩⟩)⟩
 replace HO581 : Aside0 (Kd.N (Kd.slice 3 (Kd.int .i64)) 30 w28 w.heap.size (fun k_ => some k_ ≠ (.slice Ao15 t560.length co15 : Value).ownBlock ∧ some k_ ≠ (.slice Ao17 t563.length co17 : Value).ownBlock ∧ some k_ ≠ (.slice Ao19 t566.length co19 : Value).ownBlock ∧ some k_ ≠ (.slice Ao21 t569.length co21 : Value).ownBlock ∧ some k_ ≠ (.slice Ao23 t572.length co23 : Value).ownBlock ∧ some k_ ≠ (.slice Ao26 t576.length co26 : Value).ownBlock ∧ k_ ≠ gb557 ∧ k_ ≠ gb582) v580 t579) := ⟨by subst hq_; refine vN_ ?_; exact Kd.N_mono (Kd.N_far (Kd.N_far (Kd.N_far (Kd.N_far (Kd.N_far (Kd.N_far (Kd.N_far (Kd.N_far (Kd.N_mono HO581.out (fun k_ hk => (⟨hk, hk.2.2.2.2.2.2.2⟩ : _ ∧ k_ ≠ gb582))) (fun _ hk => hk.2) _) (fun _ hk => hk.2) _) (fun _ hk => hk.2) _) (fun _ hk => hk.2) _) (fun _ hk => hk.2) _) (fun _ hk => hk.2) _) (fun _ hk => hk.2) _) (fun _ hk => hk.2) _) (fun _ hk => ⟨hk.1.1, ⟨hk.1.2.1, ⟨hk.1.2.2.1, ⟨hk.1.2.2.2.1, ⟨hk.1.2.2.2.2.1, ⟨hk.1.2.2.2.2.2.1, ⟨hk.1.2.2.2.2.2.2.1, hk.1.2.2.2.2.2.2.2⟩⟩⟩⟩⟩⟩⟩)⟩
 replace BK557 : Aside0 (w28.heap[gb557]? = some (.cells #[.int .u8 a0_0, .slice A0_1 l0_1.length c0_1, .slice A0_2 l0_2.length c0_2, .slice A0_3 l0_3.length c0_3, .int .i16 a0_4, .int .u8 a0_5, .slice A0_6 l0_6.length c0_6] 29 (0, 0))) := ⟨by subst hq_; refine bk_ ?_; refine blk_far ?_ NB557_582.out _; refine bk_ ?_; refine blk_far ?_ NB557_582.out _; refine bk_ ?_; refine blk_far ?_ NB557_582.out _; refine bk_ ?_; refine blk_far ?_ NB557_582.out _; refine bk_ ?_; refine blk_far ?_ NB557_582.out _; refine bk_ ?_; refine blk_far ?_ NB557_582.out _; refine bk_ ?_; refine blk_far ?_ NB557_582.out _; refine bk_ ?_; refine blk_far ?_ NB557_582.out _; refine bk_ ?_; exact BK557.out⟩
 replace BK582 : Aside0 (w28.heap[gb582]? = some (.cells #[.int .i64 t559, .slice Ao15 t560.length co15, .slice Ao17 t563.length co17, .slice Ao19 t566.length co19, .slice Ao21 t569.length co21, .slice Ao23 t572.length co23, .int .i64 t575, .slice Ao26 t576.length co26] 32 (0, 0))) := ⟨by subst hq_; refine bk_ ?_; refine blk_put (cs := #[.int .i64 t559, .slice Ao15 t560.length co15, .slice Ao17 t563.length co17, .slice Ao19 t566.length co19, .slice Ao21 t569.length co21, .slice Ao23 t572.length co23, .int .i64 t575, .slice none 0 0]) ?_ 7 _ rfl; refine bk_ ?_; refine blk_put (cs := #[.int .i64 t559, .slice Ao15 t560.length co15, .slice Ao17 t563.length co17, .slice Ao19 t566.length co19, .slice Ao21 t569.length co21, .slice Ao23 t572.length co23, .int .i64 0, .slice none 0 0]) ?_ 6 _ rfl; refine bk_ ?_; refine blk_put (cs := #[.int .i64 t559, .slice Ao15 t560.length co15, .slice Ao17 t563.length co17, .slice Ao19 t566.length co19, .slice Ao21 t569.length co21, .slice none 0 0, .int .i64 0, .slice none 0 0]) ?_ 5 _ rfl; refine bk_ ?_; refine blk_put (cs := #[.int .i64 t559, .slice Ao15 t560.length co15, .slice Ao17 t563.length co17, .slice Ao19 t566.length co19, .slice none 0 0, .slice none 0 0, .int .i64 0, .slice none 0 0]) ?_ 4 _ rfl; refine bk_ ?_; refine blk_put (cs := #[.int .i64 t559, .slice Ao15 t560.length co15, .slice Ao17 t563.length co17, .slice none 0 0, .slice none 0 0, .slice none 0 0, .int .i64 0, .slice none 0 0]) ?_ 3 _ rfl; refine bk_ ?_; refine blk_put (cs := #[.int .i64 t559, .slice Ao15 t560.length co15, .slice none 0 0, .slice none 0 0, .slice none 0 0, .slice none 0 0, .int .i64 0, .slice none 0 0]) ?_ 2 _ rfl; refine bk_ ?_; refine blk_put (cs := #[.int .i64 t559, .slice none 0 0, .slice none 0 0, .slice none 0 0, .slice none 0 0, .slice none 0 0, .int .i64 0, .slice none 0 0]) ?_ 1 _ rfl; refine bk_ ?_; refine blk_put (cs := #[.int .i64 0, .slice none 0 0, .slice none 0 0, .slice none 0 0, .slice none 0 0, .slice none 0 0, .int .i64 0, .slice none 0 0]) ?_ 0 _ rfl; refine bk_ ?_; exact BK582.out⟩
 replace HB : Aside0 (Below w.heap.size w w28) := ⟨by subst hq_; exact bel_⟩
 rw [← hq_]
 clear hq_
 have hnb29 := NB582_557.out
 have hnc29 := NB557_582.out
 obtain ⟨hcz30_0, hcz30_1, hcz30_2, hcz30_3, hcz30_4, hcz30_5, hcz30_6, hcz30_7, hfz30_0, hfz30_1, hfz30_2, hfz30_3, hfz30_4, hfz30_5, hfz30_6, hfz30_7⟩ := cel8_ BK582.out
 obtain ⟨Ao31, co31, eo31⟩ := Kd.N_slice HO581.out
 subst eo31
 try go_wp2_with (first | ((with_reducible refine gate_callee (f := 15) rfl ?_); refine goesL_ (some 31) rfl rfl Tryz.func15 (by kernel_rfl) rfl #[.agg #[.int .i64 t559, .slice Ao15 t560.length co15, .slice Ao17 t563.length co17, .slice Ao19 t566.length co19, .slice Ao21 t569.length co21, .slice Ao23 t572.length co23, .int .i64 t575, .slice Ao26 t576.length co26], .slice Ao31 t579.length co31, .int .i64 4000] rfl ar_ ?_; (with_reducible refine (jigsawref10_Solutions.calls k t559 _ _ t560 _ _ t563 (fun k_ => some k_ = (.slice Ao19 t566.length co19 : Value).ownBlock) _ _ t566 (fun k_ => some k_ = (.slice Ao21 t569.length co21 : Value).ownBlock) _ _ t569 (fun k_ => some k_ = (.slice Ao23 t572.length co23 : Value).ownBlock) _ _ t572 t575 (fun k_ => (some k_ ≠ (.slice Ao15 t560.length co15 : Value).ownBlock ∧ (some k_ ≠ (.slice Ao17 t563.length co17 : Value).ownBlock ∧ (some k_ ≠ (.slice Ao19 t566.length co19 : Value).ownBlock ∧ (some k_ ≠ (.slice Ao21 t569.length co21 : Value).ownBlock ∧ (some k_ ≠ (.slice Ao23 t572.length co23 : Value).ownBlock ∧ (some k_ ≠ (.slice Ao31 t579.length co31 : Value).ownBlock ∧ (k_ ≠ gb557 ∧ k_ ≠ gb582)))))))) _ _ t576 _ _ t579 4000 t583 t586 _ ?_ ?_ ?_ ?_ ?_ ?_ ?_ ?_ ?_ ?_ A5.out).mono ?_); exact ca_ ((Kd.R_reads' HO562.out).2.2); exact (Kd.R_reads' HO562.out).2.1; exact ca_ ((Kd.R_reads' HO565.out).2.2); exact (Kd.R_reads' HO565.out).2.1; exact Kd.R_V (Kd.R_tight rfl (Kd.R_types (Kd.R_types (Kd.R_apart' (Kd.R_apart' (HO568.out) (Kd.N_typed HO578.out) (by decide)) (Kd.N_typed HO581.out) (by decide)) BK557.out (by decide)) BK582.out (by decide))); exact Kd.R_V (Kd.R_tight rfl (Kd.R_types (Kd.R_types (Kd.R_apart' (Kd.R_apart' (HO571.out) (Kd.N_typed HO578.out) (by decide)) (Kd.N_typed HO581.out) (by decide)) BK557.out (by decide)) BK582.out (by decide))); exact Kd.R_V (Kd.R_tight rfl (Kd.R_types (Kd.R_types (Kd.R_apart' (Kd.R_apart' (HO574.out) (Kd.N_typed HO578.out) (by decide)) (Kd.N_typed HO581.out) (by decide)) BK557.out (by decide)) BK582.out (by decide))); exact Kd.N_V (HO578.out); exact ca_ ((Kd.N_reads' HO581.out).2.2); exact (Kd.N_reads' HO581.out).2.1; rintro e w32 ⟨v584, rfl, ho0, hb⟩; refine ⟨_, rfl, ?_⟩; have HO585 := Aside0.mk (Kd.N_lower (Kd.N_mono (ok' := fun k_ => some k_ ≠ (.slice Ao15 t560.length co15 : Value).ownBlock ∧ some k_ ≠ (.slice Ao17 t563.length co17 : Value).ownBlock ∧ some k_ ≠ (.slice Ao31 t579.length co31 : Value).ownBlock ∧ k_ ≠ gb557 ∧ k_ ≠ gb582) ho0 (fun k_ hk_ => ⟨Or.elim hk_ (fun hs_ => Or.elim hs_ (fun hs_ => ((Kd.R_types (Kd.R_types (Kd.R_apart' (Kd.R_apart' (HO568.out) (Kd.N_typed HO578.out) (by decide)) (Kd.N_typed HO581.out) (by decide)) BK557.out (by decide)) BK582.out (by decide)).1 k_ hs_.symm).1.1.1.1.1) (fun hs_ => Or.elim hs_ (fun hs_ => ((Kd.R_types (Kd.R_types (Kd.R_apart' (Kd.R_apart' (HO571.out) (Kd.N_typed HO578.out) (by decide)) (Kd.N_typed HO581.out) (by decide)) BK557.out (by decide)) BK582.out (by decide)).1 k_ hs_.symm).1.1.1.1.1) (fun hs_ => Or.elim hs_ (fun hs_ => ((Kd.R_types (Kd.R_types (Kd.R_apart' (Kd.R_apart' (HO574.out) (Kd.N_typed HO578.out) (by decide)) (Kd.N_typed HO581.out) (by decide)) BK557.out (by decide)) BK582.out (by decide)).1 k_ hs_.symm).1.1.1.1.1) (fun hs_ => hs_.1)))) (fun hn_ => (Kd.fresh' (Kd.R_lt (vR_ HO562.out)) k_ hn_)), Or.elim hk_ (fun hs_ => Or.elim hs_ (fun hs_ => ((Kd.R_types (Kd.R_types (Kd.R_apart' (Kd.R_apart' (HO568.out) (Kd.N_typed HO578.out) (by decide)) (Kd.N_typed HO581.out) (by decide)) BK557.out (by decide)) BK582.out (by decide)).1 k_ hs_.symm).1.1.1.1.2.1) (fun hs_ => Or.elim hs_ (fun hs_ => ((Kd.R_types (Kd.R_types (Kd.R_apart' (Kd.R_apart' (HO571.out) (Kd.N_typed HO578.out) (by decide)) (Kd.N_typed HO581.out) (by decide)) BK557.out (by decide)) BK582.out (by decide)).1 k_ hs_.symm).1.1.1.1.2.1) (fun hs_ => Or.elim hs_ (fun hs_ => ((Kd.R_types (Kd.R_types (Kd.R_apart' (Kd.R_apart' (HO574.out) (Kd.N_typed HO578.out) (by decide)) (Kd.N_typed HO581.out) (by decide)) BK557.out (by decide)) BK582.out (by decide)).1 k_ hs_.symm).1.1.1.1.2.1) (fun hs_ => hs_.2.1)))) (fun hn_ => (Kd.fresh' (Kd.R_lt (vR_ HO565.out)) k_ hn_)), Or.elim hk_ (fun hs_ => Or.elim hs_ (fun hs_ => ((Kd.R_types (Kd.R_types (Kd.R_apart' (Kd.R_apart' (HO568.out) (Kd.N_typed HO578.out) (by decide)) (Kd.N_typed HO581.out) (by decide)) BK557.out (by decide)) BK582.out (by decide)).1 k_ hs_.symm).1.1.2) (fun hs_ => Or.elim hs_ (fun hs_ => ((Kd.R_types (Kd.R_types (Kd.R_apart' (Kd.R_apart' (HO571.out) (Kd.N_typed HO578.out) (by decide)) (Kd.N_typed HO581.out) (by decide)) BK557.out (by decide)) BK582.out (by decide)).1 k_ hs_.symm).1.1.2) (fun hs_ => Or.elim hs_ (fun hs_ => ((Kd.R_types (Kd.R_types (Kd.R_apart' (Kd.R_apart' (HO574.out) (Kd.N_typed HO578.out) (by decide)) (Kd.N_typed HO581.out) (by decide)) BK557.out (by decide)) BK582.out (by decide)).1 k_ hs_.symm).1.1.2) (fun hs_ => hs_.2.2.2.2.2.1)))) (fun hn_ => (Kd.fresh' (Kd.N_lt (vN_ HO581.out)) k_ hn_)), Or.elim hk_ (fun hs_ => Or.elim hs_ (fun hs_ => ((Kd.R_types (Kd.R_types (Kd.R_apart' (Kd.R_apart' (HO568.out) (Kd.N_typed HO578.out) (by decide)) (Kd.N_typed HO581.out) (by decide)) BK557.out (by decide)) BK582.out (by decide)).1 k_ hs_.symm).1.2) (fun hs_ => Or.elim hs_ (fun hs_ => ((Kd.R_types (Kd.R_types (Kd.R_apart' (Kd.R_apart' (HO571.out) (Kd.N_typed HO578.out) (by decide)) (Kd.N_typed HO581.out) (by decide)) BK557.out (by decide)) BK582.out (by decide)).1 k_ hs_.symm).1.2) (fun hs_ => Or.elim hs_ (fun hs_ => ((Kd.R_types (Kd.R_types (Kd.R_apart' (Kd.R_apart' (HO574.out) (Kd.N_typed HO578.out) (by decide)) (Kd.N_typed HO581.out) (by decide)) BK557.out (by decide)) BK582.out (by decide)).1 k_ hs_.symm).1.2) (fun hs_ => hs_.2.2.2.2.2.2.1)))) (fun hn_ => (Kd.freshB (bk_ BK557.out) k_ hn_)), Or.elim hk_ (fun hs_ => Or.elim hs_ (fun hs_ => ((Kd.R_types (Kd.R_types (Kd.R_apart' (Kd.R_apart' (HO568.out) (Kd.N_typed HO578.out) (by decide)) (Kd.N_typed HO581.out) (by decide)) BK557.out (by decide)) BK582.out (by decide)).1 k_ hs_.symm).2) (fun hs_ => Or.elim hs_ (fun hs_ => ((Kd.R_types (Kd.R_types (Kd.R_apart' (Kd.R_apart' (HO571.out) (Kd.N_typed HO578.out) (by decide)) (Kd.N_typed HO581.out) (by decide)) BK557.out (by decide)) BK582.out (by decide)).1 k_ hs_.symm).2) (fun hs_ => Or.elim hs_ (fun hs_ => ((Kd.R_types (Kd.R_types (Kd.R_apart' (Kd.R_apart' (HO574.out) (Kd.N_typed HO578.out) (by decide)) (Kd.N_typed HO581.out) (by decide)) BK557.out (by decide)) BK582.out (by decide)).1 k_ hs_.symm).2) (fun hs_ => hs_.2.2.2.2.2.2.2)))) (fun hn_ => (Kd.freshB (bk_ BK582.out) k_ hn_))⟩)) (below_size bel_)); replace HO562 := Aside0.mk (Kd.R_below (vR_ HO562.out) hb); replace HO565 := Aside0.mk (Kd.R_below (vR_ HO565.out) hb); replace HO568 := Aside0.mk (Kd.R_below (vR_ HO568.out) hb); replace HO571 := Aside0.mk (Kd.R_below (vR_ HO571.out) hb); replace HO574 := Aside0.mk (Kd.R_below (vR_ HO574.out) hb); replace HO578 := Aside0.mk (Kd.N_elder' (vN_ HO578.out) (Kd.N_base ho0) hb); replace HO581 := Aside0.mk (Kd.N_elder' (vN_ HO581.out) (Kd.N_base ho0) hb); replace BK557 := Aside0.mk (blk_below (bk_ BK557.out) hb); replace BK582 := Aside0.mk (blk_below (bk_ BK582.out) hb); replace HB := Aside0.mk (below_step bel_ hb); clear hb ho0))
 replace HO562 := Aside0.mk (Kd.R_drew HO562.out)
 replace HO565 := Aside0.mk (Kd.R_drew HO565.out)
 replace HO568 := Aside0.mk (Kd.R_drew HO568.out)
 replace HO571 := Aside0.mk (Kd.R_drew HO571.out)
 replace HO574 := Aside0.mk (Kd.R_drew HO574.out)
 replace HO578 := Aside0.mk (Kd.N_drew HO578.out)
 replace HO581 := Aside0.mk (Kd.N_drew HO581.out)
 replace HO585 := Aside0.mk (Kd.N_drew HO585.out)
 replace BK557 := Aside0.mk (blk_drew BK557.out)
 replace BK582 := Aside0.mk (blk_drew BK582.out)
 replace HB := Aside0.mk (below_drew1 HB.out)
 refine start_ (n := 9) (S := fun w' => w'.cell? ⟨gb582, 0, none⟩ = some (.int .i64 t559) ∧ w'.cell? ⟨gb582, 1, none⟩ = some (.slice Ao15 t560.length co15) ∧ w'.cell? ⟨gb582, 2, none⟩ = some (.slice Ao17 t563.length co17) ∧ w'.cell? ⟨gb582, 3, none⟩ = some (.slice Ao19 t566.length co19) ∧ w'.cell? ⟨gb582, 4, none⟩ = some (.slice Ao21 t569.length co21) ∧ w'.cell? ⟨gb582, 5, none⟩ = some (.slice Ao23 t572.length co23) ∧ w'.cell? ⟨gb582, 6, none⟩ = some (.int .i64 t575) ∧ w'.cell? ⟨gb582, 7, none⟩ = some (.slice Ao26 t576.length co26)) (ds := []) #[false, false, false, false, false, false, false, false, false] (by kernel_rfl) rfl rfl ⟨(blk_cell BK582.out 0).trans rfl, (blk_cell BK582.out 1).trans rfl, (blk_cell BK582.out 2).trans rfl, (blk_cell BK582.out 3).trans rfl, (blk_cell BK582.out 4).trans rfl, (blk_cell BK582.out 5).trans rfl, (blk_cell BK582.out 6).trans rfl, (blk_cell BK582.out 7).trans rfl⟩ (fun hHeld => ?_); refine with_tabW jigsawlaw14_ClauseKeeps.tab3 jigsawlaw14_ClauseKeeps.bits3 (fun HT_ HW_ => ?_)
 generalize w32.drew = w33 at HO562 HO565 HO568 HO571 HO574 HO578 HO581 HO585 BK557 BK582 HB hHeld ⊢
 refine pur_ (i := 1) (N := some 36) #[false, true, false, false, false, false, false, false, false] (any_of HT_.out (by kernel_rfl)) ?_
 refine take_ (i := 0) (N := some 35) (v := ?_) (a' := ?_) #[true, true, false, false, false, false, false, false, false] rfl rfl (take_ofW HT_.out HW_.out (by kernel_rfl)) (fun _ _ _ h => h) (Or.inl ⟨by rfl, ?_⟩) hHeld ?_ ?_
 rotate_left
 ·
  rintro w' ⟨s0, s1, s2, s3, s4, s5, s6, s7⟩
  go_simp
  with_reducible rfl
 rotate_left
 ·
  simp only [Act.put, List.setIfInBounds_toArray, List.set_cons_zero, List.set_cons_succ, i64_w, i32_w]
  rfl
 refine one_ (i := 2) (N := some 37) #[true, true, true, false, false, false, false, false, false] rfl rfl (one_of HT_.out (by kernel_rfl)) (by decide) (fun K hK => ?_)
 refine goes_ Tryz.func10 (by kernel_rfl) rfl #[.slice Ao31 t579.length co31] (by rfl) rfl rfl ar_ ?_
 with_reducible refine (jigsawlaw14_doms.calls k _ _ t579 t587 _ ?_ ?_ ?_ A6.out).mono ?_
 exact ca_ ((Kd.N_reads' HO581.out).2.2)
 exact (Kd.N_reads' HO581.out).2.1
 exact ca_ ((Kd.C_below HRtab.out HB.out))
 rintro e w34 ⟨v588, rfl, ho0, hb⟩
 refine ⟨_, rfl, ?_⟩
 have HO589 := Aside0.mk (Kd.N_lower (Kd.N_mono (ok' := fun k_ => some k_ ≠ (.slice Ao15 t560.length co15 : Value).ownBlock ∧ some k_ ≠ (.slice Ao17 t563.length co17 : Value).ownBlock ∧ some k_ ≠ (.slice Ao19 t566.length co19 : Value).ownBlock ∧ some k_ ≠ (.slice Ao21 t569.length co21 : Value).ownBlock ∧ some k_ ≠ (.slice Ao23 t572.length co23 : Value).ownBlock ∧ some k_ ≠ (.slice Ao26 t576.length co26 : Value).ownBlock ∧ some k_ ≠ (.slice Ao31 t579.length co31 : Value).ownBlock ∧ some k_ ≠ (v584 : Value).ownBlock ∧ k_ ≠ gb557 ∧ k_ ≠ gb582) ho0 (fun k_ hk_ => ⟨(Kd.fresh' (Kd.R_lt (vR_ HO562.out)) k_ hk_), (Kd.fresh' (Kd.R_lt (vR_ HO565.out)) k_ hk_), (Kd.fresh' (Kd.R_lt (vR_ HO568.out)) k_ hk_), (Kd.fresh' (Kd.R_lt (vR_ HO571.out)) k_ hk_), (Kd.fresh' (Kd.R_lt (vR_ HO574.out)) k_ hk_), (Kd.fresh' (Kd.N_lt (vN_ HO578.out)) k_ hk_), (Kd.fresh' (Kd.N_lt (vN_ HO581.out)) k_ hk_), (Kd.fresh' (Kd.N_lt (vN_ HO585.out)) k_ hk_), (Kd.freshB (bk_ BK557.out) k_ hk_), (Kd.freshB (bk_ BK582.out) k_ hk_)⟩)) (below_size bel_))
 replace HO562 := Aside0.mk (Kd.R_below (vR_ HO562.out) hb)
 replace HO565 := Aside0.mk (Kd.R_below (vR_ HO565.out) hb)
 replace HO568 := Aside0.mk (Kd.R_below (vR_ HO568.out) hb)
 replace HO571 := Aside0.mk (Kd.R_below (vR_ HO571.out) hb)
 replace HO574 := Aside0.mk (Kd.R_below (vR_ HO574.out) hb)
 replace HO578 := Aside0.mk (Kd.N_elder' (vN_ HO578.out) (Kd.N_base ho0) hb)
 replace HO581 := Aside0.mk (Kd.N_elder' (vN_ HO581.out) (Kd.N_base ho0) hb)
 replace HO585 := Aside0.mk (Kd.N_elder' (vN_ HO585.out) (Kd.N_base ho0) hb)
 replace BK557 := Aside0.mk (blk_below (bk_ BK557.out) hb)
 replace BK582 := Aside0.mk (blk_below (bk_ BK582.out) hb)
 replace HB := Aside0.mk (below_step bel_ hb)
 clear hb ho0
 obtain ⟨Ao35, co35, eo35⟩ := Kd.N_slice HO589.out
 (first | subst eo35 | (injection eo35 with f1_ f2_ f3_; have f4_ := f1_.symm; have f5_ := f3_.symm; clear f1_ f2_ f3_; subst f4_; subst f5_))
 refine hK.out _ _ ⟨(blk_cell BK582.out 0).trans rfl, (blk_cell BK582.out 1).trans rfl, (blk_cell BK582.out 2).trans rfl, (blk_cell BK582.out 3).trans rfl, (blk_cell BK582.out 4).trans rfl, (blk_cell BK582.out 5).trans rfl, (blk_cell BK582.out 6).trans rfl, (blk_cell BK582.out 7).trans rfl⟩ (fun hHeld => ?_)
 clear hK K
 refine nor_ (N := some 37) ?_
 refine one_ (i := 3) (N := some 38) #[true, true, true, true, false, false, false, false, false] rfl rfl (one_of HT_.out (by kernel_rfl)) (by decide) (fun K hK => ?_)
 refine goes_ Tryz.func9 (by kernel_rfl) rfl #[.agg #[.int .i64 t559, .slice Ao15 t560.length co15, .slice Ao17 t563.length co17, .slice Ao19 t566.length co19, .slice Ao21 t569.length co21, .slice Ao23 t572.length co23, .int .i64 t575, .slice Ao26 t576.length co26], .slice Ao35 t587.length co35] (by rfl) rfl rfl ar_ ?_
 with_reducible refine (clause_Filter.calls k t559 _ _ t560 _ _ t563 _ _ t566 _ _ t569 _ _ t572 t575 _ _ t576 (fun k_ => (some k_ ≠ (.slice Ao15 t560.length co15 : Value).ownBlock ∧ (some k_ ≠ (.slice Ao17 t563.length co17 : Value).ownBlock ∧ (some k_ ≠ (.slice Ao19 t566.length co19 : Value).ownBlock ∧ (some k_ ≠ (.slice Ao21 t569.length co21 : Value).ownBlock ∧ (some k_ ≠ (.slice Ao23 t572.length co23 : Value).ownBlock ∧ (some k_ ≠ (.slice Ao26 t576.length co26 : Value).ownBlock ∧ (some k_ ≠ (.slice Ao31 t579.length co31 : Value).ownBlock ∧ (some k_ ≠ (v584 : Value).ownBlock ∧ (k_ ≠ gb557 ∧ k_ ≠ gb582)))))))))) _ _ t587 t590 t593 _ ?_ ?_ ?_ ?_ ?_ ?_ ?_ ?_ ?_ ?_ ?_ ?_ ?_ ?_ A7.out).mono ?_
 exact ca_ ((Kd.R_reads' HO562.out).2.2)
 exact (Kd.R_reads' HO562.out).2.1
 exact ca_ ((Kd.R_reads' HO565.out).2.2)
 exact (Kd.R_reads' HO565.out).2.1
 exact ca_ ((Kd.R_reads' HO568.out).2.2)
 exact (Kd.R_reads' HO568.out).2.1
 exact ca_ ((Kd.R_reads' HO571.out).2.2)
 exact (Kd.R_reads' HO571.out).2.1
 exact ca_ ((Kd.R_reads' HO574.out).2.2)
 exact (Kd.R_reads' HO574.out).2.1
 exact ca_ ((Kd.N_reads' HO578.out).2.2)
 exact (Kd.N_reads' HO578.out).2.1
 exact Kd.N_V (HO589.out)
 exact ca_ ((Kd.C_below HRtab.out HB.out))
 rintro e w36 ⟨v591, rfl, ho0, hb⟩
 refine ⟨_, rfl, ?_⟩
 have HO592 := Aside0.mk (Kd.N_lower (Kd.N_mono (ok' := fun k_ => some k_ ≠ (.slice Ao15 t560.length co15 : Value).ownBlock ∧ some k_ ≠ (.slice Ao17 t563.length co17 : Value).ownBlock ∧ some k_ ≠ (.slice Ao19 t566.length co19 : Value).ownBlock ∧ some k_ ≠ (.slice Ao21 t569.length co21 : Value).ownBlock ∧ some k_ ≠ (.slice Ao23 t572.length co23 : Value).ownBlock ∧ some k_ ≠ (.slice Ao26 t576.length co26 : Value).ownBlock ∧ some k_ ≠ (.slice Ao31 t579.length co31 : Value).ownBlock ∧ some k_ ≠ (v584 : Value).ownBlock ∧ k_ ≠ gb557 ∧ k_ ≠ gb582) ho0 (fun k_ hk_ => ⟨Or.elim hk_ (fun hs_ => hs_.1) (fun hn_ => (Kd.fresh' (Kd.R_lt (vR_ HO562.out)) k_ hn_)), Or.elim hk_ (fun hs_ => hs_.2.1) (fun hn_ => (Kd.fresh' (Kd.R_lt (vR_ HO565.out)) k_ hn_)), Or.elim hk_ (fun hs_ => hs_.2.2.1) (fun hn_ => (Kd.fresh' (Kd.R_lt (vR_ HO568.out)) k_ hn_)), Or.elim hk_ (fun hs_ => hs_.2.2.2.1) (fun hn_ => (Kd.fresh' (Kd.R_lt (vR_ HO571.out)) k_ hn_)), Or.elim hk_ (fun hs_ => hs_.2.2.2.2.1) (fun hn_ => (Kd.fresh' (Kd.R_lt (vR_ HO574.out)) k_ hn_)), Or.elim hk_ (fun hs_ => hs_.2.2.2.2.2.1) (fun hn_ => (Kd.fresh' (Kd.N_lt (vN_ HO578.out)) k_ hn_)), Or.elim hk_ (fun hs_ => hs_.2.2.2.2.2.2.1) (fun hn_ => (Kd.fresh' (Kd.N_lt (vN_ HO581.out)) k_ hn_)), Or.elim hk_ (fun hs_ => hs_.2.2.2.2.2.2.2.1) (fun hn_ => (Kd.fresh' (Kd.N_lt (vN_ HO585.out)) k_ hn_)), Or.elim hk_ (fun hs_ => hs_.2.2.2.2.2.2.2.2.1) (fun hn_ => (Kd.freshB (bk_ BK557.out) k_ hn_)), Or.elim hk_ (fun hs_ => hs_.2.2.2.2.2.2.2.2.2) (fun hn_ => (Kd.freshB (bk_ BK582.out) k_ hn_))⟩)) (below_size bel_))
 replace HO562 := Aside0.mk (Kd.R_below (vR_ HO562.out) hb)
 replace HO565 := Aside0.mk (Kd.R_below (vR_ HO565.out) hb)
 replace HO568 := Aside0.mk (Kd.R_below (vR_ HO568.out) hb)
 replace HO571 := Aside0.mk (Kd.R_below (vR_ HO571.out) hb)
 replace HO574 := Aside0.mk (Kd.R_below (vR_ HO574.out) hb)
 replace HO578 := Aside0.mk (Kd.N_elder' (vN_ HO578.out) (Kd.N_base ho0) hb)
 replace HO581 := Aside0.mk (Kd.N_elder' (vN_ HO581.out) (Kd.N_base ho0) hb)
 replace HO585 := Aside0.mk (Kd.N_elder' (vN_ HO585.out) (Kd.N_base ho0) hb)
 replace BK557 := Aside0.mk (blk_below (bk_ BK557.out) hb)
 replace BK582 := Aside0.mk (blk_below (bk_ BK582.out) hb)
 replace HB := Aside0.mk (below_step bel_ hb)
 clear hb ho0
 refine hK.out _ _ ⟨(blk_cell BK582.out 0).trans rfl, (blk_cell BK582.out 1).trans rfl, (blk_cell BK582.out 2).trans rfl, (blk_cell BK582.out 3).trans rfl, (blk_cell BK582.out 4).trans rfl, (blk_cell BK582.out 5).trans rfl, (blk_cell BK582.out 6).trans rfl, (blk_cell BK582.out 7).trans rfl⟩ (fun hHeld => ?_)
 clear hK K
 refine nor_ (N := some 38) ?_
 refine pur_ (i := 4) (N := some 34) #[true, true, true, true, true, false, false, false, false] (any_of HT_.out (by kernel_rfl)) ?_
 refine pur_ (i := 5) (N := some 39) #[true, true, true, true, true, true, false, false, false] (any_of HT_.out (by kernel_rfl)) ?_
 refine pur_ (i := 6) (N := some 40) #[true, true, true, true, true, true, true, false, false] (any_of HT_.out (by kernel_rfl)) ?_
 refine pur_ (i := 7) (N := some 9) #[true, true, true, true, true, true, true, true, false] (any_of HT_.out (by kernel_rfl)) ?_
 refine pur_ (i := 8) (N := some 10) #[true, true, true, true, true, true, true, true, true] (any_of HT_.out (by kernel_rfl)) ?_
 refine done_ (done_of HT_.out (by kernel_rfl)) ?_
 go_upto_region 4 with (fail)
 go_cut [42] (fun v42 wc => ∃ (kq : Nat) (x42_7 : Bool), v42 = .bool x42_7 ∧ Aside0 (jigsawlaw14_ClauseKeeps.j0 kq t579 t583 t590 t593 x42_7 t559 t560 t563 t566 t569 t572 t575 t576 = some r) ∧ Aside0 (kq ≤ k) ∧ Aside0 (Kd.N (Kd.slice 3 (Kd.int .i64)) 30 wc w.heap.size (fun k_ => some k_ ≠ (v584 : Value).ownBlock ∧ some k_ ≠ (v591 : Value).ownBlock ∧ some k_ ≠ ((.slice Ao15 t560.length co15) : Value).ownBlock ∧ some k_ ≠ ((.slice Ao17 t563.length co17) : Value).ownBlock ∧ some k_ ≠ ((.slice Ao19 t566.length co19) : Value).ownBlock ∧ some k_ ≠ ((.slice Ao21 t569.length co21) : Value).ownBlock ∧ some k_ ≠ ((.slice Ao23 t572.length co23) : Value).ownBlock ∧ some k_ ≠ ((.slice Ao26 t576.length co26) : Value).ownBlock ∧ k_ ≠ gb557 ∧ k_ ≠ gb582) (.slice Ao31 t579.length co31) t579) ∧ Aside0 (Kd.N (Kd.slice 3 (Kd.int .i64)) 30 wc w.heap.size (fun k_ => some k_ ≠ ((.slice Ao31 t579.length co31) : Value).ownBlock ∧ some k_ ≠ (v591 : Value).ownBlock ∧ some k_ ≠ ((.slice Ao15 t560.length co15) : Value).ownBlock ∧ some k_ ≠ ((.slice Ao17 t563.length co17) : Value).ownBlock ∧ k_ ≠ gb557 ∧ k_ ≠ gb582) v584 t583) ∧ Aside0 (Kd.N k58 58 wc w.heap.size (fun k_ => some k_ ≠ ((.slice Ao31 t579.length co31) : Value).ownBlock ∧ some k_ ≠ (v584 : Value).ownBlock ∧ some k_ ≠ ((.slice Ao15 t560.length co15) : Value).ownBlock ∧ some k_ ≠ ((.slice Ao17 t563.length co17) : Value).ownBlock ∧ some k_ ≠ ((.slice Ao19 t566.length co19) : Value).ownBlock ∧ some k_ ≠ ((.slice Ao21 t569.length co21) : Value).ownBlock ∧ some k_ ≠ ((.slice Ao23 t572.length co23) : Value).ownBlock ∧ some k_ ≠ ((.slice Ao26 t576.length co26) : Value).ownBlock ∧ k_ ≠ gb557 ∧ k_ ≠ gb582) v591 t590) ∧ Aside0 (Kd.R (Kd.int .i64) 3 wc w.heap.size (fun k_ => some k_ ≠ ((.slice Ao17 t563.length co17) : Value).ownBlock ∧ some k_ ≠ ((.slice Ao19 t566.length co19) : Value).ownBlock ∧ some k_ ≠ ((.slice Ao21 t569.length co21) : Value).ownBlock ∧ some k_ ≠ ((.slice Ao23 t572.length co23) : Value).ownBlock) (.slice Ao15 t560.length co15) t560) ∧ Aside0 (Kd.R (Kd.int .i64) 3 wc w.heap.size (fun k_ => some k_ ≠ ((.slice Ao15 t560.length co15) : Value).ownBlock ∧ some k_ ≠ ((.slice Ao19 t566.length co19) : Value).ownBlock ∧ some k_ ≠ ((.slice Ao21 t569.length co21) : Value).ownBlock ∧ some k_ ≠ ((.slice Ao23 t572.length co23) : Value).ownBlock) (.slice Ao17 t563.length co17) t563) ∧ Aside0 (Kd.R (Kd.int .i64) 3 wc w.heap.size (fun k_ => some k_ ≠ ((.slice Ao15 t560.length co15) : Value).ownBlock ∧ some k_ ≠ ((.slice Ao17 t563.length co17) : Value).ownBlock ∧ some k_ ≠ ((.slice Ao21 t569.length co21) : Value).ownBlock ∧ some k_ ≠ ((.slice Ao23 t572.length co23) : Value).ownBlock) (.slice Ao19 t566.length co19) t566) ∧ Aside0 (Kd.R (Kd.int .i64) 3 wc w.heap.size (fun k_ => some k_ ≠ ((.slice Ao15 t560.length co15) : Value).ownBlock ∧ some k_ ≠ ((.slice Ao17 t563.length co17) : Value).ownBlock ∧ some k_ ≠ ((.slice Ao19 t566.length co19) : Value).ownBlock ∧ some k_ ≠ ((.slice Ao23 t572.length co23) : Value).ownBlock) (.slice Ao21 t569.length co21) t569) ∧ Aside0 (Kd.R (Kd.int .i64) 3 wc w.heap.size (fun k_ => some k_ ≠ ((.slice Ao15 t560.length co15) : Value).ownBlock ∧ some k_ ≠ ((.slice Ao17 t563.length co17) : Value).ownBlock ∧ some k_ ≠ ((.slice Ao19 t566.length co19) : Value).ownBlock ∧ some k_ ≠ ((.slice Ao21 t569.length co21) : Value).ownBlock) (.slice Ao23 t572.length co23) t572) ∧ Aside0 (Kd.N (Kd.slice 3 (Kd.int .i64)) 30 wc w.heap.size (fun k_ => some k_ ≠ ((.slice Ao31 t579.length co31) : Value).ownBlock ∧ some k_ ≠ (v584 : Value).ownBlock ∧ some k_ ≠ (v591 : Value).ownBlock ∧ some k_ ≠ ((.slice Ao15 t560.length co15) : Value).ownBlock ∧ some k_ ≠ ((.slice Ao17 t563.length co17) : Value).ownBlock ∧ some k_ ≠ ((.slice Ao19 t566.length co19) : Value).ownBlock ∧ some k_ ≠ ((.slice Ao21 t569.length co21) : Value).ownBlock ∧ some k_ ≠ ((.slice Ao23 t572.length co23) : Value).ownBlock ∧ k_ ≠ gb557 ∧ k_ ≠ gb582) (.slice Ao26 t576.length co26) t576) ∧ Aside0 (wc.heap[gb557]? = some (.cells #[.int .u8 a0_0, (.slice A0_1 l0_1.length c0_1), (.slice A0_2 l0_2.length c0_2), (.slice A0_3 l0_3.length c0_3), .int .i16 a0_4, .int .u8 a0_5, (.slice A0_6 l0_6.length c0_6)] 29 (0, 0))) ∧ Aside0 (wc.heap[gb582]? = some (.cells #[.int .i64 t559, (.slice Ao15 t560.length co15), (.slice Ao17 t563.length co17), (.slice Ao19 t566.length co19), (.slice Ao21 t569.length co21), (.slice Ao23 t572.length co23), .int .i64 t575, (.slice Ao26 t576.length co26)] 32 (0, 0))) ∧ Aside0 (Below w.heap.size w wc))
 case first =>
  have H := HC8.out
  clear HC8
  have H' := Aside0.mk H
  clear H
  go_wp2
  go_meet
  case rel => exact ⟨_, (!t586), eq_, H', ⟨by first | omega | exact Nat.le_refl _⟩, ⟨by refine vN_ ?_; exact Kd.N_mono HO581.out (fun _ hk => ⟨hk.1.1.2, ⟨hk.2, ⟨hk.1.1.1.1, ⟨hk.1.1.1.2.1, ⟨hk.1.1.1.2.2.1, ⟨hk.1.1.1.2.2.2.1, ⟨hk.1.1.1.2.2.2.2.1, ⟨hk.1.1.1.2.2.2.2.2.1, ⟨hk.1.1.1.2.2.2.2.2.2.1, hk.1.1.1.2.2.2.2.2.2.2⟩⟩⟩⟩⟩⟩⟩⟩⟩)⟩, ⟨by refine vN_ ?_; exact Kd.N_mono HO585.out (fun _ hk => ⟨hk.1.1.2.2.1, ⟨hk.2, ⟨hk.1.1.1, ⟨hk.1.1.2.1, ⟨hk.1.1.2.2.2.1, hk.1.1.2.2.2.2⟩⟩⟩⟩⟩)⟩, ⟨by refine vN_ ?_; exact Kd.N_mono HO592.out (fun _ hk => ⟨hk.2.2.2.2.2.2.1, ⟨hk.2.2.2.2.2.2.2.1, ⟨hk.1, ⟨hk.2.1, ⟨hk.2.2.1, ⟨hk.2.2.2.1, ⟨hk.2.2.2.2.1, ⟨hk.2.2.2.2.2.1, ⟨hk.2.2.2.2.2.2.2.2.1, hk.2.2.2.2.2.2.2.2.2⟩⟩⟩⟩⟩⟩⟩⟩⟩)⟩, ⟨by refine vR_ ?_; exact HO562.out⟩, ⟨by refine vR_ ?_; exact HO565.out⟩, ⟨by refine vR_ ?_; exact HO568.out⟩, ⟨by refine vR_ ?_; exact HO571.out⟩, ⟨by refine vR_ ?_; exact HO574.out⟩, ⟨by refine vN_ ?_; exact Kd.N_mono HO578.out (fun _ hk => ⟨hk.1.1.1.2.2.2.2.2.1, ⟨hk.1.1.2, ⟨hk.2, ⟨hk.1.1.1.1, ⟨hk.1.1.1.2.1, ⟨hk.1.1.1.2.2.1, ⟨hk.1.1.1.2.2.2.1, ⟨hk.1.1.1.2.2.2.2.1, ⟨hk.1.1.1.2.2.2.2.2.2.1, hk.1.1.1.2.2.2.2.2.2.2⟩⟩⟩⟩⟩⟩⟩⟩⟩)⟩, ⟨by refine bk_ ?_; exact BK557.out⟩, ⟨by refine bk_ ?_; exact BK582.out⟩, ⟨bel_⟩⟩
 case rest =>
  clear HC8
  try clear c1
  try clear c2
  try clear p2
  try clear c7
  try clear c8
  try clear c9
  try clear c10
  try clear c15
  try clear c29
  try clear hcz30_0
  try clear hcz30_1
  try clear hcz30_2
  try clear hcz30_3
  try clear hcz30_4
  try clear hcz30_5
  try clear hcz30_6
  try clear hcz30_7
  try clear hfz30_0
  try clear hfz30_1
  try clear hfz30_2
  try clear hfz30_3
  try clear hfz30_4
  try clear hfz30_5
  try clear hfz30_6
  try clear hfz30_7
  obtain ⟨kq, x42_7, rfl, HA, HJ7, HO_6, HO_7, HO_9, HO_583001, HO_583002, HO_583003, HO_583004, HO_583005, HO_583007, BK557, BK582, HB⟩ := hcut
  cases kq with
  | zero => exact absurd HA.out (by simp [jigsawlaw14_ClauseKeeps.j0])
  | succ kj7 =>
   have H := HA.out
   clear HA
   simp only [jigsawlaw14_ClauseKeeps.j0] at H
   by_cases c37 : x42_7 = true
   ·
    subst c37
    have H1 : ((jigsawlaw14_wakes.f kj7).bind fun t594 => (some t594)) = some r := by rw [if_pos rfl] at H; exact H
    clear H
    have H := H1
    clear H1
    replace H := Option.bind_eq_some_iff.mp H
    obtain ⟨t594, A380, H⟩ := H
    try dsimp only at H
    have A38 := Aside0.mk A380
    clear A380
    obtain rfl := Option.some.inj H
    go_wp2_with (first | ((with_reducible refine gate_callee (f := 12) rfl ?_); refine goesL_ (some 43) rfl rfl Tryz.func12 (by kernel_rfl) rfl #[] rfl ar_ ?_; (with_reducible refine (jigsawlaw14_wakes.calls kj7 t594 _ ?_ A38.out).mono ?_); exact ca_ ((Kd.C_below HRtab.out HB.out)); rintro e w39 ⟨rfl, hb⟩; refine ⟨_, rfl, ?_⟩; replace HO_6 := Aside0.mk (Kd.N_below (vN_ HO_6.out) hb); replace HO_7 := Aside0.mk (Kd.N_below (vN_ HO_7.out) hb); replace HO_9 := Aside0.mk (Kd.N_below (vN_ HO_9.out) hb); replace HO_583001 := Aside0.mk (Kd.R_below (vR_ HO_583001.out) hb); replace HO_583002 := Aside0.mk (Kd.R_below (vR_ HO_583002.out) hb); replace HO_583003 := Aside0.mk (Kd.R_below (vR_ HO_583003.out) hb); replace HO_583004 := Aside0.mk (Kd.R_below (vR_ HO_583004.out) hb); replace HO_583005 := Aside0.mk (Kd.R_below (vR_ HO_583005.out) hb); replace HO_583007 := Aside0.mk (Kd.N_below (vN_ HO_583007.out) hb); replace BK557 := Aside0.mk (blk_below (bk_ BK557.out) hb); replace BK582 := Aside0.mk (blk_below (bk_ BK582.out) hb); replace HB := Aside0.mk (below_step bel_ hb); clear hb))
    go_ret
    exact ⟨by first | rfl | (simp [errW_none, errW_some] <;> rfl) | (simp [*, errW_none, errW_some] <;> rfl), bel_⟩
   ·
    replace c37 := Bool.eq_false_iff.mpr c37
    subst c37
    have H1 : (if t593 = true then (if (t590.length : Int) = (t579.length : Int) then (jigsawlaw14_ClauseKeeps.l0 kj7 t583 t590 t579 (t579.length : Int) 0 t559 t560 t563 t566 t569 t572 t575 t576) else (none)) else ((jigsawlaw14_wakes.f kj7).bind fun t595 => (if t595 = true then (some ((t583.length : Int) == 0)) else (none)))) = some r := by rw [if_neg (show ¬ (false = true) by decide)] at H; exact H
    clear H
    have H := H1
    clear H1
    by_cases c40 : t593 = true
    ·
     subst c40
     have H1 : (if (t590.length : Int) = (t579.length : Int) then (jigsawlaw14_ClauseKeeps.l0 kj7 t583 t590 t579 (t579.length : Int) 0 t559 t560 t563 t566 t569 t572 t575 t576) else (none)) = some r := by rw [if_pos rfl] at H; exact H
     clear H
     have H := H1
     clear H1
     by_cases c41 : (t590.length : Int) = (t579.length : Int)
     ·
      rw [if_pos c41] at H
      have c41b0 : ((t590.length : Int) == (t579.length : Int)) = true := beq_iff_eq.mpr c41
      have c41b1 : ((t590.length : Int) != (t579.length : Int)) = false := bne_eq_false_iff_eq.mpr c41
      have c41b2 : (t590.length == t579.length) = true := by first | simpa using c41 | (simp at c41 ⊢; omega)
      clear c41
      have H' := Aside0.mk H
      clear H
      obtain ⟨Ao42, co42, eo42⟩ := Kd.N_slice HO_9.out
      subst eo42
      go_wp2
      go_loopg [59] kj7 (fun kq v59 w' => ∃ (x59_2 : Int), v59 = .int .i64 x59_2 ∧ Aside0 (jigsawlaw14_ClauseKeeps.l0 kq t583 t590 t579 (t579.length : Int) x59_2 t559 t560 t563 t566 t569 t572 t575 t576 = some r) ∧ Aside0 (kq ≤ kj7) ∧ Aside0 (Kd.N (Kd.slice 3 (Kd.int .i64)) 30 w' w.heap.size (fun k_ => some k_ ≠ ((.slice Ao42 t590.length co42) : Value).ownBlock ∧ some k_ ≠ ((.slice Ao31 t579.length co31) : Value).ownBlock ∧ some k_ ≠ ((.slice Ao15 t560.length co15) : Value).ownBlock ∧ some k_ ≠ ((.slice Ao17 t563.length co17) : Value).ownBlock ∧ k_ ≠ gb557 ∧ k_ ≠ gb582) v584 t583) ∧ Aside0 (Kd.N k58 58 w' w.heap.size (fun k_ => some k_ ≠ (v584 : Value).ownBlock ∧ some k_ ≠ ((.slice Ao31 t579.length co31) : Value).ownBlock ∧ some k_ ≠ ((.slice Ao15 t560.length co15) : Value).ownBlock ∧ some k_ ≠ ((.slice Ao17 t563.length co17) : Value).ownBlock ∧ some k_ ≠ ((.slice Ao19 t566.length co19) : Value).ownBlock ∧ some k_ ≠ ((.slice Ao21 t569.length co21) : Value).ownBlock ∧ some k_ ≠ ((.slice Ao23 t572.length co23) : Value).ownBlock ∧ some k_ ≠ ((.slice Ao26 t576.length co26) : Value).ownBlock ∧ k_ ≠ gb557 ∧ k_ ≠ gb582) (.slice Ao42 t590.length co42) t590) ∧ Aside0 (Kd.N (Kd.slice 3 (Kd.int .i64)) 30 w' w.heap.size (fun k_ => some k_ ≠ (v584 : Value).ownBlock ∧ some k_ ≠ ((.slice Ao42 t590.length co42) : Value).ownBlock ∧ some k_ ≠ ((.slice Ao15 t560.length co15) : Value).ownBlock ∧ some k_ ≠ ((.slice Ao17 t563.length co17) : Value).ownBlock ∧ some k_ ≠ ((.slice Ao19 t566.length co19) : Value).ownBlock ∧ some k_ ≠ ((.slice Ao21 t569.length co21) : Value).ownBlock ∧ some k_ ≠ ((.slice Ao23 t572.length co23) : Value).ownBlock ∧ some k_ ≠ ((.slice Ao26 t576.length co26) : Value).ownBlock ∧ k_ ≠ gb557 ∧ k_ ≠ gb582) (.slice Ao31 t579.length co31) t579) ∧ Aside0 (Kd.R (Kd.int .i64) 3 w' w.heap.size (fun k_ => some k_ ≠ ((.slice Ao17 t563.length co17) : Value).ownBlock ∧ some k_ ≠ ((.slice Ao19 t566.length co19) : Value).ownBlock ∧ some k_ ≠ ((.slice Ao21 t569.length co21) : Value).ownBlock ∧ some k_ ≠ ((.slice Ao23 t572.length co23) : Value).ownBlock) (.slice Ao15 t560.length co15) t560) ∧ Aside0 (Kd.R (Kd.int .i64) 3 w' w.heap.size (fun k_ => some k_ ≠ ((.slice Ao15 t560.length co15) : Value).ownBlock ∧ some k_ ≠ ((.slice Ao19 t566.length co19) : Value).ownBlock ∧ some k_ ≠ ((.slice Ao21 t569.length co21) : Value).ownBlock ∧ some k_ ≠ ((.slice Ao23 t572.length co23) : Value).ownBlock) (.slice Ao17 t563.length co17) t563) ∧ Aside0 (Kd.R (Kd.int .i64) 3 w' w.heap.size (fun k_ => some k_ ≠ ((.slice Ao15 t560.length co15) : Value).ownBlock ∧ some k_ ≠ ((.slice Ao17 t563.length co17) : Value).ownBlock ∧ some k_ ≠ ((.slice Ao21 t569.length co21) : Value).ownBlock ∧ some k_ ≠ ((.slice Ao23 t572.length co23) : Value).ownBlock) (.slice Ao19 t566.length co19) t566) ∧ Aside0 (Kd.R (Kd.int .i64) 3 w' w.heap.size (fun k_ => some k_ ≠ ((.slice Ao15 t560.length co15) : Value).ownBlock ∧ some k_ ≠ ((.slice Ao17 t563.length co17) : Value).ownBlock ∧ some k_ ≠ ((.slice Ao19 t566.length co19) : Value).ownBlock ∧ some k_ ≠ ((.slice Ao23 t572.length co23) : Value).ownBlock) (.slice Ao21 t569.length co21) t569) ∧ Aside0 (Kd.R (Kd.int .i64) 3 w' w.heap.size (fun k_ => some k_ ≠ ((.slice Ao15 t560.length co15) : Value).ownBlock ∧ some k_ ≠ ((.slice Ao17 t563.length co17) : Value).ownBlock ∧ some k_ ≠ ((.slice Ao19 t566.length co19) : Value).ownBlock ∧ some k_ ≠ ((.slice Ao21 t569.length co21) : Value).ownBlock) (.slice Ao23 t572.length co23) t572) ∧ Aside0 (Kd.N (Kd.slice 3 (Kd.int .i64)) 30 w' w.heap.size (fun k_ => some k_ ≠ (v584 : Value).ownBlock ∧ some k_ ≠ ((.slice Ao42 t590.length co42) : Value).ownBlock ∧ some k_ ≠ ((.slice Ao31 t579.length co31) : Value).ownBlock ∧ some k_ ≠ ((.slice Ao15 t560.length co15) : Value).ownBlock ∧ some k_ ≠ ((.slice Ao17 t563.length co17) : Value).ownBlock ∧ some k_ ≠ ((.slice Ao19 t566.length co19) : Value).ownBlock ∧ some k_ ≠ ((.slice Ao21 t569.length co21) : Value).ownBlock ∧ some k_ ≠ ((.slice Ao23 t572.length co23) : Value).ownBlock ∧ k_ ≠ gb557 ∧ k_ ≠ gb582) (.slice Ao26 t576.length co26) t576) ∧ Aside0 (w'.heap[gb557]? = some (.cells #[.int .u8 a0_0, (.slice A0_1 l0_1.length c0_1), (.slice A0_2 l0_2.length c0_2), (.slice A0_3 l0_3.length c0_3), .int .i16 a0_4, .int .u8 a0_5, (.slice A0_6 l0_6.length c0_6)] 29 (0, 0))) ∧ Aside0 (w'.heap[gb582]? = some (.cells #[.int .i64 t559, (.slice Ao15 t560.length co15), (.slice Ao17 t563.length co17), (.slice Ao19 t566.length co19), (.slice Ao21 t569.length co21), (.slice Ao23 t572.length co23), .int .i64 t575, (.slice Ao26 t576.length co26)] 32 (0, 0))) ∧ Aside0 (Below w.heap.size w w'))
      case atStart => exact ⟨(0), eq_, H', ⟨Nat.le_refl _⟩, ⟨by refine vN_ ?_; exact Kd.N_mono HO_7.out (fun _ hk => ⟨hk.2.1, ⟨hk.1, ⟨hk.2.2.1, ⟨hk.2.2.2.1, ⟨hk.2.2.2.2.1, hk.2.2.2.2.2⟩⟩⟩⟩⟩)⟩, ⟨by refine vN_ ?_; exact Kd.N_mono HO_9.out (fun _ hk => ⟨hk.2.1, ⟨hk.1, ⟨hk.2.2.1, ⟨hk.2.2.2.1, ⟨hk.2.2.2.2.1, ⟨hk.2.2.2.2.2.1, ⟨hk.2.2.2.2.2.2.1, ⟨hk.2.2.2.2.2.2.2.1, ⟨hk.2.2.2.2.2.2.2.2.1, hk.2.2.2.2.2.2.2.2.2⟩⟩⟩⟩⟩⟩⟩⟩⟩)⟩, ⟨by refine vN_ ?_; exact HO_6.out⟩, ⟨by refine vR_ ?_; exact HO_583001.out⟩, ⟨by refine vR_ ?_; exact HO_583002.out⟩, ⟨by refine vR_ ?_; exact HO_583003.out⟩, ⟨by refine vR_ ?_; exact HO_583004.out⟩, ⟨by refine vR_ ?_; exact HO_583005.out⟩, ⟨by refine vN_ ?_; exact Kd.N_mono HO_583007.out (fun _ hk => ⟨hk.2.1, ⟨hk.2.2.1, ⟨hk.1, ⟨hk.2.2.2.1, ⟨hk.2.2.2.2.1, ⟨hk.2.2.2.2.2.1, ⟨hk.2.2.2.2.2.2.1, ⟨hk.2.2.2.2.2.2.2.1, ⟨hk.2.2.2.2.2.2.2.2.1, hk.2.2.2.2.2.2.2.2.2⟩⟩⟩⟩⟩⟩⟩⟩⟩)⟩, ⟨by refine bk_ ?_; exact BK557.out⟩, ⟨by refine bk_ ?_; exact BK582.out⟩, ⟨bel_⟩⟩
      case round =>
       clear H'
       try clear c1
       try clear c2
       try clear p2
       try clear c3
       try clear c4
       try clear c7
       try clear c8
       try clear c9
       try clear c10
       try clear c12
       try clear c15
       try clear c29
       try clear c37
       try clear c40
       try clear c41
       try clear c41b0
       try clear c41b1
       try clear c41b2
       try clear hcz30_0
       try clear hcz30_1
       try clear hcz30_2
       try clear hcz30_3
       try clear hcz30_4
       try clear hcz30_5
       try clear hcz30_6
       try clear hcz30_7
       try clear hfz30_0
       try clear hfz30_1
       try clear hfz30_2
       try clear hfz30_3
       try clear hfz30_4
       try clear hfz30_5
       try clear hfz30_6
       try clear hfz30_7
       try clear p2
       obtain ⟨x59_2, rfl, HA, HK2, HO_7, HO_9, HO_57, HO_583001, HO_583002, HO_583003, HO_583004, HO_583005, HO_583007, BK557, BK582, HB⟩ := hrel
       cases gk with
       | zero => exact absurd HA.out (by simp [jigsawlaw14_ClauseKeeps.l0])
       | succ k2 =>
        have H := HA.out
        clear HA
        simp only [jigsawlaw14_ClauseKeeps.l0] at H
        by_cases c43 : x59_2 < (t579.length : Int)
        ·
         rw [if_pos c43] at H
         have c43b0 : decide (x59_2 < (t579.length : Int)) = true := decide_eq_true c43
         clear c43
         by_cases c44 : 0 ≤ x59_2
         ·
          rw [if_pos c44] at H
          have c44b0 : decide (0 ≤ x59_2) = true := decide_eq_true c44
          clear c44
          by_cases c45 : x59_2 < (t579.length : Int)
          ·
           rw [if_pos c45] at H
           have c45b0 : decide (x59_2 < (t579.length : Int)) = true := decide_eq_true c45
           clear c45
           by_cases c46 : x59_2 < (t590.length : Int)
           ·
            rw [if_pos c46] at H
            have c46b0 : decide (x59_2 < (t590.length : Int)) = true := decide_eq_true c46
            clear c46
            replace H := Option.bind_eq_some_iff.mp H
            obtain ⟨t598, A470, H⟩ := H
            try dsimp only at H
            have A47 := Aside0.mk A470
            clear A470
            have H' := Aside0.mk H
            clear H
            have p596 : 0 ≤ (x59_2 : Int) := dq_
            have q596 : x59_2 < (t579.length : Int) := dq_
            obtain ⟨ad596, A596_0, c596_0, e596, hx596_0, hl596_0, hi596_0⟩ := at_L7 (Kd.N_reads' HO_57.out).2.2 x59_2 p596 q596
            cases e596
            obtain ⟨ce596, hce596, hMe596, hcc596⟩ := Kd.N_get HO_57.out [] x59_2 p596 (by first | exact q596 | exact dq_ | (have e_ := (Kd.N_reads' HO_57.out).1; omega))
            obtain ⟨ua596_0, uc596_0, rfl, ul596_0, ge596_0⟩ := Kd.FK_slice_open hMe596
            have hv596_0 := hcc596 0 _ rfl
            rw [Nat.add_zero, show ((Kd.slice 3 (Kd.int .i64))).sz = 1 from rfl, Nat.mul_one] at hv596_0
            replace hv596_0 := Option.some.inj (hv596_0.symm.trans hx596_0)
            injection hv596_0 with hva_ hvn_ hvc_
            rw [hva_] at ge596_0
            rw [hvc_] at ul596_0
            clear hva_ hvn_ hvc_ ge596_0 ul596_0
            clear hcc596 hce596
            have HR596_0 := Aside0.mk hi596_0
            have HC596_0 := Aside0.mk hl596_0
            clear hi596_0 hl596_0
            replace p596 := eq_true p596
            replace q596 := eq_true q596
            have p597 : 0 ≤ (x59_2 : Int) := dq_
            have q597 : x59_2 < (t590.length : Int) := dq_
            obtain ⟨ad597, A597_1, c597_1, e597, hx597_0, hx597_1, hx597_2, hx597_3, hx597_4, hl597_1, hi597_1⟩ := at_T58 (Kd.N_reads' HO_9.out).2.2 x59_2 p597 q597
            cases e597
            obtain ⟨ce597, hce597, hMe597, hcc597⟩ := Kd.N_get HO_9.out z58 x59_2 p597 (by first | exact q597 | exact dq_ | (have e_ := (Kd.N_reads' HO_9.out).1; omega))
            obtain ⟨ua597_1, uc597_1, rfl, ul597_1, ge597_1⟩ := k58_openF hMe597
            have hv597_1 := hcc597 1 _ rfl
            rw [add_field _ _ 1 (by omega)] at hv597_1
            replace hv597_1 := Option.some.inj (hv597_1.symm.trans hx597_1)
            injection hv597_1 with hva_ hvn_ hvc_
            rw [hva_] at ge597_1
            rw [hvc_] at ul597_1
            clear hva_ hvn_ hvc_ ge597_1 ul597_1
            clear hcc597 hce597
            have HR597_1 := Aside0.mk hi597_1
            have HC597_1 := Aside0.mk hl597_1
            clear hi597_1 hl597_1
            replace p597 := eq_true p597
            replace q597 := eq_true q597
            go_wp2_with (first | ((with_reducible refine gate_callee (f := 22) rfl ?_); refine goesL_ (some 68) rfl rfl Tryz.func22 (by kernel_rfl) rfl #[.agg #[.int .i64 ((rd_T58 t590 x59_2).f0), .slice A597_1 ((rd_T58 t590 x59_2).f1).length c597_1, .int .i64 ((rd_T58 t590 x59_2).f2), .int .i64 ((rd_T58 t590 x59_2).f3), .int .i64 ((rd_T58 t590 x59_2).f4)]] rfl ar_ ?_; (with_reducible refine (dom_Dom_List.calls k2 ((rd_T58 t590 x59_2).f0) _ _ ((rd_T58 t590 x59_2).f1) ((rd_T58 t590 x59_2).f2) ((rd_T58 t590 x59_2).f3) ((rd_T58 t590 x59_2).f4) t598 _ ?side1 ?side2 ?side3 A47.out).mono ?_); (case side1 => repeat (first | exact (by repeat (first | (with_reducible exact HR597_1.out) | (with_reducible refine Kd.C_alloc ?_ _) | (with_reducible refine Kd.C_drewN ?_ _) | (with_reducible refine Kd.C_drew ?_) | exact HR597_1.out)) | (with_reducible refine Kd.C_alloc ?_ _) | (with_reducible refine Kd.C_drewN ?_ _) | (with_reducible refine Kd.C_drew ?_))); (case side2 => exact HC597_1.out); (case side3 => exact ca_ ((Kd.C_below HRtab.out HB.out))); rintro e w48 ⟨v599, rfl, ho0, hb⟩; refine ⟨_, rfl, ?_⟩; replace HO_7 := Aside0.mk (Kd.N_elder' (vN_ HO_7.out) (Kd.R_base ho0) hb); replace HO_9 := Aside0.mk (Kd.N_elder' (vN_ HO_9.out) (Kd.R_base ho0) hb); replace HO_57 := Aside0.mk (Kd.N_elder' (vN_ HO_57.out) (Kd.R_base ho0) hb); replace HO_583007 := Aside0.mk (Kd.N_elder' (vN_ HO_583007.out) (Kd.R_base ho0) hb); have HO600 := Aside0.mk (Kd.R_lower (Kd.R_new' (Kd.R_new' (Kd.R_new' (Kd.R_new' (Kd.R_new' ho0 (Kd.R_lt (vR_ HO_583001.out))) (Kd.R_lt (vR_ HO_583002.out))) (Kd.R_lt (vR_ HO_583003.out))) (Kd.R_lt (vR_ HO_583004.out))) (Kd.R_lt (vR_ HO_583005.out))) (below_size bel_)); replace HO_583001 := Aside0.mk (Kd.R_elder' (vR_ HO_583001.out) (Kd.R_base ho0) hb); replace HO_583002 := Aside0.mk (Kd.R_elder' (vR_ HO_583002.out) (Kd.R_base ho0) hb); replace HO_583003 := Aside0.mk (Kd.R_elder' (vR_ HO_583003.out) (Kd.R_base ho0) hb); replace HO_583004 := Aside0.mk (Kd.R_elder' (vR_ HO_583004.out) (Kd.R_base ho0) hb); replace HO_583005 := Aside0.mk (Kd.R_elder' (vR_ HO_583005.out) (Kd.R_base ho0) hb); replace BK557 := Aside0.mk (blk_below (bk_ BK557.out) hb); replace BK582 := Aside0.mk (blk_below (bk_ BK582.out) hb); replace HR596_0 := Aside0.mk (Kd.C_below (by repeat (first | (with_reducible exact HR596_0.out) | (with_reducible refine Kd.C_alloc ?_ _) | (with_reducible refine Kd.C_drewN ?_ _) | (with_reducible refine Kd.C_drew ?_) | exact HR596_0.out)) hb); replace HR597_1 := Aside0.mk (Kd.C_below (by repeat (first | (with_reducible exact HR597_1.out) | (with_reducible refine Kd.C_alloc ?_ _) | (with_reducible refine Kd.C_drewN ?_ _) | (with_reducible refine Kd.C_drew ?_) | exact HR597_1.out)) hb); replace HB := Aside0.mk (below_step bel_ hb); clear hb ho0; obtain ⟨Ao49, co49, eo49⟩ := Kd.R_slice HO600.out; subst eo49))
            go_loopg [70] k2 (fun kq v70 w' => ∃ (x70_3 : Int), v70 = .int .i64 x70_3 ∧ Aside0 (jigsawlaw14_ClauseKeeps.l1 kq t583 t590 (rd_L7 t579 x59_2) t579 (t579.length : Int) x59_2 t598 (t598.length : Int) x70_3 t559 t560 t563 t566 t569 t572 t575 t576 = some r) ∧ Aside0 (kq ≤ k2) ∧ Aside0 (Kd.N (Kd.slice 3 (Kd.int .i64)) 30 w' w.heap.size (fun k_ => some k_ ≠ ((.slice (some ad597) t590.length co42) : Value).ownBlock ∧ some k_ ≠ ((.slice (some ad596) t579.length co31) : Value).ownBlock ∧ some k_ ≠ ((.slice Ao49 t598.length co49) : Value).ownBlock ∧ some k_ ≠ ((.slice Ao15 t560.length co15) : Value).ownBlock ∧ some k_ ≠ ((.slice Ao17 t563.length co17) : Value).ownBlock ∧ k_ ≠ gb557 ∧ k_ ≠ gb582) v584 t583) ∧ Aside0 (Kd.N k58 58 w' w.heap.size (fun k_ => some k_ ≠ (v584 : Value).ownBlock ∧ some k_ ≠ ((.slice (some ad596) t579.length co31) : Value).ownBlock ∧ some k_ ≠ ((.slice Ao49 t598.length co49) : Value).ownBlock ∧ some k_ ≠ ((.slice Ao15 t560.length co15) : Value).ownBlock ∧ some k_ ≠ ((.slice Ao17 t563.length co17) : Value).ownBlock ∧ some k_ ≠ ((.slice Ao19 t566.length co19) : Value).ownBlock ∧ some k_ ≠ ((.slice Ao21 t569.length co21) : Value).ownBlock ∧ some k_ ≠ ((.slice Ao23 t572.length co23) : Value).ownBlock ∧ some k_ ≠ ((.slice Ao26 t576.length co26) : Value).ownBlock ∧ k_ ≠ gb557 ∧ k_ ≠ gb582) (.slice (some ad597) t590.length co42) t590) ∧ Aside0 (Kd.N (Kd.slice 3 (Kd.int .i64)) 30 w' w.heap.size (fun k_ => some k_ ≠ (v584 : Value).ownBlock ∧ some k_ ≠ ((.slice (some ad597) t590.length co42) : Value).ownBlock ∧ some k_ ≠ ((.slice Ao49 t598.length co49) : Value).ownBlock ∧ some k_ ≠ ((.slice Ao15 t560.length co15) : Value).ownBlock ∧ some k_ ≠ ((.slice Ao17 t563.length co17) : Value).ownBlock ∧ some k_ ≠ ((.slice Ao19 t566.length co19) : Value).ownBlock ∧ some k_ ≠ ((.slice Ao21 t569.length co21) : Value).ownBlock ∧ some k_ ≠ ((.slice Ao23 t572.length co23) : Value).ownBlock ∧ some k_ ≠ ((.slice Ao26 t576.length co26) : Value).ownBlock ∧ k_ ≠ gb557 ∧ k_ ≠ gb582) (.slice (some ad596) t579.length co31) t579) ∧ Aside0 (Kd.R (Kd.int .i64) 3 w' w.heap.size (fun k_ => some k_ ≠ ((.slice Ao15 t560.length co15) : Value).ownBlock ∧ some k_ ≠ ((.slice Ao17 t563.length co17) : Value).ownBlock ∧ some k_ ≠ ((.slice Ao19 t566.length co19) : Value).ownBlock ∧ some k_ ≠ ((.slice Ao21 t569.length co21) : Value).ownBlock ∧ some k_ ≠ ((.slice Ao23 t572.length co23) : Value).ownBlock) (.slice Ao49 t598.length co49) t598) ∧ Aside0 (Kd.R (Kd.int .i64) 3 w' w.heap.size (fun k_ => some k_ ≠ ((.slice Ao49 t598.length co49) : Value).ownBlock ∧ some k_ ≠ ((.slice Ao17 t563.length co17) : Value).ownBlock ∧ some k_ ≠ ((.slice Ao19 t566.length co19) : Value).ownBlock ∧ some k_ ≠ ((.slice Ao21 t569.length co21) : Value).ownBlock ∧ some k_ ≠ ((.slice Ao23 t572.length co23) : Value).ownBlock) (.slice Ao15 t560.length co15) t560) ∧ Aside0 (Kd.R (Kd.int .i64) 3 w' w.heap.size (fun k_ => some k_ ≠ ((.slice Ao49 t598.length co49) : Value).ownBlock ∧ some k_ ≠ ((.slice Ao15 t560.length co15) : Value).ownBlock ∧ some k_ ≠ ((.slice Ao19 t566.length co19) : Value).ownBlock ∧ some k_ ≠ ((.slice Ao21 t569.length co21) : Value).ownBlock ∧ some k_ ≠ ((.slice Ao23 t572.length co23) : Value).ownBlock) (.slice Ao17 t563.length co17) t563) ∧ Aside0 (Kd.R (Kd.int .i64) 3 w' w.heap.size (fun k_ => some k_ ≠ ((.slice Ao49 t598.length co49) : Value).ownBlock ∧ some k_ ≠ ((.slice Ao15 t560.length co15) : Value).ownBlock ∧ some k_ ≠ ((.slice Ao17 t563.length co17) : Value).ownBlock ∧ some k_ ≠ ((.slice Ao21 t569.length co21) : Value).ownBlock ∧ some k_ ≠ ((.slice Ao23 t572.length co23) : Value).ownBlock) (.slice Ao19 t566.length co19) t566) ∧ Aside0 (Kd.R (Kd.int .i64) 3 w' w.heap.size (fun k_ => some k_ ≠ ((.slice Ao49 t598.length co49) : Value).ownBlock ∧ some k_ ≠ ((.slice Ao15 t560.length co15) : Value).ownBlock ∧ some k_ ≠ ((.slice Ao17 t563.length co17) : Value).ownBlock ∧ some k_ ≠ ((.slice Ao19 t566.length co19) : Value).ownBlock ∧ some k_ ≠ ((.slice Ao23 t572.length co23) : Value).ownBlock) (.slice Ao21 t569.length co21) t569) ∧ Aside0 (Kd.R (Kd.int .i64) 3 w' w.heap.size (fun k_ => some k_ ≠ ((.slice Ao49 t598.length co49) : Value).ownBlock ∧ some k_ ≠ ((.slice Ao15 t560.length co15) : Value).ownBlock ∧ some k_ ≠ ((.slice Ao17 t563.length co17) : Value).ownBlock ∧ some k_ ≠ ((.slice Ao19 t566.length co19) : Value).ownBlock ∧ some k_ ≠ ((.slice Ao21 t569.length co21) : Value).ownBlock) (.slice Ao23 t572.length co23) t572) ∧ Aside0 (Kd.N (Kd.slice 3 (Kd.int .i64)) 30 w' w.heap.size (fun k_ => some k_ ≠ (v584 : Value).ownBlock ∧ some k_ ≠ ((.slice (some ad597) t590.length co42) : Value).ownBlock ∧ some k_ ≠ ((.slice (some ad596) t579.length co31) : Value).ownBlock ∧ some k_ ≠ ((.slice Ao49 t598.length co49) : Value).ownBlock ∧ some k_ ≠ ((.slice Ao15 t560.length co15) : Value).ownBlock ∧ some k_ ≠ ((.slice Ao17 t563.length co17) : Value).ownBlock ∧ some k_ ≠ ((.slice Ao19 t566.length co19) : Value).ownBlock ∧ some k_ ≠ ((.slice Ao21 t569.length co21) : Value).ownBlock ∧ some k_ ≠ ((.slice Ao23 t572.length co23) : Value).ownBlock ∧ k_ ≠ gb557 ∧ k_ ≠ gb582) (.slice Ao26 t576.length co26) t576) ∧ Aside0 (w'.heap[gb557]? = some (.cells #[.int .u8 a0_0, (.slice A0_1 l0_1.length c0_1), (.slice A0_2 l0_2.length c0_2), (.slice A0_3 l0_3.length c0_3), .int .i16 a0_4, .int .u8 a0_5, (.slice A0_6 l0_6.length c0_6)] 29 (0, 0))) ∧ Aside0 (w'.heap[gb582]? = some (.cells #[.int .i64 t559, (.slice Ao15 t560.length co15), (.slice Ao17 t563.length co17), (.slice Ao19 t566.length co19), (.slice Ao21 t569.length co21), (.slice Ao23 t572.length co23), .int .i64 t575, (.slice Ao26 t576.length co26)] 32 (0, 0))) ∧ Aside0 (Kd.C (Kd.int .i64) w' A596_0 (rd_L7 t579 x59_2).length (rd_L7 t579 x59_2)) ∧ Aside0 (Kd.C (Kd.int .u64) w' A597_1 ((rd_T58 t590 x59_2).f1).length ((rd_T58 t590 x59_2).f1)) ∧ Aside0 (Below w.heap.size w w'))
            case atStart => exact ⟨(0), eq_, H', ⟨Nat.le_refl _⟩, ⟨by refine vN_ ?_; exact Kd.N_mono HO_7.out (fun _ hk => ⟨hk.1.1, ⟨hk.1.2.1, ⟨hk.2, ⟨hk.1.2.2.1, ⟨hk.1.2.2.2.1, ⟨hk.1.2.2.2.2.1, hk.1.2.2.2.2.2⟩⟩⟩⟩⟩⟩)⟩, ⟨by refine vN_ ?_; exact Kd.N_mono HO_9.out (fun _ hk => ⟨hk.1.1, ⟨hk.1.2.1, ⟨hk.2, ⟨hk.1.2.2.1, ⟨hk.1.2.2.2.1, ⟨hk.1.2.2.2.2.1, ⟨hk.1.2.2.2.2.2.1, ⟨hk.1.2.2.2.2.2.2.1, ⟨hk.1.2.2.2.2.2.2.2.1, ⟨hk.1.2.2.2.2.2.2.2.2.1, hk.1.2.2.2.2.2.2.2.2.2⟩⟩⟩⟩⟩⟩⟩⟩⟩⟩)⟩, ⟨by refine vN_ ?_; exact Kd.N_mono HO_57.out (fun _ hk => ⟨hk.1.1, ⟨hk.1.2.1, ⟨hk.2, ⟨hk.1.2.2.1, ⟨hk.1.2.2.2.1, ⟨hk.1.2.2.2.2.1, ⟨hk.1.2.2.2.2.2.1, ⟨hk.1.2.2.2.2.2.2.1, ⟨hk.1.2.2.2.2.2.2.2.1, ⟨hk.1.2.2.2.2.2.2.2.2.1, hk.1.2.2.2.2.2.2.2.2.2⟩⟩⟩⟩⟩⟩⟩⟩⟩⟩)⟩, ⟨by refine vR_ ?_; exact Kd.R_mono HO600.out (fun _ hk => ⟨hk.1.1.1.1.2, ⟨hk.1.1.1.2, ⟨hk.1.1.2, ⟨hk.1.2, hk.2⟩⟩⟩⟩)⟩, ⟨by refine vR_ ?_; exact Kd.R_mono HO_583001.out (fun _ hk => ⟨hk.2, ⟨hk.1.1, ⟨hk.1.2.1, ⟨hk.1.2.2.1, hk.1.2.2.2⟩⟩⟩⟩)⟩, ⟨by refine vR_ ?_; exact Kd.R_mono HO_583002.out (fun _ hk => ⟨hk.2, ⟨hk.1.1, ⟨hk.1.2.1, ⟨hk.1.2.2.1, hk.1.2.2.2⟩⟩⟩⟩)⟩, ⟨by refine vR_ ?_; exact Kd.R_mono HO_583003.out (fun _ hk => ⟨hk.2, ⟨hk.1.1, ⟨hk.1.2.1, ⟨hk.1.2.2.1, hk.1.2.2.2⟩⟩⟩⟩)⟩, ⟨by refine vR_ ?_; exact Kd.R_mono HO_583004.out (fun _ hk => ⟨hk.2, ⟨hk.1.1, ⟨hk.1.2.1, ⟨hk.1.2.2.1, hk.1.2.2.2⟩⟩⟩⟩)⟩, ⟨by refine vR_ ?_; exact Kd.R_mono HO_583005.out (fun _ hk => ⟨hk.2, ⟨hk.1.1, ⟨hk.1.2.1, ⟨hk.1.2.2.1, hk.1.2.2.2⟩⟩⟩⟩)⟩, ⟨by refine vN_ ?_; exact Kd.N_mono HO_583007.out (fun _ hk => ⟨hk.1.1, ⟨hk.1.2.1, ⟨hk.1.2.2.1, ⟨hk.2, ⟨hk.1.2.2.2.1, ⟨hk.1.2.2.2.2.1, ⟨hk.1.2.2.2.2.2.1, ⟨hk.1.2.2.2.2.2.2.1, ⟨hk.1.2.2.2.2.2.2.2.1, ⟨hk.1.2.2.2.2.2.2.2.2.1, hk.1.2.2.2.2.2.2.2.2.2⟩⟩⟩⟩⟩⟩⟩⟩⟩⟩)⟩, ⟨by refine bk_ ?_; exact BK557.out⟩, ⟨by refine bk_ ?_; exact BK582.out⟩, ⟨by repeat (first | (with_reducible exact HR596_0.out) | (with_reducible refine Kd.C_alloc ?_ _) | (with_reducible refine Kd.C_drewN ?_ _) | (with_reducible refine Kd.C_drew ?_) | exact HR596_0.out)⟩, ⟨by repeat (first | (with_reducible exact HR597_1.out) | (with_reducible refine Kd.C_alloc ?_ _) | (with_reducible refine Kd.C_drewN ?_ _) | (with_reducible refine Kd.C_drew ?_) | exact HR597_1.out)⟩, ⟨bel_⟩⟩
            case round =>
             clear H'
             try clear c1
             try clear c2
             try clear p2
             try clear c3
             try clear c4
             try clear c5
             try clear p5
             try clear q5
             try clear hx5
             try clear c7
             try clear c8
             try clear c9
             try clear c10
             try clear c12
             try clear c15
             try clear c22
             try clear c29
             try clear c37
             try clear c40
             try clear c41
             try clear c41b0
             try clear c41b1
             try clear c41b2
             try clear c43
             try clear c43b0
             try clear c44
             try clear c44b0
             try clear c45
             try clear c45b0
             try clear c46
             try clear c46b0
             try clear hcz30_0
             try clear hcz30_1
             try clear hcz30_2
             try clear hcz30_3
             try clear hcz30_4
             try clear hcz30_5
             try clear hcz30_6
             try clear hcz30_7
             try clear hfz30_0
             try clear hfz30_1
             try clear hfz30_2
             try clear hfz30_3
             try clear hfz30_4
             try clear hfz30_5
             try clear hfz30_6
             try clear hfz30_7
             try clear hx596_0
             try clear hx597_0
             try clear hx597_1
             try clear hx597_2
             try clear hx597_3
             try clear hx597_4
             try clear p2
             try clear p596
             try clear p597
             try clear q596
             try clear q597
             obtain ⟨x70_3, rfl, HA, HK3, HO_7, HO_9, HO_57, HO_68, HO_583001, HO_583002, HO_583003, HO_583004, HO_583005, HO_583007, BK557, BK582, HR596_0, HR597_1, HB⟩ := hrel
             cases gk with
             | zero => exact absurd HA.out (by simp [jigsawlaw14_ClauseKeeps.l1])
             | succ k3 =>
              have H := HA.out
              clear HA
              simp only [jigsawlaw14_ClauseKeeps.l1] at H
              by_cases c50 : x70_3 < (t598.length : Int)
              ·
               rw [if_pos c50] at H
               have c50b0 : decide (x70_3 < (t598.length : Int)) = true := decide_eq_true c50
               clear c50
               by_cases c51 : 0 ≤ x70_3
               ·
                rw [if_pos c51] at H
                have c51b0 : decide (0 ≤ x70_3) = true := decide_eq_true c51
                clear c51
                by_cases c52 : x70_3 < (t598.length : Int)
                ·
                 rw [if_pos c52] at H
                 have c52b0 : decide (x70_3 < (t598.length : Int)) = true := decide_eq_true c52
                 clear c52
                 replace H := Option.bind_eq_some_iff.mp H
                 obtain ⟨t602, A530, H⟩ := H
                 try dsimp only at H
                 have A53 := Aside0.mk A530
                 clear A530
                 by_cases c54 : t602 = true
                 ·
                  subst c54
                  have H1 : (jigsawlaw14_ClauseKeeps.l1 k3 t583 t590 (rd_L7 t579 x59_2) t579 (t579.length : Int) x59_2 t598 (t598.length : Int) (wrap64 (x70_3 + 1)) t559 t560 t563 t566 t569 t572 t575 t576) = some r := by rw [if_pos rfl] at H; exact H
                  clear H
                  have H := H1
                  clear H1
                  have H' := Aside0.mk H
                  clear H
                  have p601 : 0 ≤ (x70_3 : Int) := dq_
                  have q601 : x70_3 < (t598.length : Int) := dq_
                  obtain ⟨ad601, e601, hx601_0⟩ := Kd.at_int (Kd.R_reads' HO_68.out).2.2 x70_3 p601 q601
                  cases e601
                  replace p601 := eq_true p601
                  replace q601 := eq_true q601
                  go_wp2_with (first | ((with_reducible refine gate_callee (f := 23) rfl ?_); refine goesL_ (some 76) rfl rfl Tryz.func23 (by kernel_rfl) rfl #[.slice A596_0 (rd_L7 t579 x59_2).length c596_0, .int .i64 (rd t598 x70_3)] rfl ar_ ?_; (with_reducible refine (slices_Contains_int_int.calls k3 _ _ (rd_L7 t579 x59_2) (rd t598 x70_3) true _ ?_ ?_ A53.out).mono ?_); exact ca_ ((HR596_0.out)); exact HC596_0.out; rintro e w' ⟨rfl, ⟨nd, rfl⟩⟩; refine ⟨_, rfl, ?_⟩))
                  go_roundg k3
                  case measure => have := HJ7.out; have := HK2.out; have := HK3.out; omega
                  case rel => exact ⟨(wrap64 (x70_3 + 1)), eq_, H', ⟨by have := HJ7.out; have := HK2.out; have := HK3.out; omega⟩, ⟨by refine vN_ ?_; exact HO_7.out⟩, ⟨by refine vN_ ?_; exact HO_9.out⟩, ⟨by refine vN_ ?_; exact HO_57.out⟩, ⟨by refine vR_ ?_; exact HO_68.out⟩, ⟨by refine vR_ ?_; exact HO_583001.out⟩, ⟨by refine vR_ ?_; exact HO_583002.out⟩, ⟨by refine vR_ ?_; exact HO_583003.out⟩, ⟨by refine vR_ ?_; exact HO_583004.out⟩, ⟨by refine vR_ ?_; exact HO_583005.out⟩, ⟨by refine vN_ ?_; exact HO_583007.out⟩, ⟨by refine bk_ ?_; exact BK557.out⟩, ⟨by refine bk_ ?_; exact BK582.out⟩, ⟨by repeat (first | (with_reducible exact HR596_0.out) | (with_reducible refine Kd.C_alloc ?_ _) | (with_reducible refine Kd.C_drewN ?_ _) | (with_reducible refine Kd.C_drew ?_) | exact HR596_0.out)⟩, ⟨by repeat (first | (with_reducible exact HR597_1.out) | (with_reducible refine Kd.C_alloc ?_ _) | (with_reducible refine Kd.C_drewN ?_ _) | (with_reducible refine Kd.C_drew ?_) | exact HR597_1.out)⟩, ⟨bel_⟩⟩
                 ·
                  replace c54 := Bool.eq_false_iff.mpr c54
                  subst c54
                  have H1 : (none) = some r := by rw [if_neg (show ¬ (false = true) by decide)] at H; exact H
                  clear H
                  have H := H1
                  clear H1
                  exact absurd H (by simp)
                ·
                 rw [if_neg c52] at H
                 exact absurd H (by simp)
               ·
                rw [if_neg c51] at H
                exact absurd H (by simp)
              ·
               rw [if_neg c50] at H
               have c50b0 : decide (x70_3 < (t598.length : Int)) = false := decide_eq_false c50
               clear c50
               have H' := Aside0.mk H
               clear H
               go_wp2
               go_roundg k3
               case measure => have := HJ7.out; have := HK2.out; have := HK3.out; omega
               case rel => exact ⟨(wrap64 (x59_2 + 1)), eq_, H', ⟨by have := HJ7.out; have := HK2.out; have := HK3.out; omega⟩, ⟨by refine vN_ ?_; exact Kd.N_mono HO_7.out (fun _ hk => ⟨hk.1, ⟨hk.2.1, ⟨hk.2.2.2.1, ⟨hk.2.2.2.2.1, ⟨hk.2.2.2.2.2.1, hk.2.2.2.2.2.2⟩⟩⟩⟩⟩)⟩, ⟨by refine vN_ ?_; exact Kd.N_mono HO_9.out (fun _ hk => ⟨hk.1, ⟨hk.2.1, ⟨hk.2.2.2.1, ⟨hk.2.2.2.2.1, ⟨hk.2.2.2.2.2.1, ⟨hk.2.2.2.2.2.2.1, ⟨hk.2.2.2.2.2.2.2.1, ⟨hk.2.2.2.2.2.2.2.2.1, ⟨hk.2.2.2.2.2.2.2.2.2.1, hk.2.2.2.2.2.2.2.2.2.2⟩⟩⟩⟩⟩⟩⟩⟩⟩)⟩, ⟨by refine vN_ ?_; exact Kd.N_mono HO_57.out (fun _ hk => ⟨hk.1, ⟨hk.2.1, ⟨hk.2.2.2.1, ⟨hk.2.2.2.2.1, ⟨hk.2.2.2.2.2.1, ⟨hk.2.2.2.2.2.2.1, ⟨hk.2.2.2.2.2.2.2.1, ⟨hk.2.2.2.2.2.2.2.2.1, ⟨hk.2.2.2.2.2.2.2.2.2.1, hk.2.2.2.2.2.2.2.2.2.2⟩⟩⟩⟩⟩⟩⟩⟩⟩)⟩, ⟨by refine vR_ ?_; exact Kd.R_mono HO_583001.out (fun _ hk => ⟨hk.2.1, ⟨hk.2.2.1, ⟨hk.2.2.2.1, hk.2.2.2.2⟩⟩⟩)⟩, ⟨by refine vR_ ?_; exact Kd.R_mono HO_583002.out (fun _ hk => ⟨hk.2.1, ⟨hk.2.2.1, ⟨hk.2.2.2.1, hk.2.2.2.2⟩⟩⟩)⟩, ⟨by refine vR_ ?_; exact Kd.R_mono HO_583003.out (fun _ hk => ⟨hk.2.1, ⟨hk.2.2.1, ⟨hk.2.2.2.1, hk.2.2.2.2⟩⟩⟩)⟩, ⟨by refine vR_ ?_; exact Kd.R_mono HO_583004.out (fun _ hk => ⟨hk.2.1, ⟨hk.2.2.1, ⟨hk.2.2.2.1, hk.2.2.2.2⟩⟩⟩)⟩, ⟨by refine vR_ ?_; exact Kd.R_mono HO_583005.out (fun _ hk => ⟨hk.2.1, ⟨hk.2.2.1, ⟨hk.2.2.2.1, hk.2.2.2.2⟩⟩⟩)⟩, ⟨by refine vN_ ?_; exact Kd.N_mono HO_583007.out (fun _ hk => ⟨hk.1, ⟨hk.2.1, ⟨hk.2.2.1, ⟨hk.2.2.2.2.1, ⟨hk.2.2.2.2.2.1, ⟨hk.2.2.2.2.2.2.1, ⟨hk.2.2.2.2.2.2.2.1, ⟨hk.2.2.2.2.2.2.2.2.1, ⟨hk.2.2.2.2.2.2.2.2.2.1, hk.2.2.2.2.2.2.2.2.2.2⟩⟩⟩⟩⟩⟩⟩⟩⟩)⟩, ⟨by refine bk_ ?_; exact BK557.out⟩, ⟨by refine bk_ ?_; exact BK582.out⟩, ⟨bel_⟩⟩
           ·
            rw [if_neg c46] at H
            exact absurd H (by simp)
          ·
           rw [if_neg c45] at H
           exact absurd H (by simp)
         ·
          rw [if_neg c44] at H
          exact absurd H (by simp)
        ·
         rw [if_neg c43] at H
         have c43b0 : decide (x59_2 < (t579.length : Int)) = false := decide_eq_false c43
         clear c43
         have H' := Aside0.mk H
         clear H
         obtain ⟨Ao55, co55, eo55⟩ := Kd.N_slice HO_7.out
         subst eo55
         go_wp2
         go_loopg [82] k2 (fun kq v82 w' => ∃ (x82_3 : Int), v82 = .int .i64 x82_3 ∧ Aside0 (jigsawlaw14_ClauseKeeps.l2 kq t590 t583 (t583.length : Int) x82_3 t559 t560 t563 t566 t569 t572 t575 t576 = some r) ∧ Aside0 (kq ≤ k2) ∧ Aside0 (Kd.N k58 58 w' w.heap.size (fun k_ => some k_ ≠ ((.slice Ao55 t583.length co55) : Value).ownBlock ∧ some k_ ≠ ((.slice Ao15 t560.length co15) : Value).ownBlock ∧ some k_ ≠ ((.slice Ao17 t563.length co17) : Value).ownBlock ∧ some k_ ≠ ((.slice Ao19 t566.length co19) : Value).ownBlock ∧ some k_ ≠ ((.slice Ao21 t569.length co21) : Value).ownBlock ∧ some k_ ≠ ((.slice Ao23 t572.length co23) : Value).ownBlock ∧ some k_ ≠ ((.slice Ao26 t576.length co26) : Value).ownBlock ∧ k_ ≠ gb557 ∧ k_ ≠ gb582) (.slice Ao42 t590.length co42) t590) ∧ Aside0 (Kd.N (Kd.slice 3 (Kd.int .i64)) 30 w' w.heap.size (fun k_ => some k_ ≠ ((.slice Ao42 t590.length co42) : Value).ownBlock ∧ some k_ ≠ ((.slice Ao15 t560.length co15) : Value).ownBlock ∧ some k_ ≠ ((.slice Ao17 t563.length co17) : Value).ownBlock ∧ k_ ≠ gb557 ∧ k_ ≠ gb582) (.slice Ao55 t583.length co55) t583) ∧ Aside0 (Kd.R (Kd.int .i64) 3 w' w.heap.size (fun k_ => some k_ ≠ ((.slice Ao17 t563.length co17) : Value).ownBlock ∧ some k_ ≠ ((.slice Ao19 t566.length co19) : Value).ownBlock ∧ some k_ ≠ ((.slice Ao21 t569.length co21) : Value).ownBlock ∧ some k_ ≠ ((.slice Ao23 t572.length co23) : Value).ownBlock) (.slice Ao15 t560.length co15) t560) ∧ Aside0 (Kd.R (Kd.int .i64) 3 w' w.heap.size (fun k_ => some k_ ≠ ((.slice Ao15 t560.length co15) : Value).ownBlock ∧ some k_ ≠ ((.slice Ao19 t566.length co19) : Value).ownBlock ∧ some k_ ≠ ((.slice Ao21 t569.length co21) : Value).ownBlock ∧ some k_ ≠ ((.slice Ao23 t572.length co23) : Value).ownBlock) (.slice Ao17 t563.length co17) t563) ∧ Aside0 (Kd.R (Kd.int .i64) 3 w' w.heap.size (fun k_ => some k_ ≠ ((.slice Ao15 t560.length co15) : Value).ownBlock ∧ some k_ ≠ ((.slice Ao17 t563.length co17) : Value).ownBlock ∧ some k_ ≠ ((.slice Ao21 t569.length co21) : Value).ownBlock ∧ some k_ ≠ ((.slice Ao23 t572.length co23) : Value).ownBlock) (.slice Ao19 t566.length co19) t566) ∧ Aside0 (Kd.R (Kd.int .i64) 3 w' w.heap.size (fun k_ => some k_ ≠ ((.slice Ao15 t560.length co15) : Value).ownBlock ∧ some k_ ≠ ((.slice Ao17 t563.length co17) : Value).ownBlock ∧ some k_ ≠ ((.slice Ao19 t566.length co19) : Value).ownBlock ∧ some k_ ≠ ((.slice Ao23 t572.length co23) : Value).ownBlock) (.slice Ao21 t569.length co21) t569) ∧ Aside0 (Kd.R (Kd.int .i64) 3 w' w.heap.size (fun k_ => some k_ ≠ ((.slice Ao15 t560.length co15) : Value).ownBlock ∧ some k_ ≠ ((.slice Ao17 t563.length co17) : Value).ownBlock ∧ some k_ ≠ ((.slice Ao19 t566.length co19) : Value).ownBlock ∧ some k_ ≠ ((.slice Ao21 t569.length co21) : Value).ownBlock) (.slice Ao23 t572.length co23) t572) ∧ Aside0 (Kd.N (Kd.slice 3 (Kd.int .i64)) 30 w' w.heap.size (fun k_ => some k_ ≠ ((.slice Ao42 t590.length co42) : Value).ownBlock ∧ some k_ ≠ ((.slice Ao55 t583.length co55) : Value).ownBlock ∧ some k_ ≠ ((.slice Ao15 t560.length co15) : Value).ownBlock ∧ some k_ ≠ ((.slice Ao17 t563.length co17) : Value).ownBlock ∧ some k_ ≠ ((.slice Ao19 t566.length co19) : Value).ownBlock ∧ some k_ ≠ ((.slice Ao21 t569.length co21) : Value).ownBlock ∧ some k_ ≠ ((.slice Ao23 t572.length co23) : Value).ownBlock ∧ k_ ≠ gb557 ∧ k_ ≠ gb582) (.slice Ao26 t576.length co26) t576) ∧ Aside0 (w'.heap[gb557]? = some (.cells #[.int .u8 a0_0, (.slice A0_1 l0_1.length c0_1), (.slice A0_2 l0_2.length c0_2), (.slice A0_3 l0_3.length c0_3), .int .i16 a0_4, .int .u8 a0_5, (.slice A0_6 l0_6.length c0_6)] 29 (0, 0))) ∧ Aside0 (w'.heap[gb582]? = some (.cells #[.int .i64 t559, (.slice Ao15 t560.length co15), (.slice Ao17 t563.length co17), (.slice Ao19 t566.length co19), (.slice Ao21 t569.length co21), (.slice Ao23 t572.length co23), .int .i64 t575, (.slice Ao26 t576.length co26)] 32 (0, 0))) ∧ Aside0 (Below w.heap.size w w'))
         case atStart => exact ⟨(0), eq_, H', ⟨Nat.le_refl _⟩, ⟨by refine vN_ ?_; exact Kd.N_mono HO_9.out (fun _ hk => ⟨hk.1, ⟨hk.2.2.1, ⟨hk.2.2.2.1, ⟨hk.2.2.2.2.1, ⟨hk.2.2.2.2.2.1, ⟨hk.2.2.2.2.2.2.1, ⟨hk.2.2.2.2.2.2.2.1, ⟨hk.2.2.2.2.2.2.2.2.1, hk.2.2.2.2.2.2.2.2.2⟩⟩⟩⟩⟩⟩⟩⟩)⟩, ⟨by refine vN_ ?_; exact Kd.N_mono HO_7.out (fun _ hk => ⟨hk.1, ⟨hk.2.2.1, ⟨hk.2.2.2.1, ⟨hk.2.2.2.2.1, hk.2.2.2.2.2⟩⟩⟩⟩)⟩, ⟨by refine vR_ ?_; exact HO_583001.out⟩, ⟨by refine vR_ ?_; exact HO_583002.out⟩, ⟨by refine vR_ ?_; exact HO_583003.out⟩, ⟨by refine vR_ ?_; exact HO_583004.out⟩, ⟨by refine vR_ ?_; exact HO_583005.out⟩, ⟨by refine vN_ ?_; exact Kd.N_mono HO_583007.out (fun _ hk => ⟨hk.2.1, ⟨hk.1, ⟨hk.2.2.2.1, ⟨hk.2.2.2.2.1, ⟨hk.2.2.2.2.2.1, ⟨hk.2.2.2.2.2.2.1, ⟨hk.2.2.2.2.2.2.2.1, ⟨hk.2.2.2.2.2.2.2.2.1, hk.2.2.2.2.2.2.2.2.2⟩⟩⟩⟩⟩⟩⟩⟩)⟩, ⟨by refine bk_ ?_; exact BK557.out⟩, ⟨by refine bk_ ?_; exact BK582.out⟩, ⟨bel_⟩⟩
         case round =>
          clear H'
          try clear c1
          try clear c2
          try clear p2
          try clear c3
          try clear c4
          try clear c5
          try clear p5
          try clear q5
          try clear hx5
          try clear p6
          try clear q6
          try clear hx6
          try clear c7
          try clear c8
          try clear c9
          try clear c10
          try clear c12
          try clear c15
          try clear c22
          try clear c23
          try clear c29
          try clear c37
          try clear c40
          try clear c41
          try clear c41b0
          try clear c41b1
          try clear c41b2
          try clear c43
          try clear c43b0
          try clear c44
          try clear c44b0
          try clear c45
          try clear c45b0
          try clear c46
          try clear c46b0
          try clear c50
          try clear c50b0
          try clear c51
          try clear c51b0
          try clear c52
          try clear c52b0
          try clear c54
          try clear hcz30_0
          try clear hcz30_1
          try clear hcz30_2
          try clear hcz30_3
          try clear hcz30_4
          try clear hcz30_5
          try clear hcz30_6
          try clear hcz30_7
          try clear hfz30_0
          try clear hfz30_1
          try clear hfz30_2
          try clear hfz30_3
          try clear hfz30_4
          try clear hfz30_5
          try clear hfz30_6
          try clear hfz30_7
          try clear hx596_0
          try clear hx597_0
          try clear hx597_1
          try clear hx597_2
          try clear hx597_3
          try clear hx597_4
          try clear hx601_0
          try clear p2
          try clear p5
          try clear p596
          try clear p597
          try clear p601
          try clear q5
          try clear q596
          try clear q597
          try clear q601
          obtain ⟨x82_3, rfl, HA, HK3, HO_9, HO_80, HO_583001, HO_583002, HO_583003, HO_583004, HO_583005, HO_583007, BK557, BK582, HB⟩ := hrel
          cases gk with
          | zero => exact absurd HA.out (by simp [jigsawlaw14_ClauseKeeps.l2])
          | succ k3 =>
           have H := HA.out
           clear HA
           simp only [jigsawlaw14_ClauseKeeps.l2] at H
           by_cases c56 : x82_3 < (t583.length : Int)
           ·
            rw [if_pos c56] at H
            have c56b0 : decide (x82_3 < (t583.length : Int)) = true := decide_eq_true c56
            clear c56
            by_cases c57 : 0 ≤ x82_3
            ·
             rw [if_pos c57] at H
             have c57b0 : decide (0 ≤ x82_3) = true := decide_eq_true c57
             clear c57
             by_cases c58 : x82_3 < (t583.length : Int)
             ·
              rw [if_pos c58] at H
              have c58b0 : decide (x82_3 < (t583.length : Int)) = true := decide_eq_true c58
              clear c58
              have H' := Aside0.mk H
              clear H
              have p603 : 0 ≤ (x82_3 : Int) := dq_
              have q603 : x82_3 < (t583.length : Int) := dq_
              obtain ⟨ad603, A603_0, c603_0, e603, hx603_0, hl603_0, hi603_0⟩ := at_L7 (Kd.N_reads' HO_80.out).2.2 x82_3 p603 q603
              cases e603
              obtain ⟨ce603, hce603, hMe603, hcc603⟩ := Kd.N_get HO_80.out [] x82_3 p603 (by first | exact q603 | exact dq_ | (have e_ := (Kd.N_reads' HO_80.out).1; omega))
              obtain ⟨ua603_0, uc603_0, rfl, ul603_0, ge603_0⟩ := Kd.FK_slice_open hMe603
              have hv603_0 := hcc603 0 _ rfl
              rw [Nat.add_zero, show ((Kd.slice 3 (Kd.int .i64))).sz = 1 from rfl, Nat.mul_one] at hv603_0
              replace hv603_0 := Option.some.inj (hv603_0.symm.trans hx603_0)
              injection hv603_0 with hva_ hvn_ hvc_
              rw [hva_] at ge603_0
              rw [hvc_] at ul603_0
              clear hva_ hvn_ hvc_ ge603_0 ul603_0
              clear hcc603 hce603
              have HR603_0 := Aside0.mk hi603_0
              have HC603_0 := Aside0.mk hl603_0
              clear hi603_0 hl603_0
              replace p603 := eq_true p603
              replace q603 := eq_true q603
              go_wp2
              go_loopg [88] k3 (fun kq v88 w' => ∃ (x88_4 : Int), v88 = .int .i64 x88_4 ∧ Aside0 (jigsawlaw14_ClauseKeeps.l3 kq t590 t583 (t583.length : Int) x82_3 (rd_L7 t583 x82_3) ((rd_L7 t583 x82_3).length : Int) x88_4 t559 t560 t563 t566 t569 t572 t575 t576 = some r) ∧ Aside0 (kq ≤ k3) ∧ Aside0 (Kd.N k58 58 w' w.heap.size (fun k_ => some k_ ≠ ((.slice (some ad603) t583.length co55) : Value).ownBlock ∧ some k_ ≠ ((.slice Ao15 t560.length co15) : Value).ownBlock ∧ some k_ ≠ ((.slice Ao17 t563.length co17) : Value).ownBlock ∧ some k_ ≠ ((.slice Ao19 t566.length co19) : Value).ownBlock ∧ some k_ ≠ ((.slice Ao21 t569.length co21) : Value).ownBlock ∧ some k_ ≠ ((.slice Ao23 t572.length co23) : Value).ownBlock ∧ some k_ ≠ ((.slice Ao26 t576.length co26) : Value).ownBlock ∧ k_ ≠ gb557 ∧ k_ ≠ gb582) (.slice Ao42 t590.length co42) t590) ∧ Aside0 (Kd.N (Kd.slice 3 (Kd.int .i64)) 30 w' w.heap.size (fun k_ => some k_ ≠ ((.slice Ao42 t590.length co42) : Value).ownBlock ∧ some k_ ≠ ((.slice Ao15 t560.length co15) : Value).ownBlock ∧ some k_ ≠ ((.slice Ao17 t563.length co17) : Value).ownBlock ∧ k_ ≠ gb557 ∧ k_ ≠ gb582) (.slice (some ad603) t583.length co55) t583) ∧ Aside0 (Kd.R (Kd.int .i64) 3 w' w.heap.size (fun k_ => some k_ ≠ ((.slice Ao17 t563.length co17) : Value).ownBlock ∧ some k_ ≠ ((.slice Ao19 t566.length co19) : Value).ownBlock ∧ some k_ ≠ ((.slice Ao21 t569.length co21) : Value).ownBlock ∧ some k_ ≠ ((.slice Ao23 t572.length co23) : Value).ownBlock) (.slice Ao15 t560.length co15) t560) ∧ Aside0 (Kd.R (Kd.int .i64) 3 w' w.heap.size (fun k_ => some k_ ≠ ((.slice Ao15 t560.length co15) : Value).ownBlock ∧ some k_ ≠ ((.slice Ao19 t566.length co19) : Value).ownBlock ∧ some k_ ≠ ((.slice Ao21 t569.length co21) : Value).ownBlock ∧ some k_ ≠ ((.slice Ao23 t572.length co23) : Value).ownBlock) (.slice Ao17 t563.length co17) t563) ∧ Aside0 (Kd.R (Kd.int .i64) 3 w' w.heap.size (fun k_ => some k_ ≠ ((.slice Ao15 t560.length co15) : Value).ownBlock ∧ some k_ ≠ ((.slice Ao17 t563.length co17) : Value).ownBlock ∧ some k_ ≠ ((.slice Ao21 t569.length co21) : Value).ownBlock ∧ some k_ ≠ ((.slice Ao23 t572.length co23) : Value).ownBlock) (.slice Ao19 t566.length co19) t566) ∧ Aside0 (Kd.R (Kd.int .i64) 3 w' w.heap.size (fun k_ => some k_ ≠ ((.slice Ao15 t560.length co15) : Value).ownBlock ∧ some k_ ≠ ((.slice Ao17 t563.length co17) : Value).ownBlock ∧ some k_ ≠ ((.slice Ao19 t566.length co19) : Value).ownBlock ∧ some k_ ≠ ((.slice Ao23 t572.length co23) : Value).ownBlock) (.slice Ao21 t569.length co21) t569) ∧ Aside0 (Kd.R (Kd.int .i64) 3 w' w.heap.size (fun k_ => some k_ ≠ ((.slice Ao15 t560.length co15) : Value).ownBlock ∧ some k_ ≠ ((.slice Ao17 t563.length co17) : Value).ownBlock ∧ some k_ ≠ ((.slice Ao19 t566.length co19) : Value).ownBlock ∧ some k_ ≠ ((.slice Ao21 t569.length co21) : Value).ownBlock) (.slice Ao23 t572.length co23) t572) ∧ Aside0 (Kd.N (Kd.slice 3 (Kd.int .i64)) 30 w' w.heap.size (fun k_ => some k_ ≠ ((.slice Ao42 t590.length co42) : Value).ownBlock ∧ some k_ ≠ ((.slice (some ad603) t583.length co55) : Value).ownBlock ∧ some k_ ≠ ((.slice Ao15 t560.length co15) : Value).ownBlock ∧ some k_ ≠ ((.slice Ao17 t563.length co17) : Value).ownBlock ∧ some k_ ≠ ((.slice Ao19 t566.length co19) : Value).ownBlock ∧ some k_ ≠ ((.slice Ao21 t569.length co21) : Value).ownBlock ∧ some k_ ≠ ((.slice Ao23 t572.length co23) : Value).ownBlock ∧ k_ ≠ gb557 ∧ k_ ≠ gb582) (.slice Ao26 t576.length co26) t576) ∧ Aside0 (w'.heap[gb557]? = some (.cells #[.int .u8 a0_0, (.slice A0_1 l0_1.length c0_1), (.slice A0_2 l0_2.length c0_2), (.slice A0_3 l0_3.length c0_3), .int .i16 a0_4, .int .u8 a0_5, (.slice A0_6 l0_6.length c0_6)] 29 (0, 0))) ∧ Aside0 (w'.heap[gb582]? = some (.cells #[.int .i64 t559, (.slice Ao15 t560.length co15), (.slice Ao17 t563.length co17), (.slice Ao19 t566.length co19), (.slice Ao21 t569.length co21), (.slice Ao23 t572.length co23), .int .i64 t575, (.slice Ao26 t576.length co26)] 32 (0, 0))) ∧ Aside0 (Kd.C (Kd.int .i64) w' A603_0 (rd_L7 t583 x82_3).length (rd_L7 t583 x82_3)) ∧ Aside0 (Below w.heap.size w w'))
              case atStart => exact ⟨(0), eq_, H', ⟨Nat.le_refl _⟩, ⟨by refine vN_ ?_; exact HO_9.out⟩, ⟨by refine vN_ ?_; exact HO_80.out⟩, ⟨by refine vR_ ?_; exact HO_583001.out⟩, ⟨by refine vR_ ?_; exact HO_583002.out⟩, ⟨by refine vR_ ?_; exact HO_583003.out⟩, ⟨by refine vR_ ?_; exact HO_583004.out⟩, ⟨by refine vR_ ?_; exact HO_583005.out⟩, ⟨by refine vN_ ?_; exact HO_583007.out⟩, ⟨by refine bk_ ?_; exact BK557.out⟩, ⟨by refine bk_ ?_; exact BK582.out⟩, ⟨by repeat (first | (with_reducible exact HR603_0.out) | (with_reducible refine Kd.C_alloc ?_ _) | (with_reducible refine Kd.C_drewN ?_ _) | (with_reducible refine Kd.C_drew ?_) | exact HR603_0.out)⟩, ⟨bel_⟩⟩
              case round =>
               clear H'
               try clear c1
               try clear c2
               try clear p2
               try clear c3
               try clear c4
               try clear c5
               try clear p5
               try clear q5
               try clear hx5
               try clear c6
               try clear p6
               try clear q6
               try clear hx6
               try clear c7
               try clear c8
               try clear c9
               try clear c10
               try clear c12
               try clear c15
               try clear c22
               try clear c23
               try clear c29
               try clear c37
               try clear c40
               try clear c41
               try clear c41b0
               try clear c41b1
               try clear c41b2
               try clear c43
               try clear c43b0
               try clear c44
               try clear c44b0
               try clear c45
               try clear c45b0
               try clear c46
               try clear c46b0
               try clear c50
               try clear c50b0
               try clear c51
               try clear c51b0
               try clear c52
               try clear c52b0
               try clear c54
               try clear c56
               try clear c56b0
               try clear c57
               try clear c57b0
               try clear c58
               try clear c58b0
               try clear hcz30_0
               try clear hcz30_1
               try clear hcz30_2
               try clear hcz30_3
               try clear hcz30_4
               try clear hcz30_5
               try clear hcz30_6
               try clear hcz30_7
               try clear hfz30_0
               try clear hfz30_1
               try clear hfz30_2
               try clear hfz30_3
               try clear hfz30_4
               try clear hfz30_5
               try clear hfz30_6
               try clear hfz30_7
               try clear hx596_0
               try clear hx597_0
               try clear hx597_1
               try clear hx597_2
               try clear hx597_3
               try clear hx597_4
               try clear hx601_0
               try clear hx603_0
               try clear p2
               try clear p5
               try clear p596
               try clear p597
               try clear p6
               try clear p601
               try clear p603
               try clear q5
               try clear q596
               try clear q597
               try clear q6
               try clear q601
               try clear q603
               obtain ⟨x88_4, rfl, HA, HK4, HO_9, HO_80, HO_583001, HO_583002, HO_583003, HO_583004, HO_583005, HO_583007, BK557, BK582, HR603_0, HB⟩ := hrel
               cases gk with
               | zero => exact absurd HA.out (by simp [jigsawlaw14_ClauseKeeps.l3])
               | succ k4 =>
                have H := HA.out
                clear HA
                simp only [jigsawlaw14_ClauseKeeps.l3] at H
                by_cases c59 : x88_4 < ((rd_L7 t583 x82_3).length : Int)
                ·
                 rw [if_pos c59] at H
                 have c59b0 : decide (x88_4 < ((rd_L7 t583 x82_3).length : Int)) = true := decide_eq_true c59
                 clear c59
                 by_cases c60 : 0 ≤ x88_4
                 ·
                  rw [if_pos c60] at H
                  have c60b0 : decide (0 ≤ x88_4) = true := decide_eq_true c60
                  clear c60
                  by_cases c61 : x88_4 < ((rd_L7 t583 x82_3).length : Int)
                  ·
                   rw [if_pos c61] at H
                   have c61b0 : decide (x88_4 < ((rd_L7 t583 x82_3).length : Int)) = true := decide_eq_true c61
                   clear c61
                   by_cases c62 : x88_4 < (t590.length : Int)
                   ·
                    rw [if_pos c62] at H
                    have c62b0 : decide (x88_4 < (t590.length : Int)) = true := decide_eq_true c62
                    clear c62
                    replace H := Option.bind_eq_some_iff.mp H
                    obtain ⟨t606, A630, H⟩ := H
                    try dsimp only at H
                    have A63 := Aside0.mk A630
                    clear A630
                    by_cases c64 : t606 = true
                    ·
                     subst c64
                     have H1 : (jigsawlaw14_ClauseKeeps.l3 k4 t590 t583 (t583.length : Int) x82_3 (rd_L7 t583 x82_3) ((rd_L7 t583 x82_3).length : Int) (wrap64 (x88_4 + 1)) t559 t560 t563 t566 t569 t572 t575 t576) = some r := by rw [if_pos rfl] at H; exact H
                     clear H
                     have H := H1
                     clear H1
                     have H' := Aside0.mk H
                     clear H
                     have p604 : 0 ≤ (x88_4 : Int) := dq_
                     have q604 : x88_4 < ((rd_L7 t583 x82_3).length : Int) := dq_
                     obtain ⟨ad604, e604, hx604_0⟩ := Kd.at_int HR603_0.out x88_4 p604 q604
                     cases e604
                     replace p604 := eq_true p604
                     replace q604 := eq_true q604
                     have p605 : 0 ≤ (x88_4 : Int) := dq_
                     have q605 : x88_4 < (t590.length : Int) := dq_
                     obtain ⟨ad605, A605_1, c605_1, e605, hx605_0, hx605_1, hx605_2, hx605_3, hx605_4, hl605_1, hi605_1⟩ := at_T58 (Kd.N_reads' HO_9.out).2.2 x88_4 p605 q605
                     cases e605
                     obtain ⟨ce605, hce605, hMe605, hcc605⟩ := Kd.N_get HO_9.out z58 x88_4 p605 (by first | exact q605 | exact dq_ | (have e_ := (Kd.N_reads' HO_9.out).1; omega))
                     obtain ⟨ua605_1, uc605_1, rfl, ul605_1, ge605_1⟩ := k58_openF hMe605
                     have hv605_1 := hcc605 1 _ rfl
                     rw [add_field _ _ 1 (by omega)] at hv605_1
                     replace hv605_1 := Option.some.inj (hv605_1.symm.trans hx605_1)
                     injection hv605_1 with hva_ hvn_ hvc_
                     rw [hva_] at ge605_1
                     rw [hvc_] at ul605_1
                     clear hva_ hvn_ hvc_ ge605_1 ul605_1
                     clear hcc605 hce605
                     have HR605_1 := Aside0.mk hi605_1
                     have HC605_1 := Aside0.mk hl605_1
                     clear hi605_1 hl605_1
                     replace p605 := eq_true p605
                     replace q605 := eq_true q605
                     go_wp2_with (first | ((with_reducible refine gate_callee (f := 24) rfl ?_); refine goesL_ (some 98) rfl rfl Tryz.func24 (by kernel_rfl) rfl #[.agg #[.int .i64 ((rd_T58 t590 x88_4).f0), .slice A605_1 ((rd_T58 t590 x88_4).f1).length c605_1, .int .i64 ((rd_T58 t590 x88_4).f2), .int .i64 ((rd_T58 t590 x88_4).f3), .int .i64 ((rd_T58 t590 x88_4).f4)], .int .i64 (rd (rd_L7 t583 x82_3) x88_4)] rfl ar_ ?_; (with_reducible refine (dom_Dom_Has.calls ((rd_T58 t590 x88_4).f0) _ _ ((rd_T58 t590 x88_4).f1) ((rd_T58 t590 x88_4).f2) ((rd_T58 t590 x88_4).f3) ((rd_T58 t590 x88_4).f4) (rd (rd_L7 t583 x82_3) x88_4) true _ ?side1 ?side2 A63.out).mono ?_); (case side1 => repeat (first | exact (by repeat (first | (with_reducible exact HR605_1.out) | (with_reducible refine Kd.C_alloc ?_ _) | (with_reducible refine Kd.C_drewN ?_ _) | (with_reducible refine Kd.C_drew ?_) | exact HR605_1.out)) | (with_reducible refine Kd.C_alloc ?_ _) | (with_reducible refine Kd.C_drewN ?_ _) | (with_reducible refine Kd.C_drew ?_))); (case side2 => exact HC605_1.out); rintro e w65 ⟨rfl, hb⟩; refine ⟨_, rfl, ?_⟩; replace HO_9 := Aside0.mk (Kd.N_below (vN_ HO_9.out) hb); replace HO_80 := Aside0.mk (Kd.N_below (vN_ HO_80.out) hb); replace HO_583001 := Aside0.mk (Kd.R_below (vR_ HO_583001.out) hb); replace HO_583002 := Aside0.mk (Kd.R_below (vR_ HO_583002.out) hb); replace HO_583003 := Aside0.mk (Kd.R_below (vR_ HO_583003.out) hb); replace HO_583004 := Aside0.mk (Kd.R_below (vR_ HO_583004.out) hb); replace HO_583005 := Aside0.mk (Kd.R_below (vR_ HO_583005.out) hb); replace HO_583007 := Aside0.mk (Kd.N_below (vN_ HO_583007.out) hb); replace BK557 := Aside0.mk (blk_below (bk_ BK557.out) hb); replace BK582 := Aside0.mk (blk_below (bk_ BK582.out) hb); replace HR603_0 := Aside0.mk (Kd.C_below (by repeat (first | (with_reducible exact HR603_0.out) | (with_reducible refine Kd.C_alloc ?_ _) | (with_reducible refine Kd.C_drewN ?_ _) | (with_reducible refine Kd.C_drew ?_) | exact HR603_0.out)) hb); replace HB := Aside0.mk (below_step bel_ hb); clear hb))
                     go_roundg k4
                     case measure => have := HJ7.out; have := HK2.out; have := HK3.out; have := HK4.out; omega
                     case rel => exact ⟨(wrap64 (x88_4 + 1)), eq_, H', ⟨by have := HJ7.out; have := HK2.out; have := HK3.out; have := HK4.out; omega⟩, ⟨by refine vN_ ?_; exact HO_9.out⟩, ⟨by refine vN_ ?_; exact HO_80.out⟩, ⟨by refine vR_ ?_; exact HO_583001.out⟩, ⟨by refine vR_ ?_; exact HO_583002.out⟩, ⟨by refine vR_ ?_; exact HO_583003.out⟩, ⟨by refine vR_ ?_; exact HO_583004.out⟩, ⟨by refine vR_ ?_; exact HO_583005.out⟩, ⟨by refine vN_ ?_; exact HO_583007.out⟩, ⟨by refine bk_ ?_; exact BK557.out⟩, ⟨by refine bk_ ?_; exact BK582.out⟩, ⟨by repeat (first | (with_reducible exact HR603_0.out) | (with_reducible refine Kd.C_alloc ?_ _) | (with_reducible refine Kd.C_drewN ?_ _) | (with_reducible refine Kd.C_drew ?_) | exact HR603_0.out)⟩, ⟨bel_⟩⟩
                    ·
                     replace c64 := Bool.eq_false_iff.mpr c64
                     subst c64
                     have H1 : (none) = some r := by rw [if_neg (show ¬ (false = true) by decide)] at H; exact H
                     clear H
                     have H := H1
                     clear H1
                     exact absurd H (by simp)
                   ·
                    rw [if_neg c62] at H
                    exact absurd H (by simp)
                  ·
                   rw [if_neg c61] at H
                   exact absurd H (by simp)
                 ·
                  rw [if_neg c60] at H
                  exact absurd H (by simp)
                ·
                 rw [if_neg c59] at H
                 have c59b0 : decide (x88_4 < ((rd_L7 t583 x82_3).length : Int)) = false := decide_eq_false c59
                 clear c59
                 have H' := Aside0.mk H
                 clear H
                 go_wp2
                 go_roundg k4
                 case measure => have := HJ7.out; have := HK2.out; have := HK3.out; have := HK4.out; omega
                 case rel => exact ⟨(wrap64 (x82_3 + 1)), eq_, H', ⟨by have := HJ7.out; have := HK2.out; have := HK3.out; have := HK4.out; omega⟩, ⟨by refine vN_ ?_; exact HO_9.out⟩, ⟨by refine vN_ ?_; exact HO_80.out⟩, ⟨by refine vR_ ?_; exact HO_583001.out⟩, ⟨by refine vR_ ?_; exact HO_583002.out⟩, ⟨by refine vR_ ?_; exact HO_583003.out⟩, ⟨by refine vR_ ?_; exact HO_583004.out⟩, ⟨by refine vR_ ?_; exact HO_583005.out⟩, ⟨by refine vN_ ?_; exact HO_583007.out⟩, ⟨by refine bk_ ?_; exact BK557.out⟩, ⟨by refine bk_ ?_; exact BK582.out⟩, ⟨bel_⟩⟩
             ·
              rw [if_neg c58] at H
              exact absurd H (by simp)
            ·
             rw [if_neg c57] at H
             exact absurd H (by simp)
           ·
            rw [if_neg c56] at H
            have c56b0 : decide (x82_3 < (t583.length : Int)) = false := decide_eq_false c56
            clear c56
            replace H := Option.bind_eq_some_iff.mp H
            obtain ⟨⟨t607, t610⟩, A660, H⟩ := H
            try dsimp only at H
            have A66 := Aside0.mk A660
            clear A660
            replace H := Option.bind_eq_some_iff.mp H
            obtain ⟨t611, A670, H⟩ := H
            try dsimp only at H
            have A67 := Aside0.mk A670
            clear A670
            by_cases c68 : t611 = true
            ·
             subst c68
             have H1 : (if t610 = true then ((jigsawlaw14_lists.f k3 t607).bind fun t612 => ((jigsawlaw14_lists.f k3 t590).bind fun t615 => ((jigsawref10_Same.f k3 t612 t615).bind fun t618 => (some t618)))) else (none)) = some r := by rw [if_pos rfl] at H; exact H
             clear H
             have H := H1
             clear H1
             by_cases c69 : t610 = true
             ·
              subst c69
              have H1 : ((jigsawlaw14_lists.f k3 t607).bind fun t612 => ((jigsawlaw14_lists.f k3 t590).bind fun t615 => ((jigsawref10_Same.f k3 t612 t615).bind fun t618 => (some t618)))) = some r := by rw [if_pos rfl] at H; exact H
              clear H
              have H := H1
              clear H1
              replace H := Option.bind_eq_some_iff.mp H
              obtain ⟨t612, A700, H⟩ := H
              try dsimp only at H
              have A70 := Aside0.mk A700
              clear A700
              replace H := Option.bind_eq_some_iff.mp H
              obtain ⟨t615, A710, H⟩ := H
              try dsimp only at H
              have A71 := Aside0.mk A710
              clear A710
              replace H := Option.bind_eq_some_iff.mp H
              obtain ⟨t618, A720, H⟩ := H
              try dsimp only at H
              have A72 := Aside0.mk A720
              clear A720
              obtain rfl := Option.some.inj H
              have hnb73 := NB582_557.out
              have hnc73 := NB557_582.out
              obtain ⟨_, _, _, _, _, _, _, _, _, _, _, _, _, _, _, _⟩ := cel8_ BK582.out
              go_wp2_with (first | ((with_reducible refine gate_callee (f := 9) rfl ?_); refine goesL_ (some 105) rfl rfl Tryz.func9 (by kernel_rfl) rfl #[.agg #[.int .i64 t559, .slice Ao15 t560.length co15, .slice Ao17 t563.length co17, .slice Ao19 t566.length co19, .slice Ao21 t569.length co21, .slice Ao23 t572.length co23, .int .i64 t575, .slice Ao26 t576.length co26], .slice Ao42 t590.length co42] rfl ar_ ?_; (with_reducible refine (clause_Filter.calls k3 t559 _ _ t560 _ _ t563 _ _ t566 _ _ t569 _ _ t572 t575 _ _ t576 (fun k_ => (some k_ ≠ (.slice Ao55 t583.length co55 : Value).ownBlock ∧ (some k_ ≠ (.slice Ao15 t560.length co15 : Value).ownBlock ∧ (some k_ ≠ (.slice Ao17 t563.length co17 : Value).ownBlock ∧ (some k_ ≠ (.slice Ao19 t566.length co19 : Value).ownBlock ∧ (some k_ ≠ (.slice Ao21 t569.length co21 : Value).ownBlock ∧ (some k_ ≠ (.slice Ao23 t572.length co23 : Value).ownBlock ∧ (some k_ ≠ (.slice Ao26 t576.length co26 : Value).ownBlock ∧ (k_ ≠ gb557 ∧ k_ ≠ gb582))))))))) _ _ t590 t607 true _ ?_ ?_ ?_ ?_ ?_ ?_ ?_ ?_ ?_ ?_ ?_ ?_ ?_ ?_ A66.out).mono ?_); exact ca_ ((Kd.R_reads' HO_583001.out).2.2); exact (Kd.R_reads' HO_583001.out).2.1; exact ca_ ((Kd.R_reads' HO_583002.out).2.2); exact (Kd.R_reads' HO_583002.out).2.1; exact ca_ ((Kd.R_reads' HO_583003.out).2.2); exact (Kd.R_reads' HO_583003.out).2.1; exact ca_ ((Kd.R_reads' HO_583004.out).2.2); exact (Kd.R_reads' HO_583004.out).2.1; exact ca_ ((Kd.R_reads' HO_583005.out).2.2); exact (Kd.R_reads' HO_583005.out).2.1; exact ca_ ((Kd.N_reads' HO_583007.out).2.2); exact (Kd.N_reads' HO_583007.out).2.1; exact Kd.N_V (HO_9.out); exact ca_ ((Kd.C_below HRtab.out HB.out)); rintro e w75 ⟨v608, rfl, ho0, hb⟩; refine ⟨_, rfl, ?_⟩; replace HO_9 := Aside0.mk (Kd.N_elder' (vN_ HO_9.out) (Kd.N_base ho0) hb); have HO609 := Aside0.mk (Kd.N_lower (Kd.N_mono (ok' := fun k_ => some k_ ≠ (.slice Ao55 t583.length co55 : Value).ownBlock ∧ some k_ ≠ (.slice Ao15 t560.length co15 : Value).ownBlock ∧ some k_ ≠ (.slice Ao17 t563.length co17 : Value).ownBlock ∧ some k_ ≠ (.slice Ao19 t566.length co19 : Value).ownBlock ∧ some k_ ≠ (.slice Ao21 t569.length co21 : Value).ownBlock ∧ some k_ ≠ (.slice Ao23 t572.length co23 : Value).ownBlock ∧ some k_ ≠ (.slice Ao26 t576.length co26 : Value).ownBlock ∧ k_ ≠ gb557 ∧ k_ ≠ gb582) ho0 (fun k_ hk_ => ⟨Or.elim hk_ (fun hs_ => hs_.1) (fun hn_ => (Kd.fresh' (Kd.N_lt (vN_ HO_80.out)) k_ hn_)), Or.elim hk_ (fun hs_ => hs_.2.1) (fun hn_ => (Kd.fresh' (Kd.R_lt (vR_ HO_583001.out)) k_ hn_)), Or.elim hk_ (fun hs_ => hs_.2.2.1) (fun hn_ => (Kd.fresh' (Kd.R_lt (vR_ HO_583002.out)) k_ hn_)), Or.elim hk_ (fun hs_ => hs_.2.2.2.1) (fun hn_ => (Kd.fresh' (Kd.R_lt (vR_ HO_583003.out)) k_ hn_)), Or.elim hk_ (fun hs_ => hs_.2.2.2.2.1) (fun hn_ => (Kd.fresh' (Kd.R_lt (vR_ HO_583004.out)) k_ hn_)), Or.elim hk_ (fun hs_ => hs_.2.2.2.2.2.1) (fun hn_ => (Kd.fresh' (Kd.R_lt (vR_ HO_583005.out)) k_ hn_)), Or.elim hk_ (fun hs_ => hs_.2.2.2.2.2.2.1) (fun hn_ => (Kd.fresh' (Kd.N_lt (vN_ HO_583007.out)) k_ hn_)), Or.elim hk_ (fun hs_ => hs_.2.2.2.2.2.2.2.1) (fun hn_ => (Kd.freshB (bk_ BK557.out) k_ hn_)), Or.elim hk_ (fun hs_ => hs_.2.2.2.2.2.2.2.2) (fun hn_ => (Kd.freshB (bk_ BK582.out) k_ hn_))⟩)) (below_size bel_)); replace HO_80 := Aside0.mk (Kd.N_elder' (vN_ HO_80.out) (Kd.N_base ho0) hb); replace HO_583001 := Aside0.mk (Kd.R_below (vR_ HO_583001.out) hb); replace HO_583002 := Aside0.mk (Kd.R_below (vR_ HO_583002.out) hb); replace HO_583003 := Aside0.mk (Kd.R_below (vR_ HO_583003.out) hb); replace HO_583004 := Aside0.mk (Kd.R_below (vR_ HO_583004.out) hb); replace HO_583005 := Aside0.mk (Kd.R_below (vR_ HO_583005.out) hb); replace HO_583007 := Aside0.mk (Kd.N_elder' (vN_ HO_583007.out) (Kd.N_base ho0) hb); replace BK557 := Aside0.mk (blk_below (bk_ BK557.out) hb); replace BK582 := Aside0.mk (blk_below (bk_ BK582.out) hb); replace HB := Aside0.mk (below_step bel_ hb); clear hb ho0) | ((with_reducible refine gate_callee (f := 12) rfl ?_); refine goesL_ (some 108) rfl rfl Tryz.func12 (by kernel_rfl) rfl #[] rfl ar_ ?_; (with_reducible refine (jigsawlaw14_wakes.calls k3 true _ ?_ A67.out).mono ?_); exact ca_ ((Kd.C_below HRtab.out HB.out)); rintro e w76 ⟨rfl, hb⟩; refine ⟨_, rfl, ?_⟩; replace HO_9 := Aside0.mk (Kd.N_below (vN_ HO_9.out) hb); replace HO_80 := Aside0.mk (Kd.N_below (vN_ HO_80.out) hb); replace HO_583001 := Aside0.mk (Kd.R_below (vR_ HO_583001.out) hb); replace HO_583002 := Aside0.mk (Kd.R_below (vR_ HO_583002.out) hb); replace HO_583003 := Aside0.mk (Kd.R_below (vR_ HO_583003.out) hb); replace HO_583004 := Aside0.mk (Kd.R_below (vR_ HO_583004.out) hb); replace HO_583005 := Aside0.mk (Kd.R_below (vR_ HO_583005.out) hb); replace HO_583007 := Aside0.mk (Kd.N_below (vN_ HO_583007.out) hb); replace HO609 := Aside0.mk (Kd.N_below (vN_ HO609.out) hb); replace BK557 := Aside0.mk (blk_below (bk_ BK557.out) hb); replace BK582 := Aside0.mk (blk_below (bk_ BK582.out) hb); replace HB := Aside0.mk (below_step bel_ hb); clear hb; obtain ⟨Ao77, co77, eo77⟩ := Kd.N_slice HO609.out; subst eo77) | (go_at_call 14; (with_reducible refine (jigsawlaw14_lists.calls k3 _ _ t607 t612 _ ?_ ?_ ?_ A70.out).mono ?_); exact ca_ ((Kd.N_reads' HO609.out).2.2); exact (Kd.N_reads' HO609.out).2.1; exact ca_ ((Kd.C_below HRtab.out HB.out)); rintro e w78 ⟨v613, rfl, ho0, hb⟩; have HO614 := Aside0.mk (Kd.N_lower (Kd.N_mono (ok' := fun k_ => some k_ ≠ (.slice Ao42 t590.length co42 : Value).ownBlock ∧ some k_ ≠ (.slice Ao55 t583.length co55 : Value).ownBlock ∧ some k_ ≠ (.slice Ao15 t560.length co15 : Value).ownBlock ∧ some k_ ≠ (.slice Ao17 t563.length co17 : Value).ownBlock ∧ some k_ ≠ (.slice Ao19 t566.length co19 : Value).ownBlock ∧ some k_ ≠ (.slice Ao21 t569.length co21 : Value).ownBlock ∧ some k_ ≠ (.slice Ao23 t572.length co23 : Value).ownBlock ∧ some k_ ≠ (.slice Ao26 t576.length co26 : Value).ownBlock ∧ some k_ ≠ (.slice Ao77 t607.length co77 : Value).ownBlock ∧ k_ ≠ gb557 ∧ k_ ≠ gb582) (Kd.S_N (Kd.S_bound ho0)) (fun k_ hk_ => ⟨(Kd.fresh' (Kd.N_lt (vN_ HO_9.out)) k_ hk_.2.1), (Kd.fresh' (Kd.N_lt (vN_ HO_80.out)) k_ hk_.2.1), (Kd.fresh' (Kd.R_lt (vR_ HO_583001.out)) k_ hk_.2.1), (Kd.fresh' (Kd.R_lt (vR_ HO_583002.out)) k_ hk_.2.1), (Kd.fresh' (Kd.R_lt (vR_ HO_583003.out)) k_ hk_.2.1), (Kd.fresh' (Kd.R_lt (vR_ HO_583004.out)) k_ hk_.2.1), (Kd.fresh' (Kd.R_lt (vR_ HO_583005.out)) k_ hk_.2.1), (Kd.fresh' (Kd.N_lt (vN_ HO_583007.out)) k_ hk_.2.1), (Kd.fresh' (Kd.N_lt (vN_ HO609.out)) k_ hk_.2.1), (Kd.freshB (bk_ BK557.out) k_ hk_.2.1), (Kd.freshB (bk_ BK582.out) k_ hk_.2.1)⟩)) (below_size bel_)); replace HO_9 := Aside0.mk (Kd.N_elder' (vN_ HO_9.out) (Kd.N_base (Kd.S_N ho0)) hb); replace HO_80 := Aside0.mk (Kd.N_elder' (vN_ HO_80.out) (Kd.N_base (Kd.S_N ho0)) hb); replace HO_583001 := Aside0.mk (Kd.R_below (vR_ HO_583001.out) hb); replace HO_583002 := Aside0.mk (Kd.R_below (vR_ HO_583002.out) hb); replace HO_583003 := Aside0.mk (Kd.R_below (vR_ HO_583003.out) hb); replace HO_583004 := Aside0.mk (Kd.R_below (vR_ HO_583004.out) hb); replace HO_583005 := Aside0.mk (Kd.R_below (vR_ HO_583005.out) hb); replace HO_583007 := Aside0.mk (Kd.N_elder' (vN_ HO_583007.out) (Kd.N_base (Kd.S_N ho0)) hb); replace HO609 := Aside0.mk (Kd.N_elder' (vN_ HO609.out) (Kd.N_base (Kd.S_N ho0)) hb); replace BK557 := Aside0.mk (blk_below (bk_ BK557.out) hb); replace BK582 := Aside0.mk (blk_below (bk_ BK582.out) hb); replace HB := Aside0.mk (below_step bel_ hb); clear hb ho0) | (go_at_call 14; (with_reducible refine (jigsawlaw14_lists.calls k3 _ _ t590 t615 _ ?_ ?_ ?_ A71.out).mono ?_); exact ca_ ((Kd.N_reads' HO_9.out).2.2); exact (Kd.N_reads' HO_9.out).2.1; exact ca_ ((Kd.C_below HRtab.out HB.out)); rintro e w79 ⟨v616, rfl, ho0, hb⟩; have HO617 := Aside0.mk (Kd.N_lower (Kd.N_mono (ok' := fun k_ => some k_ ≠ (.slice Ao42 t590.length co42 : Value).ownBlock ∧ some k_ ≠ (.slice Ao55 t583.length co55 : Value).ownBlock ∧ some k_ ≠ (.slice Ao15 t560.length co15 : Value).ownBlock ∧ some k_ ≠ (.slice Ao17 t563.length co17 : Value).ownBlock ∧ some k_ ≠ (.slice Ao19 t566.length co19 : Value).ownBlock ∧ some k_ ≠ (.slice Ao21 t569.length co21 : Value).ownBlock ∧ some k_ ≠ (.slice Ao23 t572.length co23 : Value).ownBlock ∧ some k_ ≠ (.slice Ao26 t576.length co26 : Value).ownBlock ∧ some k_ ≠ (.slice Ao77 t607.length co77 : Value).ownBlock ∧ some k_ ≠ (v613 : Value).ownBlock ∧ k_ ≠ gb557 ∧ k_ ≠ gb582) (Kd.S_N (Kd.S_bound ho0)) (fun k_ hk_ => ⟨(Kd.fresh' (Kd.N_lt (vN_ HO_9.out)) k_ hk_.2.1), (Kd.fresh' (Kd.N_lt (vN_ HO_80.out)) k_ hk_.2.1), (Kd.fresh' (Kd.R_lt (vR_ HO_583001.out)) k_ hk_.2.1), (Kd.fresh' (Kd.R_lt (vR_ HO_583002.out)) k_ hk_.2.1), (Kd.fresh' (Kd.R_lt (vR_ HO_583003.out)) k_ hk_.2.1), (Kd.fresh' (Kd.R_lt (vR_ HO_583004.out)) k_ hk_.2.1), (Kd.fresh' (Kd.R_lt (vR_ HO_583005.out)) k_ hk_.2.1), (Kd.fresh' (Kd.N_lt (vN_ HO_583007.out)) k_ hk_.2.1), (Kd.fresh' (Kd.N_lt (vN_ HO609.out)) k_ hk_.2.1), (Kd.fresh' (Kd.N_lt (vN_ HO614.out)) k_ hk_.2.1), (Kd.freshB (bk_ BK557.out) k_ hk_.2.1), (Kd.freshB (bk_ BK582.out) k_ hk_.2.1)⟩)) (below_size bel_)); replace HO614 := Aside0.mk (Kd.N_elder' (vN_ HO614.out) (Kd.N_base (Kd.S_N ho0)) hb); replace HB := Aside0.mk (below_step bel_ hb); clear hb ho0; obtain ⟨Ao80, co80, eo80⟩ := Kd.N_slice HO614.out; subst eo80; obtain ⟨Ao81, co81, eo81⟩ := Kd.N_slice HO617.out; subst eo81) | (go_at_call 13; (with_reducible refine (jigsawref10_Same.calls k3 _ _ t612 _ _ t615 t618 _ ?_ ?_ ?_ ?_ A72.out).mono ?_); exact ca_ ((Kd.N_reads' HO614.out).2.2); exact (Kd.N_reads' HO614.out).2.1; exact ca_ ((Kd.N_reads' HO617.out).2.2); exact (Kd.N_reads' HO617.out).2.1; rintro e w' ⟨rfl, ⟨nd, rfl⟩⟩))
              go_ret
              exact ⟨by first | rfl | (simp [errW_none, errW_some] <;> rfl) | (simp [*, errW_none, errW_some] <;> rfl), bel_⟩
             ·
              replace c69 := Bool.eq_false_iff.mpr c69
              subst c69
              have H1 : (none) = some r := by rw [if_neg (show ¬ (false = true) by decide)] at H; exact H
              clear H
              have H := H1
              clear H1
              exact absurd H (by simp)
            ·
             replace c68 := Bool.eq_false_iff.mpr c68
             subst c68
             have H1 : (none) = some r := by rw [if_neg (show ¬ (false = true) by decide)] at H; exact H
             clear H
             have H := H1
             clear H1
             exact absurd H (by simp)
     ·
      rw [if_neg c41] at H
      exact absurd H (by simp)
    ·
     replace c40 := Bool.eq_false_iff.mpr c40
     subst c40
     have H1 : ((jigsawlaw14_wakes.f kj7).bind fun t595 => (if t595 = true then (some ((t583.length : Int) == 0)) else (none))) = some r := by rw [if_neg (show ¬ (false = true) by decide)] at H; exact H
     clear H
     have H := H1
     clear H1
     replace H := Option.bind_eq_some_iff.mp H
     obtain ⟨t595, A820, H⟩ := H
     try dsimp only at H
     have A82 := Aside0.mk A820
     clear A820
     by_cases c83 : t595 = true
     ·
      subst c83
      have H1 : (some ((t583.length : Int) == 0)) = some r := by rw [if_pos rfl] at H; exact H
      clear H
      have H := H1
      clear H1
      obtain rfl := Option.some.inj H
      go_wp2_with (first | ((with_reducible refine gate_callee (f := 12) rfl ?_); refine goesL_ (some 46) rfl rfl Tryz.func12 (by kernel_rfl) rfl #[] rfl ar_ ?_; (with_reducible refine (jigsawlaw14_wakes.calls kj7 true _ ?_ A82.out).mono ?_); exact ca_ ((Kd.C_below HRtab.out HB.out)); rintro e w84 ⟨rfl, hb⟩; refine ⟨_, rfl, ?_⟩; replace HO_7 := Aside0.mk (Kd.N_below (vN_ HO_7.out) hb); replace HB := Aside0.mk (below_step bel_ hb); clear hb; obtain ⟨Ao85, co85, eo85⟩ := Kd.N_slice HO_7.out; subst eo85))
      go_ret
      exact ⟨by first | rfl | (simp [errW_none, errW_some] <;> rfl) | (simp [*, errW_none, errW_some] <;> rfl), bel_⟩
     ·
      replace c83 := Bool.eq_false_iff.mpr c83
      subst c83
      have H1 : (none) = some r := by rw [if_neg (show ¬ (false = true) by decide)] at H; exact H
      clear H
      have H := H1
      clear H1
      exact absurd H (by simp)

end Go.Proofs.YtmhchlbbfpmdgaaGreatDoor.XClauseKeeps
