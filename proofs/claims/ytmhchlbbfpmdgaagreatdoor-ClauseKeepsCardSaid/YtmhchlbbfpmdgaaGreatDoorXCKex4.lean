-- by xprint.py, a program of this session, over the kit's print
import Derived.Test.YtmhchlbbfpmdgaaGreatDoorXCKex0
import Derived.Test.YtmhchlbbfpmdgaaGreatDoorXCKex3
import Derived.Test.YtmhchlbbfpmdgaaGreatDoorSq
namespace Go.Proofs.YtmhchlbbfpmdgaaGreatDoor.XClauseKeeps
open Go.RowKit Go.Proofs.YtmhchlbbfpmdgaaGreatDoor.Sq Go.Proofs.YtmhchlbbfpmdgaaGreatDoorW.PrintWords Go.Proofs.YtmhchlbbfpmdgaaGreatDoorW.PrintLast Go.Proofs.YtmhchlbbfpmdgaaGreatDoorW.PrintMore
attribute [local go_sem] max2_int min2_int max_two min_two max_three min_three max_four min_four   -- for this text's walks alone
set_option linter.unusedVariables false
set_option linter.unusedSimpArgs false

/-! ### jigsawref02_Of: function 53 -/
mutual
def jigsawref02_Of.l0 : Nat → List Int → Int → Int → Int → Option (List Int × Int)
 | 0, _, _, _, _ => none
 | k + 1, x0, x4, x5, x6 => if x6 < (x0.length : Int) then (if 0 ≤ x6 then (if (rd x0 x6) < (-1000000) then (none) else (if (rd x0 x6) > 1000000 then (none) else (if (rd x0 x6) < x4 then (if (rd x0 x6) > x5 then (jigsawref02_Of.l0 k x0 (rd x0 x6) (rd x0 x6) (wrap64 (x6 + 1))) else (jigsawref02_Of.l0 k x0 (rd x0 x6) x5 (wrap64 (x6 + 1)))) else (if (rd x0 x6) > x5 then (jigsawref02_Of.l0 k x0 x4 (rd x0 x6) (wrap64 (x6 + 1))) else (jigsawref02_Of.l0 k x0 x4 x5 (wrap64 (x6 + 1))))))) else (none)) else (if (wrap64 (x5 - x4)) ≥ 65536 then (none) else (jigsawref02_Of.l1 k x0 ([] : List Int) 0))
def jigsawref02_Of.l1 : Nat → List Int → List Int → Int → Option (List Int × Int)
 | 0, _, _, _ => none
 | k + 1, x0, x7, x8 => if x8 < (x0.length : Int) then (if 0 ≤ x8 then ((jigsawref02_Has.f k x7 (rd x0 x8)).bind fun t141 => (if t141 = true then (jigsawref02_Of.l1 k x0 x7 (wrap64 (x8 + 1))) else (jigsawref02_Of.l2 k x0 x7 x8 ([] : List Int) false 0))) else (none)) else (some (x7, 0))
def jigsawref02_Of.l2 : Nat → List Int → List Int → Int → List Int → Bool → Int → Option (List Int × Int)
 | 0, _, _, _, _, _, _ => none
 | k + 1, x0, x7, x8, x10, x11, x12 => if x12 < (x7.length : Int) then (if 0 ≤ x12 then (if 0 ≤ x8 then (if x8 < (x0.length : Int) then (if (rd x7 x12) > (rd x0 x8) then (if x11 = true then (if x10.length < 17592186044416 then (jigsawref02_Of.l2 k x0 x7 x8 (x10 ++ [rd x7 x12]) x11 (wrap64 (x12 + 1))) else (none)) else (if x10.length < 17592186044416 then ((some (x10 ++ [rd x0 x8] : List Int)).bind fun y149 => (if y149.length < 17592186044416 then (jigsawref02_Of.l2 k x0 x7 x8 (y149 ++ [rd x7 x12]) true (wrap64 (x12 + 1))) else (none))) else (none))) else (if x10.length < 17592186044416 then (jigsawref02_Of.l2 k x0 x7 x8 (x10 ++ [rd x7 x12]) x11 (wrap64 (x12 + 1))) else (none))) else (none)) else (none)) else (none)) else (if x11 = true then (jigsawref02_Of.l1 k x0 x10 (wrap64 (x8 + 1))) else (if 0 ≤ x8 then (if x8 < (x0.length : Int) then (if x10.length < 17592186044416 then (jigsawref02_Of.l1 k x0 (x10 ++ [rd x0 x8]) (wrap64 (x8 + 1))) else (none)) else (none)) else (none)))
end
def jigsawref02_Of.f (k : Nat) (l0 : List Int) : Option (List Int × Int) := if (l0.length : Int) = 0 then (none) else (if 0 < (l0.length : Int) then (jigsawref02_Of.l0 k l0 (rd l0 0) (rd l0 0) 0) else (none))
theorem jigsawref02_Of.mono_l : ∀ k, (∀ y0 y1 y2 y3, LeO (jigsawref02_Of.l0 k y0 y1 y2 y3) (jigsawref02_Of.l0 (k + 1) y0 y1 y2 y3)) ∧ (∀ y0 y1 y2, LeO (jigsawref02_Of.l1 k y0 y1 y2) (jigsawref02_Of.l1 (k + 1) y0 y1 y2)) ∧ (∀ y0 y1 y2 y3 y4 y5, LeO (jigsawref02_Of.l2 k y0 y1 y2 y3 y4 y5) (jigsawref02_Of.l2 (k + 1) y0 y1 y2 y3 y4 y5))
 | 0 => ⟨fun _ _ _ _ r h => by simp [jigsawref02_Of.l0] at h, fun _ _ _ r h => by simp [jigsawref02_Of.l1] at h, fun _ _ _ _ _ _ r h => by simp [jigsawref02_Of.l2] at h⟩
 | k + 1 => by
  obtain ⟨ih0, ih1, ih2⟩ := jigsawref02_Of.mono_l k
  refine ⟨?_, ?_, ?_⟩
  ·
   intro y0 y1 y2 y3
   unfold jigsawref02_Of.l0
   have m0 := @jigsawref02_Has.mono
   exact leo_
  ·
   intro y0 y1 y2
   unfold jigsawref02_Of.l1
   have m0 := @jigsawref02_Has.mono
   exact leo_
  ·
   intro y0 y1 y2 y3 y4 y5
   unfold jigsawref02_Of.l2
   have m0 := @jigsawref02_Has.mono
   exact leo_
theorem jigsawref02_Of.mono : ∀ a0 k, LeO (jigsawref02_Of.f k a0) (jigsawref02_Of.f (k + 1) a0) := by
 intro a0 k
 obtain ⟨ih0, ih1, ih2⟩ := jigsawref02_Of.mono_l k
 unfold jigsawref02_Of.f
 have m0 := @jigsawref02_Has.mono
 exact leo_
set_option maxHeartbeats 8000000 in
set_option maxRecDepth 100000 in
theorem jigsawref02_Of.calls (k : Nat) (A0 : Option Addr) (c0 : Nat) (l0 : List Int) (r1 : List Int) (r2 : Int) (w : World) (hr0 : Kd.C (Kd.int .i64) w A0 l0.length l0) (hc0 : l0.length ≤ c0) (h : jigsawref02_Of.f k l0 = some (r1, r2)) :
  Calls Tryz.prog 53 #[.slice A0 l0.length c0] w fun e w' => ∃ v0_ : Value, e = .returned (.tuple #[v0_, .int .i64 r2]) ∧ Kd.R (Kd.int .i64) 3 w' w.heap.size (fun _ => True) v0_ r1 ∧ Below w.heap.size w w' := by
 have HR0 := Aside0.mk hr0
 have HC0 := Aside0.mk hc0
 clear hr0 hc0
 have HB := Aside0.mk (Below.refl w.heap.size w)
 have H : (if (l0.length : Int) = 0 then (none) else (if 0 < (l0.length : Int) then (jigsawref02_Of.l0 k l0 (rd l0 0) (rd l0 0) 0) else (none))) = some (r1, r2) := h
 clear h
 by_cases c2 : (l0.length : Int) = 0
 ·
  rw [if_pos c2] at H
  exact absurd H (by simp)
 ·
  rw [if_neg c2] at H
  have c2b0 : ((l0.length : Int) == 0) = false := beq_eq_false_iff_ne.mpr c2
  have c2b1 : ((l0.length : Int) != 0) = true := bne_iff_ne.mpr c2
  have c2b2 : ¬ (l0 = []) := fun h_ => c2 (by rw [h_]; rfl)
  by_cases c3 : 0 < (l0.length : Int)
  ·
   rw [if_pos c3] at H
   have c3b0 : decide (0 < (l0.length : Int)) = true := decide_eq_true c3
   have c3b1 : decide (0 < l0.length) = true := decide_eq_true (by omega)
   clear c3
   have H' := Aside0.mk H
   clear H
   have p130 : 0 ≤ (0 : Int) := (by omega)
   have q130 : 0 < (l0.length : Int) := dq_
   obtain ⟨ad130, e130, hx130_0⟩ := Kd.at_int HR0.out 0 p130 q130
   cases e130
   have qi130 : (0 < l0.length) = True := eq_true (by omega)
   (try rw [show ((0 : Int)).toNat = 0 from rfl] at hx130_0)
   (try rw [Addr.add_zero'] at hx130_0)
   replace p130 := eq_true p130
   replace q130 := eq_true q130
   have p131 : 0 ≤ (0 : Int) := (by omega)
   have q131 : 0 < (l0.length : Int) := dq_
   obtain ⟨ad131, e131, hx131_0⟩ := Kd.at_int HR0.out 0 p131 q131
   obtain rfl : ad130 = ad131 := (by injection e131)
   have qi131 : (0 < l0.length) = True := eq_true (by omega)
   (try rw [show ((0 : Int)).toNat = 0 from rfl] at hx131_0)
   (try rw [Addr.add_zero'] at hx131_0)
   replace p131 := eq_true p131
   replace q131 := eq_true q131
   go_enter Tryz.func53, Tryz.ntmps53
   go_wp2
   repeat (go_quiet (fail); try go_wp2)
   go_loopg [4, 5, 6] k (fun kq v4 v5 v6 w' => ∃ (x4_1 : Int) (x5_1 : Int) (x6_1 : Int), v4 = .int .i64 x4_1 ∧ v5 = .int .i64 x5_1 ∧ v6 = .int .i64 x6_1 ∧ Aside0 (jigsawref02_Of.l0 kq l0 x4_1 x5_1 x6_1 = some (r1, r2)) ∧ Aside0 (kq ≤ k) ∧ Aside0 (Below w.heap.size w w'))
   case atStart => exact ⟨(rd l0 0), (rd l0 0), (0), eq_, eq_, eq_, H', ⟨Nat.le_refl _⟩, ⟨bel_⟩⟩
   case round =>
    clear H'
    try clear p1
    try clear q1
    try clear hx1
    try clear qi1
    try clear c2
    try clear c2b0
    try clear c2b1
    try clear c2b2
    try clear p2
    try clear c3
    try clear c3b0
    try clear c3b1
    try clear hx130_0
    try clear hx131_0
    try clear p130
    try clear p131
    try clear q130
    try clear q131
    obtain ⟨x4_1, x5_1, x6_1, rfl, rfl, rfl, HA, HK1, HB⟩ := hrel
    cases gk with
    | zero => exact absurd HA.out (by simp [jigsawref02_Of.l0])
    | succ k1 =>
     have H := HA.out
     clear HA
     simp only [jigsawref02_Of.l0] at H
     by_cases c4 : x6_1 < (l0.length : Int)
     ·
      rw [if_pos c4] at H
      have c4b0 : decide (x6_1 < (l0.length : Int)) = true := decide_eq_true c4
      clear c4
      by_cases c5 : 0 ≤ x6_1
      ·
       rw [if_pos c5] at H
       have c5b0 : decide (0 ≤ x6_1) = true := decide_eq_true c5
       clear c5
       by_cases c6 : (rd l0 x6_1) < (-1000000)
       ·
        rw [if_pos c6] at H
        exact absurd H (by simp)
       ·
        rw [if_neg c6] at H
        have c6b0 : decide ((rd l0 x6_1) < (-1000000)) = false := decide_eq_false c6
        clear c6
        by_cases c7 : (rd l0 x6_1) > 1000000
        ·
         rw [if_pos c7] at H
         exact absurd H (by simp)
        ·
         rw [if_neg c7] at H
         have c7b0 : decide (1000000 < (rd l0 x6_1)) = false := decide_eq_false c7
         clear c7
         by_cases c8 : (rd l0 x6_1) < x4_1
         ·
          rw [if_pos c8] at H
          have c8b0 : decide ((rd l0 x6_1) < x4_1) = true := decide_eq_true c8
          clear c8
          by_cases c9 : (rd l0 x6_1) > x5_1
          ·
           rw [if_pos c9] at H
           have c9b0 : decide (x5_1 < (rd l0 x6_1)) = true := decide_eq_true c9
           clear c9
           have H' := Aside0.mk H
           clear H
           have p132 : 0 ≤ (x6_1 : Int) := dq_
           have q132 : x6_1 < (l0.length : Int) := dq_
           obtain ⟨ad132, e132, hx132_0⟩ := Kd.at_int HR0.out x6_1 p132 q132
           obtain rfl : ad130 = ad132 := (by injection e132)
           replace hx132_0 := (HB.out.cell (World.block_lt_of_cell? w _ hx132_0)).trans hx132_0
           replace p132 := eq_true p132
           replace q132 := eq_true q132
           have p133 : 0 ≤ (x6_1 : Int) := dq_
           have q133 : x6_1 < (l0.length : Int) := dq_
           obtain ⟨ad133, e133, hx133_0⟩ := Kd.at_int HR0.out x6_1 p133 q133
           obtain rfl : ad130 = ad133 := (by injection e133)
           replace hx133_0 := (HB.out.cell (World.block_lt_of_cell? w _ hx133_0)).trans hx133_0
           replace p133 := eq_true p133
           replace q133 := eq_true q133
           have p134 : 0 ≤ (x6_1 : Int) := dq_
           have q134 : x6_1 < (l0.length : Int) := dq_
           obtain ⟨ad134, e134, hx134_0⟩ := Kd.at_int HR0.out x6_1 p134 q134
           obtain rfl : ad130 = ad134 := (by injection e134)
           replace hx134_0 := (HB.out.cell (World.block_lt_of_cell? w _ hx134_0)).trans hx134_0
           replace p134 := eq_true p134
           replace q134 := eq_true q134
           have p135 : 0 ≤ (x6_1 : Int) := dq_
           have q135 : x6_1 < (l0.length : Int) := dq_
           obtain ⟨ad135, e135, hx135_0⟩ := Kd.at_int HR0.out x6_1 p135 q135
           obtain rfl : ad130 = ad135 := (by injection e135)
           replace hx135_0 := (HB.out.cell (World.block_lt_of_cell? w _ hx135_0)).trans hx135_0
           replace p135 := eq_true p135
           replace q135 := eq_true q135
           have p136 : 0 ≤ (x6_1 : Int) := dq_
           have q136 : x6_1 < (l0.length : Int) := dq_
           obtain ⟨ad136, e136, hx136_0⟩ := Kd.at_int HR0.out x6_1 p136 q136
           obtain rfl : ad130 = ad136 := (by injection e136)
           replace hx136_0 := (HB.out.cell (World.block_lt_of_cell? w _ hx136_0)).trans hx136_0
           replace p136 := eq_true p136
           replace q136 := eq_true q136
           have p137 : 0 ≤ (x6_1 : Int) := dq_
           have q137 : x6_1 < (l0.length : Int) := dq_
           obtain ⟨ad137, e137, hx137_0⟩ := Kd.at_int HR0.out x6_1 p137 q137
           obtain rfl : ad130 = ad137 := (by injection e137)
           replace hx137_0 := (HB.out.cell (World.block_lt_of_cell? w _ hx137_0)).trans hx137_0
           replace p137 := eq_true p137
           replace q137 := eq_true q137
           go_wp2
           repeat (go_quiet (fail); try go_wp2)
           go_roundg k1
           case measure => have := HK1.out; omega
           case rel => exact ⟨(rd l0 x6_1), (rd l0 x6_1), (wrap64 (x6_1 + 1)), eq_, eq_, eq_, H', ⟨by have := HK1.out; omega⟩, ⟨bel_⟩⟩
          ·
           rw [if_neg c9] at H
           have c9b0 : decide (x5_1 < (rd l0 x6_1)) = false := decide_eq_false c9
           clear c9
           have H' := Aside0.mk H
           clear H
           have p132 : 0 ≤ (x6_1 : Int) := dq_
           have q132 : x6_1 < (l0.length : Int) := dq_
           obtain ⟨ad132, e132, hx132_0⟩ := Kd.at_int HR0.out x6_1 p132 q132
           obtain rfl : ad130 = ad132 := (by injection e132)
           replace hx132_0 := (HB.out.cell (World.block_lt_of_cell? w _ hx132_0)).trans hx132_0
           replace p132 := eq_true p132
           replace q132 := eq_true q132
           have p133 : 0 ≤ (x6_1 : Int) := dq_
           have q133 : x6_1 < (l0.length : Int) := dq_
           obtain ⟨ad133, e133, hx133_0⟩ := Kd.at_int HR0.out x6_1 p133 q133
           obtain rfl : ad130 = ad133 := (by injection e133)
           replace hx133_0 := (HB.out.cell (World.block_lt_of_cell? w _ hx133_0)).trans hx133_0
           replace p133 := eq_true p133
           replace q133 := eq_true q133
           have p134 : 0 ≤ (x6_1 : Int) := dq_
           have q134 : x6_1 < (l0.length : Int) := dq_
           obtain ⟨ad134, e134, hx134_0⟩ := Kd.at_int HR0.out x6_1 p134 q134
           obtain rfl : ad130 = ad134 := (by injection e134)
           replace hx134_0 := (HB.out.cell (World.block_lt_of_cell? w _ hx134_0)).trans hx134_0
           replace p134 := eq_true p134
           replace q134 := eq_true q134
           have p135 : 0 ≤ (x6_1 : Int) := dq_
           have q135 : x6_1 < (l0.length : Int) := dq_
           obtain ⟨ad135, e135, hx135_0⟩ := Kd.at_int HR0.out x6_1 p135 q135
           obtain rfl : ad130 = ad135 := (by injection e135)
           replace hx135_0 := (HB.out.cell (World.block_lt_of_cell? w _ hx135_0)).trans hx135_0
           replace p135 := eq_true p135
           replace q135 := eq_true q135
           have p136 : 0 ≤ (x6_1 : Int) := dq_
           have q136 : x6_1 < (l0.length : Int) := dq_
           obtain ⟨ad136, e136, hx136_0⟩ := Kd.at_int HR0.out x6_1 p136 q136
           obtain rfl : ad130 = ad136 := (by injection e136)
           replace hx136_0 := (HB.out.cell (World.block_lt_of_cell? w _ hx136_0)).trans hx136_0
           replace p136 := eq_true p136
           replace q136 := eq_true q136
           go_wp2
           repeat (go_quiet (fail); try go_wp2)
           go_roundg k1
           case measure => have := HK1.out; omega
           case rel => exact ⟨(rd l0 x6_1), (x5_1), (wrap64 (x6_1 + 1)), eq_, eq_, eq_, H', ⟨by have := HK1.out; omega⟩, ⟨bel_⟩⟩
         ·
          rw [if_neg c8] at H
          have c8b0 : decide ((rd l0 x6_1) < x4_1) = false := decide_eq_false c8
          clear c8
          by_cases c10 : (rd l0 x6_1) > x5_1
          ·
           rw [if_pos c10] at H
           have c10b0 : decide (x5_1 < (rd l0 x6_1)) = true := decide_eq_true c10
           clear c10
           have H' := Aside0.mk H
           clear H
           have p132 : 0 ≤ (x6_1 : Int) := dq_
           have q132 : x6_1 < (l0.length : Int) := dq_
           obtain ⟨ad132, e132, hx132_0⟩ := Kd.at_int HR0.out x6_1 p132 q132
           obtain rfl : ad130 = ad132 := (by injection e132)
           replace hx132_0 := (HB.out.cell (World.block_lt_of_cell? w _ hx132_0)).trans hx132_0
           replace p132 := eq_true p132
           replace q132 := eq_true q132
           have p133 : 0 ≤ (x6_1 : Int) := dq_
           have q133 : x6_1 < (l0.length : Int) := dq_
           obtain ⟨ad133, e133, hx133_0⟩ := Kd.at_int HR0.out x6_1 p133 q133
           obtain rfl : ad130 = ad133 := (by injection e133)
           replace hx133_0 := (HB.out.cell (World.block_lt_of_cell? w _ hx133_0)).trans hx133_0
           replace p133 := eq_true p133
           replace q133 := eq_true q133
           have p134 : 0 ≤ (x6_1 : Int) := dq_
           have q134 : x6_1 < (l0.length : Int) := dq_
           obtain ⟨ad134, e134, hx134_0⟩ := Kd.at_int HR0.out x6_1 p134 q134
           obtain rfl : ad130 = ad134 := (by injection e134)
           replace hx134_0 := (HB.out.cell (World.block_lt_of_cell? w _ hx134_0)).trans hx134_0
           replace p134 := eq_true p134
           replace q134 := eq_true q134
           have p138 : 0 ≤ (x6_1 : Int) := dq_
           have q138 : x6_1 < (l0.length : Int) := dq_
           obtain ⟨ad138, e138, hx138_0⟩ := Kd.at_int HR0.out x6_1 p138 q138
           obtain rfl : ad130 = ad138 := (by injection e138)
           replace hx138_0 := (HB.out.cell (World.block_lt_of_cell? w _ hx138_0)).trans hx138_0
           replace p138 := eq_true p138
           replace q138 := eq_true q138
           have p139 : 0 ≤ (x6_1 : Int) := dq_
           have q139 : x6_1 < (l0.length : Int) := dq_
           obtain ⟨ad139, e139, hx139_0⟩ := Kd.at_int HR0.out x6_1 p139 q139
           obtain rfl : ad130 = ad139 := (by injection e139)
           replace hx139_0 := (HB.out.cell (World.block_lt_of_cell? w _ hx139_0)).trans hx139_0
           replace p139 := eq_true p139
           replace q139 := eq_true q139
           go_wp2
           repeat (go_quiet (fail); try go_wp2)
           go_roundg k1
           case measure => have := HK1.out; omega
           case rel => exact ⟨(x4_1), (rd l0 x6_1), (wrap64 (x6_1 + 1)), eq_, eq_, eq_, H', ⟨by have := HK1.out; omega⟩, ⟨bel_⟩⟩
          ·
           rw [if_neg c10] at H
           have c10b0 : decide (x5_1 < (rd l0 x6_1)) = false := decide_eq_false c10
           clear c10
           have H' := Aside0.mk H
           clear H
           have p132 : 0 ≤ (x6_1 : Int) := dq_
           have q132 : x6_1 < (l0.length : Int) := dq_
           obtain ⟨ad132, e132, hx132_0⟩ := Kd.at_int HR0.out x6_1 p132 q132
           obtain rfl : ad130 = ad132 := (by injection e132)
           replace hx132_0 := (HB.out.cell (World.block_lt_of_cell? w _ hx132_0)).trans hx132_0
           replace p132 := eq_true p132
           replace q132 := eq_true q132
           have p133 : 0 ≤ (x6_1 : Int) := dq_
           have q133 : x6_1 < (l0.length : Int) := dq_
           obtain ⟨ad133, e133, hx133_0⟩ := Kd.at_int HR0.out x6_1 p133 q133
           obtain rfl : ad130 = ad133 := (by injection e133)
           replace hx133_0 := (HB.out.cell (World.block_lt_of_cell? w _ hx133_0)).trans hx133_0
           replace p133 := eq_true p133
           replace q133 := eq_true q133
           have p134 : 0 ≤ (x6_1 : Int) := dq_
           have q134 : x6_1 < (l0.length : Int) := dq_
           obtain ⟨ad134, e134, hx134_0⟩ := Kd.at_int HR0.out x6_1 p134 q134
           obtain rfl : ad130 = ad134 := (by injection e134)
           replace hx134_0 := (HB.out.cell (World.block_lt_of_cell? w _ hx134_0)).trans hx134_0
           replace p134 := eq_true p134
           replace q134 := eq_true q134
           have p138 : 0 ≤ (x6_1 : Int) := dq_
           have q138 : x6_1 < (l0.length : Int) := dq_
           obtain ⟨ad138, e138, hx138_0⟩ := Kd.at_int HR0.out x6_1 p138 q138
           obtain rfl : ad130 = ad138 := (by injection e138)
           replace hx138_0 := (HB.out.cell (World.block_lt_of_cell? w _ hx138_0)).trans hx138_0
           replace p138 := eq_true p138
           replace q138 := eq_true q138
           go_wp2
           repeat (go_quiet (fail); try go_wp2)
           go_roundg k1
           case measure => have := HK1.out; omega
           case rel => exact ⟨(x4_1), (x5_1), (wrap64 (x6_1 + 1)), eq_, eq_, eq_, H', ⟨by have := HK1.out; omega⟩, ⟨bel_⟩⟩
      ·
       rw [if_neg c5] at H
       exact absurd H (by simp)
     ·
      rw [if_neg c4] at H
      have c4b0 : decide (x6_1 < (l0.length : Int)) = false := decide_eq_false c4
      clear c4
      by_cases c11 : (wrap64 (x5_1 - x4_1)) ≥ 65536
      ·
       rw [if_pos c11] at H
       exact absurd H (by simp)
      ·
       rw [if_neg c11] at H
       have c11b0 : decide (65536 ≤ (wrap64 (x5_1 - x4_1))) = false := decide_eq_false c11
       clear c11
       have H' := Aside0.mk H
       clear H
       go_wp2
       repeat (go_quiet (fail); try go_wp2)
       go_loopg [7, 8] k1 (fun kq v7 v8 w' => ∃ (x7_2 : List Int) (x8_2 : Int), v8 = .int .i64 x8_2 ∧ Aside0 (jigsawref02_Of.l1 kq l0 x7_2 x8_2 = some (r1, r2)) ∧ Aside0 (kq ≤ k1) ∧ Aside0 (Kd.R (Kd.int .i64) 3 w' w.heap.size (fun _ => True) v7 x7_2) ∧ Aside0 (Below w.heap.size w w'))
       case atStart => exact ⟨(([] : List Int)), (0), eq_, H', ⟨Nat.le_refl _⟩, ⟨nil_⟩, ⟨bel_⟩⟩
       case round =>
        clear H'
        try clear c1
        try clear p1
        try clear q1
        try clear hx1
        try clear qi1
        try clear c2
        try clear c2b0
        try clear c2b1
        try clear c2b2
        try clear p2
        try clear c3
        try clear c3b0
        try clear c3b1
        try clear c4
        try clear c4b0
        try clear c5
        try clear c5b0
        try clear c6
        try clear c6b0
        try clear p6
        try clear c7
        try clear c7b0
        try clear c8
        try clear c8b0
        try clear c9
        try clear c9b0
        try clear c10
        try clear c10b0
        try clear c11
        try clear c11b0
        try clear hx130_0
        try clear hx131_0
        try clear hx132_0
        try clear hx133_0
        try clear hx134_0
        try clear hx135_0
        try clear hx136_0
        try clear hx137_0
        try clear hx138_0
        try clear hx139_0
        try clear p1
        try clear p130
        try clear p131
        try clear p132
        try clear p133
        try clear p134
        try clear p135
        try clear p136
        try clear p137
        try clear p138
        try clear p139
        try clear p2
        try clear q1
        try clear q130
        try clear q131
        try clear q132
        try clear q133
        try clear q134
        try clear q135
        try clear q136
        try clear q137
        try clear q138
        try clear q139
        obtain ⟨x7_2, x8_2, rfl, HA, HK2, HO_7, HB⟩ := hrel
        cases gk with
        | zero => exact absurd HA.out (by simp [jigsawref02_Of.l1])
        | succ k2 =>
         have H := HA.out
         clear HA
         simp only [jigsawref02_Of.l1] at H
         by_cases c12 : x8_2 < (l0.length : Int)
         ·
          rw [if_pos c12] at H
          have c12b0 : decide (x8_2 < (l0.length : Int)) = true := decide_eq_true c12
          clear c12
          by_cases c13 : 0 ≤ x8_2
          ·
           rw [if_pos c13] at H
           have c13b0 : decide (0 ≤ x8_2) = true := decide_eq_true c13
           clear c13
           replace H := Option.bind_eq_some_iff.mp H
           obtain ⟨t141, A140, H⟩ := H
           replace H : (if t141 = true then (jigsawref02_Of.l1 k2 l0 x7_2 (wrap64 (x8_2 + 1))) else (jigsawref02_Of.l2 k2 l0 x7_2 x8_2 ([] : List Int) false 0)) = some (r1, r2) := H
           have A14 := Aside0.mk A140
           clear A140
           by_cases c15 : t141 = true
           ·
            subst c15
            have H1 : (jigsawref02_Of.l1 k2 l0 x7_2 (wrap64 (x8_2 + 1))) = some (r1, r2) := by rw [if_pos rfl] at H; exact H
            clear H
            have H := H1
            clear H1
            have H' := Aside0.mk H
            clear H
            have p140 : 0 ≤ (x8_2 : Int) := dq_
            have q140 : x8_2 < (l0.length : Int) := dq_
            obtain ⟨ad140, e140, hx140_0⟩ := Kd.at_int HR0.out x8_2 p140 q140
            obtain rfl : ad130 = ad140 := (by injection e140)
            replace hx140_0 := (HB.out.cell (World.block_lt_of_cell? w _ hx140_0)).trans hx140_0
            replace p140 := eq_true p140
            replace q140 := eq_true q140
            obtain ⟨Ao16, co16, eo16⟩ := Kd.R_slice HO_7.out
            subst eo16
            go_wp2_with (first | (go_at_call 66; (with_reducible refine (jigsawref02_Has.calls k2 _ _ x7_2 (rd l0 x8_2) true _ ?_ ?_ A14.out).mono ?_); exact ca_ ((Kd.R_reads' HO_7.out).2.2); exact (Kd.R_reads' HO_7.out).2.1; rintro e w' ⟨rfl, ⟨nd, rfl⟩⟩; (try first | exact ⟨rfl, _, World.drewN_drewN _ _ _⟩ | exact ⟨rfl, _, Eq.trans (World.drewN_drewN _ _ _) (congrArg (World.drewN _) (Nat.add_assoc _ _ _))⟩)))
            repeat (go_quiet (first | (go_at_call 66; (with_reducible refine (jigsawref02_Has.calls k2 _ _ x7_2 (rd l0 x8_2) true _ ?_ ?_ A14.out).mono ?_); exact ca_ ((Kd.R_reads' HO_7.out).2.2); exact (Kd.R_reads' HO_7.out).2.1; rintro e w' ⟨rfl, ⟨nd, rfl⟩⟩; (try first | exact ⟨rfl, _, World.drewN_drewN _ _ _⟩ | exact ⟨rfl, _, Eq.trans (World.drewN_drewN _ _ _) (congrArg (World.drewN _) (Nat.add_assoc _ _ _))⟩))); try go_wp2_with (first | (go_at_call 66; (with_reducible refine (jigsawref02_Has.calls k2 _ _ x7_2 (rd l0 x8_2) true _ ?_ ?_ A14.out).mono ?_); exact ca_ ((Kd.R_reads' HO_7.out).2.2); exact (Kd.R_reads' HO_7.out).2.1; rintro e w' ⟨rfl, ⟨nd, rfl⟩⟩; (try first | exact ⟨rfl, _, World.drewN_drewN _ _ _⟩ | exact ⟨rfl, _, Eq.trans (World.drewN_drewN _ _ _) (congrArg (World.drewN _) (Nat.add_assoc _ _ _))⟩))))
            go_roundg k2
            case measure => have := HK1.out; have := HK2.out; omega
            case rel => exact ⟨(x7_2), (wrap64 (x8_2 + 1)), eq_, H', ⟨by have := HK1.out; have := HK2.out; omega⟩, ⟨by refine vR_ ?_; exact HO_7.out⟩, ⟨bel_⟩⟩
           ·
            replace c15 := Bool.eq_false_iff.mpr c15
            subst c15
            have H1 : (jigsawref02_Of.l2 k2 l0 x7_2 x8_2 ([] : List Int) false 0) = some (r1, r2) := by rw [if_neg (show ¬ (false = true) by decide)] at H; exact H
            clear H
            have H := H1
            clear H1
            have H' := Aside0.mk H
            clear H
            have p140 : 0 ≤ (x8_2 : Int) := dq_
            have q140 : x8_2 < (l0.length : Int) := dq_
            obtain ⟨ad140, e140, hx140_0⟩ := Kd.at_int HR0.out x8_2 p140 q140
            obtain rfl : ad130 = ad140 := (by injection e140)
            replace hx140_0 := (HB.out.cell (World.block_lt_of_cell? w _ hx140_0)).trans hx140_0
            replace p140 := eq_true p140
            replace q140 := eq_true q140
            obtain ⟨Ao17, co17, eo17⟩ := Kd.R_slice HO_7.out
            subst eo17
            go_wp2_with (first | (go_at_call 66; (with_reducible refine (jigsawref02_Has.calls k2 _ _ x7_2 (rd l0 x8_2) false _ ?_ ?_ A14.out).mono ?_); exact ca_ ((Kd.R_reads' HO_7.out).2.2); exact (Kd.R_reads' HO_7.out).2.1; rintro e w' ⟨rfl, ⟨nd, rfl⟩⟩; (try first | exact ⟨rfl, _, World.drewN_drewN _ _ _⟩ | exact ⟨rfl, _, Eq.trans (World.drewN_drewN _ _ _) (congrArg (World.drewN _) (Nat.add_assoc _ _ _))⟩)))
            repeat (go_quiet (first | (go_at_call 66; (with_reducible refine (jigsawref02_Has.calls k2 _ _ x7_2 (rd l0 x8_2) false _ ?_ ?_ A14.out).mono ?_); exact ca_ ((Kd.R_reads' HO_7.out).2.2); exact (Kd.R_reads' HO_7.out).2.1; rintro e w' ⟨rfl, ⟨nd, rfl⟩⟩; (try first | exact ⟨rfl, _, World.drewN_drewN _ _ _⟩ | exact ⟨rfl, _, Eq.trans (World.drewN_drewN _ _ _) (congrArg (World.drewN _) (Nat.add_assoc _ _ _))⟩))); try go_wp2_with (first | (go_at_call 66; (with_reducible refine (jigsawref02_Has.calls k2 _ _ x7_2 (rd l0 x8_2) false _ ?_ ?_ A14.out).mono ?_); exact ca_ ((Kd.R_reads' HO_7.out).2.2); exact (Kd.R_reads' HO_7.out).2.1; rintro e w' ⟨rfl, ⟨nd, rfl⟩⟩; (try first | exact ⟨rfl, _, World.drewN_drewN _ _ _⟩ | exact ⟨rfl, _, Eq.trans (World.drewN_drewN _ _ _) (congrArg (World.drewN _) (Nat.add_assoc _ _ _))⟩))))
            go_loopg [10, 11, 12] k2 (fun kq v10 v11 v12 w' => ∃ (x10_3 : List Int) (x11_3 : Bool) (x12_3 : Int), v11 = .bool x11_3 ∧ v12 = .int .i64 x12_3 ∧ Aside0 (jigsawref02_Of.l2 kq l0 x7_2 x8_2 x10_3 x11_3 x12_3 = some (r1, r2)) ∧ Aside0 (kq ≤ k2) ∧ Aside0 (Kd.R (Kd.int .i64) 3 w' w.heap.size (fun k_ => some k_ ≠ (v10 : Value).ownBlock) (.slice Ao17 x7_2.length co17) x7_2) ∧ Aside0 (Kd.R (Kd.int .i64) 3 w' w.heap.size (fun k_ => some k_ ≠ ((.slice Ao17 x7_2.length co17) : Value).ownBlock) v10 x10_3) ∧ Aside0 (Below w.heap.size w w'))
            case atStart => exact ⟨(([] : List Int)), (false), (0), eq_, eq_, H', ⟨Nat.le_refl _⟩, ⟨by refine vR_ ?_; exact Kd.R_mono HO_7.out (fun _ hk => (by simp [Value.ownBlock]))⟩, ⟨nil_⟩, ⟨bel_⟩⟩
            case round =>
             clear H'
             try clear c1
             try clear p1
             try clear q1
             try clear hx1
             try clear qi1
             try clear c2
             try clear c2b0
             try clear c2b1
             try clear c2b2
             try clear p2
             try clear c3
             try clear c3b0
             try clear c3b1
             try clear c4
             try clear c4b0
             try clear c5
             try clear c5b0
             try clear c6
             try clear c6b0
             try clear p6
             try clear c7
             try clear c7b0
             try clear c8
             try clear c8b0
             try clear c9
             try clear c9b0
             try clear c10
             try clear c10b0
             try clear c11
             try clear c11b0
             try clear c12
             try clear c12b0
             try clear c13
             try clear c13b0
             try clear p13
             try clear q13
             try clear hx13
             try clear qi13
             try clear p14
             try clear q14
             try clear hx14
             try clear c15
             try clear hx130_0
             try clear hx131_0
             try clear hx132_0
             try clear hx133_0
             try clear hx134_0
             try clear hx135_0
             try clear hx136_0
             try clear hx137_0
             try clear hx138_0
             try clear hx139_0
             try clear hx140_0
             try clear p1
             try clear p130
             try clear p131
             try clear p132
             try clear p133
             try clear p134
             try clear p135
             try clear p136
             try clear p137
             try clear p138
             try clear p139
             try clear p140
             try clear p2
             try clear p6
             try clear q1
             try clear q130
             try clear q131
             try clear q132
             try clear q133
             try clear q134
             try clear q135
             try clear q136
             try clear q137
             try clear q138
             try clear q139
             try clear q140
             obtain ⟨x10_3, x11_3, x12_3, rfl, rfl, HA, HK3, HO_7, HO_10, HB⟩ := hrel
             cases gk with
             | zero => exact absurd HA.out (by simp [jigsawref02_Of.l2])
             | succ k3 =>
              have H := HA.out
              clear HA
              simp only [jigsawref02_Of.l2] at H
              by_cases c18 : x12_3 < (x7_2.length : Int)
              ·
               rw [if_pos c18] at H
               have c18b0 : decide (x12_3 < (x7_2.length : Int)) = true := decide_eq_true c18
               clear c18
               by_cases c19 : 0 ≤ x12_3
               ·
                rw [if_pos c19] at H
                have c19b0 : decide (0 ≤ x12_3) = true := decide_eq_true c19
                clear c19
                by_cases c20 : 0 ≤ x8_2
                ·
                 rw [if_pos c20] at H
                 have c20b0 : decide (0 ≤ x8_2) = true := decide_eq_true c20
                 clear c20
                 by_cases c21 : x8_2 < (l0.length : Int)
                 ·
                  rw [if_pos c21] at H
                  have c21b0 : decide (x8_2 < (l0.length : Int)) = true := decide_eq_true c21
                  clear c21
                  by_cases c22 : (rd x7_2 x12_3) > (rd l0 x8_2)
                  ·
                   rw [if_pos c22] at H
                   have c22b0 : decide ((rd l0 x8_2) < (rd x7_2 x12_3)) = true := decide_eq_true c22
                   clear c22
                   by_cases c23 : x11_3 = true
                   ·
                    subst c23
                    have H1 : (if x10_3.length < 17592186044416 then (jigsawref02_Of.l2 k3 l0 x7_2 x8_2 (x10_3 ++ [rd x7_2 x12_3]) true (wrap64 (x12_3 + 1))) else (none)) = some (r1, r2) := by rw [if_pos rfl] at H; exact H
                    clear H
                    have H := H1
                    clear H1
                    by_cases c24 : x10_3.length < 17592186044416
                    ·
                     rw [if_pos c24] at H
                     have LMc24 := Aside0.mk c24
                     clear c24
                     obtain ⟨y145, hy145⟩ : ∃ y_ : List Int, y_ = (x10_3 ++ [rd x7_2 x12_3]) := ⟨_, rfl⟩
                     replace H : (jigsawref02_Of.l2 k3 l0 x7_2 x8_2 y145 true (wrap64 (x12_3 + 1))) = some (r1, r2) := by first | (rw [hy145]; with_reducible exact H) | (have H2_ := (Option.bind_some _ _).symm.trans H; rw [hy145]; with_reducible exact H2_) | (have H2_ := (Option.bind_some _ _).symm.trans H; with_reducible exact H2_) | with_reducible exact H | (rw [hy145]; exact H) | exact H
                     have Ny145 := Aside0.mk hy145
                     clear hy145
                     have H' := Aside0.mk H
                     clear H
                     have p142 : 0 ≤ (x12_3 : Int) := dq_
                     have q142 : x12_3 < (x7_2.length : Int) := dq_
                     obtain ⟨ad142, e142, hx142_0⟩ := Kd.at_int (Kd.R_reads' HO_7.out).2.2 x12_3 p142 q142
                     cases e142
                     replace p142 := eq_true p142
                     replace q142 := eq_true q142
                     have p143 : 0 ≤ (x8_2 : Int) := dq_
                     have q143 : x8_2 < (l0.length : Int) := dq_
                     obtain ⟨ad143, e143, hx143_0⟩ := Kd.at_int HR0.out x8_2 p143 q143
                     obtain rfl : ad130 = ad143 := (by injection e143)
                     replace hx143_0 := (HB.out.cell (World.block_lt_of_cell? w _ hx143_0)).trans hx143_0
                     replace p143 := eq_true p143
                     replace q143 := eq_true q143
                     have p144 : 0 ≤ (x12_3 : Int) := dq_
                     have q144 : x12_3 < (x7_2.length : Int) := dq_
                     obtain ⟨ad144, e144, hx144_0⟩ := Kd.at_int (Kd.R_reads' HO_7.out).2.2 x12_3 p144 q144
                     obtain rfl : ad142 = ad144 := (by injection e144)
                     replace p144 := eq_true p144
                     replace q144 := eq_true q144
                     go_wp2_with (first | ((with_reducible refine gate_builtin (b := .append) (xs := #[.tmp 103, .tmp 108]) rfl ?_); at_builtin; refine Kd.R_append (Kd.int .i64) (w0 := w) w.heap.size rfl (.tmp 103) (.tmp 108) 30 3 (.int .i64 0) 8 rfl Tryz.underlying30 info3 rfl (by decide) (by omega) u10 x10_3 (rd x7_2 x12_3) [.int .i64 (rd x7_2 x12_3)] (fun k_ => some k_ ≠ (.slice (some ad142) x7_2.length co17 : Value).ownBlock) (fun _ => False) rfl rfl ?aP (fun _ hk => hk.elim) ?aF ?aO ?aB ?aS ?aL ?_; (case aP => exact rfl); (case aB => exact bel_); (case aF => exact (fun k_ hk => Kd.fresh' (Kd.R_lt (vR_ HO_7.out)) k_ hk)); (case aO => exact (vR_ HO_10.out)); (case aS => exact (below_size bel_)); (case aL => have := LMc24.out; omega); intro v146 w25 ho hb hg hat; rw [← Ny145.out] at ho; replace HO_7 := Aside0.mk (Kd.R_after (ok := (fun _ => True)) (by refine vR_ ?_; exact Kd.R_mono HO_7.out (fun _ hk => ⟨trivial, hk⟩)) hg hat); replace HB := Aside0.mk (hb); have HO147 := Aside0.mk (ho); clear HO_10; clear ho hb hg hat))
                     repeat (go_quiet (first | ((with_reducible refine gate_builtin (b := .append) (xs := #[.tmp 103, .tmp 108]) rfl ?_); at_builtin; refine Kd.R_append (Kd.int .i64) (w0 := w) w.heap.size rfl (.tmp 103) (.tmp 108) 30 3 (.int .i64 0) 8 rfl Tryz.underlying30 info3 rfl (by decide) (by omega) u10 x10_3 (rd x7_2 x12_3) [.int .i64 (rd x7_2 x12_3)] (fun k_ => some k_ ≠ (.slice (some ad142) x7_2.length co17 : Value).ownBlock) (fun _ => False) rfl rfl ?aP (fun _ hk => hk.elim) ?aF ?aO ?aB ?aS ?aL ?_; (case aP => exact rfl); (case aB => exact bel_); (case aF => exact (fun k_ hk => Kd.fresh' (Kd.R_lt (vR_ HO_7.out)) k_ hk)); (case aO => exact (vR_ HO_10.out)); (case aS => exact (below_size bel_)); (case aL => have := LMc24.out; omega); intro v146 w25 ho hb hg hat; rw [← Ny145.out] at ho; replace HO_7 := Aside0.mk (Kd.R_after (ok := (fun _ => True)) (by refine vR_ ?_; exact Kd.R_mono HO_7.out (fun _ hk => ⟨trivial, hk⟩)) hg hat); replace HB := Aside0.mk (hb); have HO147 := Aside0.mk (ho); clear HO_10; clear ho hb hg hat)); try go_wp2_with (first | ((with_reducible refine gate_builtin (b := .append) (xs := #[.tmp 103, .tmp 108]) rfl ?_); at_builtin; refine Kd.R_append (Kd.int .i64) (w0 := w) w.heap.size rfl (.tmp 103) (.tmp 108) 30 3 (.int .i64 0) 8 rfl Tryz.underlying30 info3 rfl (by decide) (by omega) u10 x10_3 (rd x7_2 x12_3) [.int .i64 (rd x7_2 x12_3)] (fun k_ => some k_ ≠ (.slice (some ad142) x7_2.length co17 : Value).ownBlock) (fun _ => False) rfl rfl ?aP (fun _ hk => hk.elim) ?aF ?aO ?aB ?aS ?aL ?_; (case aP => exact rfl); (case aB => exact bel_); (case aF => exact (fun k_ hk => Kd.fresh' (Kd.R_lt (vR_ HO_7.out)) k_ hk)); (case aO => exact (vR_ HO_10.out)); (case aS => exact (below_size bel_)); (case aL => have := LMc24.out; omega); intro v146 w25 ho hb hg hat; rw [← Ny145.out] at ho; replace HO_7 := Aside0.mk (Kd.R_after (ok := (fun _ => True)) (by refine vR_ ?_; exact Kd.R_mono HO_7.out (fun _ hk => ⟨trivial, hk⟩)) hg hat); replace HB := Aside0.mk (hb); have HO147 := Aside0.mk (ho); clear HO_10; clear ho hb hg hat)))
                     go_roundg k3
                     case measure => have := HK1.out; have := HK2.out; have := HK3.out; omega
                     case rel => exact ⟨(y145), (true), (wrap64 (x12_3 + 1)), eq_, eq_, H', ⟨by have := HK1.out; have := HK2.out; have := HK3.out; omega⟩, ⟨by refine vR_ ?_; exact Kd.R_mono HO_7.out (fun _ hk => hk.2)⟩, ⟨by refine vR_ ?_; exact HO147.out⟩, ⟨bel_⟩⟩
                    ·
                     rw [if_neg c24] at H
                     exact absurd H (by simp)
                   ·
                    replace c23 := Bool.eq_false_iff.mpr c23
                    subst c23
                    have H1 : (if x10_3.length < 17592186044416 then ((some (x10_3 ++ [rd l0 x8_2] : List Int)).bind fun y149 => (if y149.length < 17592186044416 then (jigsawref02_Of.l2 k3 l0 x7_2 x8_2 (y149 ++ [rd x7_2 x12_3]) true (wrap64 (x12_3 + 1))) else (none))) else (none)) = some (r1, r2) := by rw [if_neg (show ¬ (false = true) by decide)] at H; exact H
                    clear H
                    have H := H1
                    clear H1
                    by_cases c26 : x10_3.length < 17592186044416
                    ·
                     rw [if_pos c26] at H
                     have LMc26 := Aside0.mk c26
                     clear c26
                     obtain ⟨y149, hy149⟩ : ∃ y_ : List Int, y_ = (x10_3 ++ [rd l0 x8_2]) := ⟨_, rfl⟩
                     replace H : (if y149.length < 17592186044416 then (jigsawref02_Of.l2 k3 l0 x7_2 x8_2 (y149 ++ [rd x7_2 x12_3]) true (wrap64 (x12_3 + 1))) else (none)) = some (r1, r2) := by first | (rw [hy149]; with_reducible exact H) | (have H2_ := (Option.bind_some _ _).symm.trans H; rw [hy149]; with_reducible exact H2_) | (have H2_ := (Option.bind_some _ _).symm.trans H; with_reducible exact H2_) | with_reducible exact H | (rw [hy149]; exact H) | exact H
                     have Ny149 := Aside0.mk hy149
                     clear hy149
                     by_cases c27 : y149.length < 17592186044416
                     ·
                      rw [if_pos c27] at H
                      have LMc27 := Aside0.mk c27
                      clear c27
                      obtain ⟨y153, hy153⟩ : ∃ y_ : List Int, y_ = (y149 ++ [rd x7_2 x12_3]) := ⟨_, rfl⟩
                      replace H : (jigsawref02_Of.l2 k3 l0 x7_2 x8_2 y153 true (wrap64 (x12_3 + 1))) = some (r1, r2) := by first | (rw [hy153]; with_reducible exact H) | (have H2_ := (Option.bind_some _ _).symm.trans H; rw [hy153]; with_reducible exact H2_) | (have H2_ := (Option.bind_some _ _).symm.trans H; with_reducible exact H2_) | with_reducible exact H | (rw [hy153]; exact H) | exact H
                      have Ny153 := Aside0.mk hy153
                      clear hy153
                      have H' := Aside0.mk H
                      clear H
                      have p142 : 0 ≤ (x12_3 : Int) := dq_
                      have q142 : x12_3 < (x7_2.length : Int) := dq_
                      obtain ⟨ad142, e142, hx142_0⟩ := Kd.at_int (Kd.R_reads' HO_7.out).2.2 x12_3 p142 q142
                      cases e142
                      replace p142 := eq_true p142
                      replace q142 := eq_true q142
                      have p143 : 0 ≤ (x8_2 : Int) := dq_
                      have q143 : x8_2 < (l0.length : Int) := dq_
                      obtain ⟨ad143, e143, hx143_0⟩ := Kd.at_int HR0.out x8_2 p143 q143
                      obtain rfl : ad130 = ad143 := (by injection e143)
                      replace hx143_0 := (HB.out.cell (World.block_lt_of_cell? w _ hx143_0)).trans hx143_0
                      replace p143 := eq_true p143
                      replace q143 := eq_true q143
                      have p148 : 0 ≤ (x8_2 : Int) := dq_
                      have q148 : x8_2 < (l0.length : Int) := dq_
                      obtain ⟨ad148, e148, hx148_0⟩ := Kd.at_int HR0.out x8_2 p148 q148
                      obtain rfl : ad130 = ad148 := (by injection e148)
                      replace hx148_0 := (HB.out.cell (World.block_lt_of_cell? w _ hx148_0)).trans hx148_0
                      replace p148 := eq_true p148
                      replace q148 := eq_true q148
                      go_wp2_with (first | ((with_reducible refine gate_builtin (b := .append) (xs := #[.tmp 96, .tmp 101]) rfl ?_); at_builtin; refine Kd.R_append (Kd.int .i64) (w0 := w) w.heap.size rfl (.tmp 96) (.tmp 101) 30 3 (.int .i64 0) 8 rfl Tryz.underlying30 info3 rfl (by decide) (by omega) u10 x10_3 (rd l0 x8_2) [.int .i64 (rd l0 x8_2)] (fun k_ => some k_ ≠ (.slice (some ad142) x7_2.length co17 : Value).ownBlock) (fun _ => False) rfl rfl ?aP (fun _ hk => hk.elim) ?aF ?aO ?aB ?aS ?aL ?_; (case aP => exact rfl); (case aB => exact bel_); (case aF => exact (fun k_ hk => Kd.fresh' (Kd.R_lt (vR_ HO_7.out)) k_ hk)); (case aO => exact (vR_ HO_10.out)); (case aS => exact (below_size bel_)); (case aL => have := LMc26.out; omega); intro v150 w28 ho hb hg hat; rw [← Ny149.out] at ho; replace HO_7 := Aside0.mk (Kd.R_after (ok := (fun _ => True)) (by refine vR_ ?_; exact Kd.R_mono HO_7.out (fun _ hk => ⟨trivial, hk⟩)) hg hat); replace HB := Aside0.mk (hb); have HO151 := Aside0.mk (ho); clear HO_10; clear ho hb hg hat; have p152 : 0 ≤ (x12_3 : Int) := dq_; have q152 : x12_3 < (x7_2.length : Int) := dq_; obtain ⟨ad152, e152, hx152_0⟩ := Kd.at_int (Kd.R_reads' HO_7.out).2.2 x12_3 p152 q152; obtain rfl : ad142 = ad152 := (by injection e152); replace p152 := eq_true p152; replace q152 := eq_true q152) | ((with_reducible refine gate_builtin (b := .append) (xs := #[.tmp 103, .tmp 108]) rfl ?_); at_builtin; refine Kd.R_append (Kd.int .i64) (w0 := w) w.heap.size rfl (.tmp 103) (.tmp 108) 30 3 (.int .i64 0) 8 rfl Tryz.underlying30 info3 rfl (by decide) (by omega) v150 y149 (rd x7_2 x12_3) [.int .i64 (rd x7_2 x12_3)] (fun k_ => some k_ ≠ (.slice (some ad142) x7_2.length co17 : Value).ownBlock) (fun _ => False) rfl rfl ?aP (fun _ hk => hk.elim) ?aF ?aO ?aB ?aS ?aL ?_; (case aP => exact rfl); (case aB => exact bel_); (case aF => exact (fun k_ hk => Kd.fresh' (Kd.R_lt (vR_ HO_7.out)) k_ hk)); (case aO => exact (vR_ HO151.out)); (case aS => exact (below_size bel_)); (case aL => have := LMc27.out; omega); intro v154 w29 ho hb hg hat; rw [← Ny153.out] at ho; replace HO_7 := Aside0.mk (Kd.R_after (ok := (fun _ => True)) (vR_ HO_7.out) hg hat); replace HB := Aside0.mk (hb); have HO155 := Aside0.mk (ho); clear HO151; clear ho hb hg hat))
                      repeat (go_quiet (first | ((with_reducible refine gate_builtin (b := .append) (xs := #[.tmp 96, .tmp 101]) rfl ?_); at_builtin; refine Kd.R_append (Kd.int .i64) (w0 := w) w.heap.size rfl (.tmp 96) (.tmp 101) 30 3 (.int .i64 0) 8 rfl Tryz.underlying30 info3 rfl (by decide) (by omega) u10 x10_3 (rd l0 x8_2) [.int .i64 (rd l0 x8_2)] (fun k_ => some k_ ≠ (.slice (some ad142) x7_2.length co17 : Value).ownBlock) (fun _ => False) rfl rfl ?aP (fun _ hk => hk.elim) ?aF ?aO ?aB ?aS ?aL ?_; (case aP => exact rfl); (case aB => exact bel_); (case aF => exact (fun k_ hk => Kd.fresh' (Kd.R_lt (vR_ HO_7.out)) k_ hk)); (case aO => exact (vR_ HO_10.out)); (case aS => exact (below_size bel_)); (case aL => have := LMc26.out; omega); intro v150 w28 ho hb hg hat; rw [← Ny149.out] at ho; replace HO_7 := Aside0.mk (Kd.R_after (ok := (fun _ => True)) (by refine vR_ ?_; exact Kd.R_mono HO_7.out (fun _ hk => ⟨trivial, hk⟩)) hg hat); replace HB := Aside0.mk (hb); have HO151 := Aside0.mk (ho); clear HO_10; clear ho hb hg hat; have p152 : 0 ≤ (x12_3 : Int) := dq_; have q152 : x12_3 < (x7_2.length : Int) := dq_; obtain ⟨ad152, e152, hx152_0⟩ := Kd.at_int (Kd.R_reads' HO_7.out).2.2 x12_3 p152 q152; obtain rfl : ad142 = ad152 := (by injection e152); replace p152 := eq_true p152; replace q152 := eq_true q152) | ((with_reducible refine gate_builtin (b := .append) (xs := #[.tmp 103, .tmp 108]) rfl ?_); at_builtin; refine Kd.R_append (Kd.int .i64) (w0 := w) w.heap.size rfl (.tmp 103) (.tmp 108) 30 3 (.int .i64 0) 8 rfl Tryz.underlying30 info3 rfl (by decide) (by omega) v150 y149 (rd x7_2 x12_3) [.int .i64 (rd x7_2 x12_3)] (fun k_ => some k_ ≠ (.slice (some ad142) x7_2.length co17 : Value).ownBlock) (fun _ => False) rfl rfl ?aP (fun _ hk => hk.elim) ?aF ?aO ?aB ?aS ?aL ?_; (case aP => exact rfl); (case aB => exact bel_); (case aF => exact (fun k_ hk => Kd.fresh' (Kd.R_lt (vR_ HO_7.out)) k_ hk)); (case aO => exact (vR_ HO151.out)); (case aS => exact (below_size bel_)); (case aL => have := LMc27.out; omega); intro v154 w29 ho hb hg hat; rw [← Ny153.out] at ho; replace HO_7 := Aside0.mk (Kd.R_after (ok := (fun _ => True)) (vR_ HO_7.out) hg hat); replace HB := Aside0.mk (hb); have HO155 := Aside0.mk (ho); clear HO151; clear ho hb hg hat)); try go_wp2_with (first | ((with_reducible refine gate_builtin (b := .append) (xs := #[.tmp 96, .tmp 101]) rfl ?_); at_builtin; refine Kd.R_append (Kd.int .i64) (w0 := w) w.heap.size rfl (.tmp 96) (.tmp 101) 30 3 (.int .i64 0) 8 rfl Tryz.underlying30 info3 rfl (by decide) (by omega) u10 x10_3 (rd l0 x8_2) [.int .i64 (rd l0 x8_2)] (fun k_ => some k_ ≠ (.slice (some ad142) x7_2.length co17 : Value).ownBlock) (fun _ => False) rfl rfl ?aP (fun _ hk => hk.elim) ?aF ?aO ?aB ?aS ?aL ?_; (case aP => exact rfl); (case aB => exact bel_); (case aF => exact (fun k_ hk => Kd.fresh' (Kd.R_lt (vR_ HO_7.out)) k_ hk)); (case aO => exact (vR_ HO_10.out)); (case aS => exact (below_size bel_)); (case aL => have := LMc26.out; omega); intro v150 w28 ho hb hg hat; rw [← Ny149.out] at ho; replace HO_7 := Aside0.mk (Kd.R_after (ok := (fun _ => True)) (by refine vR_ ?_; exact Kd.R_mono HO_7.out (fun _ hk => ⟨trivial, hk⟩)) hg hat); replace HB := Aside0.mk (hb); have HO151 := Aside0.mk (ho); clear HO_10; clear ho hb hg hat; have p152 : 0 ≤ (x12_3 : Int) := dq_; have q152 : x12_3 < (x7_2.length : Int) := dq_; obtain ⟨ad152, e152, hx152_0⟩ := Kd.at_int (Kd.R_reads' HO_7.out).2.2 x12_3 p152 q152; obtain rfl : ad142 = ad152 := (by injection e152); replace p152 := eq_true p152; replace q152 := eq_true q152) | ((with_reducible refine gate_builtin (b := .append) (xs := #[.tmp 103, .tmp 108]) rfl ?_); at_builtin; refine Kd.R_append (Kd.int .i64) (w0 := w) w.heap.size rfl (.tmp 103) (.tmp 108) 30 3 (.int .i64 0) 8 rfl Tryz.underlying30 info3 rfl (by decide) (by omega) v150 y149 (rd x7_2 x12_3) [.int .i64 (rd x7_2 x12_3)] (fun k_ => some k_ ≠ (.slice (some ad142) x7_2.length co17 : Value).ownBlock) (fun _ => False) rfl rfl ?aP (fun _ hk => hk.elim) ?aF ?aO ?aB ?aS ?aL ?_; (case aP => exact rfl); (case aB => exact bel_); (case aF => exact (fun k_ hk => Kd.fresh' (Kd.R_lt (vR_ HO_7.out)) k_ hk)); (case aO => exact (vR_ HO151.out)); (case aS => exact (below_size bel_)); (case aL => have := LMc27.out; omega); intro v154 w29 ho hb hg hat; rw [← Ny153.out] at ho; replace HO_7 := Aside0.mk (Kd.R_after (ok := (fun _ => True)) (vR_ HO_7.out) hg hat); replace HB := Aside0.mk (hb); have HO155 := Aside0.mk (ho); clear HO151; clear ho hb hg hat)))
                      go_roundg k3
                      case measure => have := HK1.out; have := HK2.out; have := HK3.out; omega
                      case rel => exact ⟨(y153), (true), (wrap64 (x12_3 + 1)), eq_, eq_, H', ⟨by have := HK1.out; have := HK2.out; have := HK3.out; omega⟩, ⟨by refine vR_ ?_; exact Kd.R_mono HO_7.out (fun _ hk => hk.2)⟩, ⟨by refine vR_ ?_; exact HO155.out⟩, ⟨bel_⟩⟩
                     ·
                      rw [if_neg c27] at H
                      exact absurd H (by simp)
                    ·
                     rw [if_neg c26] at H
                     exact absurd H (by simp)
                  ·
                   rw [if_neg c22] at H
                   have c22b0 : decide ((rd l0 x8_2) < (rd x7_2 x12_3)) = false := decide_eq_false c22
                   clear c22
                   by_cases c30 : x10_3.length < 17592186044416
                   ·
                    rw [if_pos c30] at H
                    have LMc30 := Aside0.mk c30
                    clear c30
                    obtain ⟨y157, hy157⟩ : ∃ y_ : List Int, y_ = (x10_3 ++ [rd x7_2 x12_3]) := ⟨_, rfl⟩
                    replace H : (jigsawref02_Of.l2 k3 l0 x7_2 x8_2 y157 x11_3 (wrap64 (x12_3 + 1))) = some (r1, r2) := by first | (rw [hy157]; with_reducible exact H) | (have H2_ := (Option.bind_some _ _).symm.trans H; rw [hy157]; with_reducible exact H2_) | (have H2_ := (Option.bind_some _ _).symm.trans H; with_reducible exact H2_) | with_reducible exact H | (rw [hy157]; exact H) | exact H
                    have Ny157 := Aside0.mk hy157
                    clear hy157
                    have H' := Aside0.mk H
                    clear H
                    have p142 : 0 ≤ (x12_3 : Int) := dq_
                    have q142 : x12_3 < (x7_2.length : Int) := dq_
                    obtain ⟨ad142, e142, hx142_0⟩ := Kd.at_int (Kd.R_reads' HO_7.out).2.2 x12_3 p142 q142
                    cases e142
                    replace p142 := eq_true p142
                    replace q142 := eq_true q142
                    have p143 : 0 ≤ (x8_2 : Int) := dq_
                    have q143 : x8_2 < (l0.length : Int) := dq_
                    obtain ⟨ad143, e143, hx143_0⟩ := Kd.at_int HR0.out x8_2 p143 q143
                    obtain rfl : ad130 = ad143 := (by injection e143)
                    replace hx143_0 := (HB.out.cell (World.block_lt_of_cell? w _ hx143_0)).trans hx143_0
                    replace p143 := eq_true p143
                    replace q143 := eq_true q143
                    have p156 : 0 ≤ (x12_3 : Int) := dq_
                    have q156 : x12_3 < (x7_2.length : Int) := dq_
                    obtain ⟨ad156, e156, hx156_0⟩ := Kd.at_int (Kd.R_reads' HO_7.out).2.2 x12_3 p156 q156
                    obtain rfl : ad142 = ad156 := (by injection e156)
                    replace p156 := eq_true p156
                    replace q156 := eq_true q156
                    go_wp2_with (first | ((with_reducible refine gate_builtin (b := .append) (xs := #[.tmp 103, .tmp 108]) rfl ?_); at_builtin; refine Kd.R_append (Kd.int .i64) (w0 := w) w.heap.size rfl (.tmp 103) (.tmp 108) 30 3 (.int .i64 0) 8 rfl Tryz.underlying30 info3 rfl (by decide) (by omega) u10 x10_3 (rd x7_2 x12_3) [.int .i64 (rd x7_2 x12_3)] (fun k_ => some k_ ≠ (.slice (some ad142) x7_2.length co17 : Value).ownBlock) (fun _ => False) rfl rfl ?aP (fun _ hk => hk.elim) ?aF ?aO ?aB ?aS ?aL ?_; (case aP => exact rfl); (case aB => exact bel_); (case aF => exact (fun k_ hk => Kd.fresh' (Kd.R_lt (vR_ HO_7.out)) k_ hk)); (case aO => exact (vR_ HO_10.out)); (case aS => exact (below_size bel_)); (case aL => have := LMc30.out; omega); intro v158 w31 ho hb hg hat; rw [← Ny157.out] at ho; replace HO_7 := Aside0.mk (Kd.R_after (ok := (fun _ => True)) (by refine vR_ ?_; exact Kd.R_mono HO_7.out (fun _ hk => ⟨trivial, hk⟩)) hg hat); replace HB := Aside0.mk (hb); have HO159 := Aside0.mk (ho); clear HO_10; clear ho hb hg hat))
                    repeat (go_quiet (first | ((with_reducible refine gate_builtin (b := .append) (xs := #[.tmp 103, .tmp 108]) rfl ?_); at_builtin; refine Kd.R_append (Kd.int .i64) (w0 := w) w.heap.size rfl (.tmp 103) (.tmp 108) 30 3 (.int .i64 0) 8 rfl Tryz.underlying30 info3 rfl (by decide) (by omega) u10 x10_3 (rd x7_2 x12_3) [.int .i64 (rd x7_2 x12_3)] (fun k_ => some k_ ≠ (.slice (some ad142) x7_2.length co17 : Value).ownBlock) (fun _ => False) rfl rfl ?aP (fun _ hk => hk.elim) ?aF ?aO ?aB ?aS ?aL ?_; (case aP => exact rfl); (case aB => exact bel_); (case aF => exact (fun k_ hk => Kd.fresh' (Kd.R_lt (vR_ HO_7.out)) k_ hk)); (case aO => exact (vR_ HO_10.out)); (case aS => exact (below_size bel_)); (case aL => have := LMc30.out; omega); intro v158 w31 ho hb hg hat; rw [← Ny157.out] at ho; replace HO_7 := Aside0.mk (Kd.R_after (ok := (fun _ => True)) (by refine vR_ ?_; exact Kd.R_mono HO_7.out (fun _ hk => ⟨trivial, hk⟩)) hg hat); replace HB := Aside0.mk (hb); have HO159 := Aside0.mk (ho); clear HO_10; clear ho hb hg hat)); try go_wp2_with (first | ((with_reducible refine gate_builtin (b := .append) (xs := #[.tmp 103, .tmp 108]) rfl ?_); at_builtin; refine Kd.R_append (Kd.int .i64) (w0 := w) w.heap.size rfl (.tmp 103) (.tmp 108) 30 3 (.int .i64 0) 8 rfl Tryz.underlying30 info3 rfl (by decide) (by omega) u10 x10_3 (rd x7_2 x12_3) [.int .i64 (rd x7_2 x12_3)] (fun k_ => some k_ ≠ (.slice (some ad142) x7_2.length co17 : Value).ownBlock) (fun _ => False) rfl rfl ?aP (fun _ hk => hk.elim) ?aF ?aO ?aB ?aS ?aL ?_; (case aP => exact rfl); (case aB => exact bel_); (case aF => exact (fun k_ hk => Kd.fresh' (Kd.R_lt (vR_ HO_7.out)) k_ hk)); (case aO => exact (vR_ HO_10.out)); (case aS => exact (below_size bel_)); (case aL => have := LMc30.out; omega); intro v158 w31 ho hb hg hat; rw [← Ny157.out] at ho; replace HO_7 := Aside0.mk (Kd.R_after (ok := (fun _ => True)) (by refine vR_ ?_; exact Kd.R_mono HO_7.out (fun _ hk => ⟨trivial, hk⟩)) hg hat); replace HB := Aside0.mk (hb); have HO159 := Aside0.mk (ho); clear HO_10; clear ho hb hg hat)))
                    go_roundg k3
                    case measure => have := HK1.out; have := HK2.out; have := HK3.out; omega
                    case rel => exact ⟨(y157), (x11_3), (wrap64 (x12_3 + 1)), eq_, eq_, H', ⟨by have := HK1.out; have := HK2.out; have := HK3.out; omega⟩, ⟨by refine vR_ ?_; exact Kd.R_mono HO_7.out (fun _ hk => hk.2)⟩, ⟨by refine vR_ ?_; exact HO159.out⟩, ⟨bel_⟩⟩
                   ·
                    rw [if_neg c30] at H
                    exact absurd H (by simp)
                 ·
                  rw [if_neg c21] at H
                  exact absurd H (by simp)
                ·
                 rw [if_neg c20] at H
                 exact absurd H (by simp)
               ·
                rw [if_neg c19] at H
                exact absurd H (by simp)
              ·
               rw [if_neg c18] at H
               have c18b0 : decide (x12_3 < (x7_2.length : Int)) = false := decide_eq_false c18
               clear c18
               by_cases c32 : x11_3 = true
               ·
                subst c32
                have H1 : (jigsawref02_Of.l1 k3 l0 x10_3 (wrap64 (x8_2 + 1))) = some (r1, r2) := by rw [if_pos rfl] at H; exact H
                clear H
                have H := H1
                clear H1
                have H' := Aside0.mk H
                clear H
                go_wp2
                repeat (go_quiet (fail); try go_wp2)
                go_roundg k3
                case measure => have := HK1.out; have := HK2.out; have := HK3.out; omega
                case rel => exact ⟨(x10_3), (wrap64 (x8_2 + 1)), eq_, H', ⟨by have := HK1.out; have := HK2.out; have := HK3.out; omega⟩, ⟨by refine vR_ ?_; exact Kd.R_mono HO_10.out (fun _ hk => trivial)⟩, ⟨bel_⟩⟩
               ·
                replace c32 := Bool.eq_false_iff.mpr c32
                subst c32
                have H1 : (if 0 ≤ x8_2 then (if x8_2 < (l0.length : Int) then (if x10_3.length < 17592186044416 then (jigsawref02_Of.l1 k3 l0 (x10_3 ++ [rd l0 x8_2]) (wrap64 (x8_2 + 1))) else (none)) else (none)) else (none)) = some (r1, r2) := by rw [if_neg (show ¬ (false = true) by decide)] at H; exact H
                clear H
                have H := H1
                clear H1
                by_cases c33 : 0 ≤ x8_2
                ·
                 rw [if_pos c33] at H
                 have c33b0 : decide (0 ≤ x8_2) = true := decide_eq_true c33
                 clear c33
                 by_cases c34 : x8_2 < (l0.length : Int)
                 ·
                  rw [if_pos c34] at H
                  have c34b0 : decide (x8_2 < (l0.length : Int)) = true := decide_eq_true c34
                  clear c34
                  by_cases c35 : x10_3.length < 17592186044416
                  ·
                   rw [if_pos c35] at H
                   have LMc35 := Aside0.mk c35
                   clear c35
                   obtain ⟨y161, hy161⟩ : ∃ y_ : List Int, y_ = (x10_3 ++ [rd l0 x8_2]) := ⟨_, rfl⟩
                   replace H : (jigsawref02_Of.l1 k3 l0 y161 (wrap64 (x8_2 + 1))) = some (r1, r2) := by first | (rw [hy161]; with_reducible exact H) | (have H2_ := (Option.bind_some _ _).symm.trans H; rw [hy161]; with_reducible exact H2_) | (have H2_ := (Option.bind_some _ _).symm.trans H; with_reducible exact H2_) | with_reducible exact H | (rw [hy161]; exact H) | exact H
                   have Ny161 := Aside0.mk hy161
                   clear hy161
                   have H' := Aside0.mk H
                   clear H
                   have p160 : 0 ≤ (x8_2 : Int) := dq_
                   have q160 : x8_2 < (l0.length : Int) := dq_
                   obtain ⟨ad160, e160, hx160_0⟩ := Kd.at_int HR0.out x8_2 p160 q160
                   obtain rfl : ad130 = ad160 := (by injection e160)
                   replace hx160_0 := (HB.out.cell (World.block_lt_of_cell? w _ hx160_0)).trans hx160_0
                   replace p160 := eq_true p160
                   replace q160 := eq_true q160
                   go_wp2_with (first | ((with_reducible refine gate_builtin (b := .append) (xs := #[.tmp 112, .tmp 117]) rfl ?_); at_builtin; refine Kd.R_append (Kd.int .i64) (w0 := w) w.heap.size rfl (.tmp 112) (.tmp 117) 30 3 (.int .i64 0) 8 rfl Tryz.underlying30 info3 rfl (by decide) (by omega) u10 x10_3 (rd l0 x8_2) [.int .i64 (rd l0 x8_2)] (fun k_ => some k_ ≠ (.slice Ao17 x7_2.length co17 : Value).ownBlock) (fun _ => False) rfl rfl ?aP (fun _ hk => hk.elim) ?aF ?aO ?aB ?aS ?aL ?_; (case aP => exact rfl); (case aB => exact bel_); (case aF => exact (fun k_ hk => Kd.fresh' (Kd.R_lt (vR_ HO_7.out)) k_ hk)); (case aO => exact (vR_ HO_10.out)); (case aS => exact (below_size bel_)); (case aL => have := LMc35.out; omega); intro v162 w36 ho hb hg hat; rw [← Ny161.out] at ho; replace HO_7 := Aside0.mk (Kd.R_after (ok := (fun _ => True)) (by refine vR_ ?_; exact Kd.R_mono HO_7.out (fun _ hk => ⟨trivial, hk⟩)) hg hat); replace HB := Aside0.mk (hb); have HO163 := Aside0.mk (ho); clear HO_10; clear ho hb hg hat))
                   repeat (go_quiet (first | ((with_reducible refine gate_builtin (b := .append) (xs := #[.tmp 112, .tmp 117]) rfl ?_); at_builtin; refine Kd.R_append (Kd.int .i64) (w0 := w) w.heap.size rfl (.tmp 112) (.tmp 117) 30 3 (.int .i64 0) 8 rfl Tryz.underlying30 info3 rfl (by decide) (by omega) u10 x10_3 (rd l0 x8_2) [.int .i64 (rd l0 x8_2)] (fun k_ => some k_ ≠ (.slice Ao17 x7_2.length co17 : Value).ownBlock) (fun _ => False) rfl rfl ?aP (fun _ hk => hk.elim) ?aF ?aO ?aB ?aS ?aL ?_; (case aP => exact rfl); (case aB => exact bel_); (case aF => exact (fun k_ hk => Kd.fresh' (Kd.R_lt (vR_ HO_7.out)) k_ hk)); (case aO => exact (vR_ HO_10.out)); (case aS => exact (below_size bel_)); (case aL => have := LMc35.out; omega); intro v162 w36 ho hb hg hat; rw [← Ny161.out] at ho; replace HO_7 := Aside0.mk (Kd.R_after (ok := (fun _ => True)) (by refine vR_ ?_; exact Kd.R_mono HO_7.out (fun _ hk => ⟨trivial, hk⟩)) hg hat); replace HB := Aside0.mk (hb); have HO163 := Aside0.mk (ho); clear HO_10; clear ho hb hg hat)); try go_wp2_with (first | ((with_reducible refine gate_builtin (b := .append) (xs := #[.tmp 112, .tmp 117]) rfl ?_); at_builtin; refine Kd.R_append (Kd.int .i64) (w0 := w) w.heap.size rfl (.tmp 112) (.tmp 117) 30 3 (.int .i64 0) 8 rfl Tryz.underlying30 info3 rfl (by decide) (by omega) u10 x10_3 (rd l0 x8_2) [.int .i64 (rd l0 x8_2)] (fun k_ => some k_ ≠ (.slice Ao17 x7_2.length co17 : Value).ownBlock) (fun _ => False) rfl rfl ?aP (fun _ hk => hk.elim) ?aF ?aO ?aB ?aS ?aL ?_; (case aP => exact rfl); (case aB => exact bel_); (case aF => exact (fun k_ hk => Kd.fresh' (Kd.R_lt (vR_ HO_7.out)) k_ hk)); (case aO => exact (vR_ HO_10.out)); (case aS => exact (below_size bel_)); (case aL => have := LMc35.out; omega); intro v162 w36 ho hb hg hat; rw [← Ny161.out] at ho; replace HB := Aside0.mk (hb); have HO163 := Aside0.mk (ho); clear HO_10; clear ho hb hg hat)))
                   go_roundg k3
                   case measure => have := HK1.out; have := HK2.out; have := HK3.out; omega
                   case rel => exact ⟨(y161), (wrap64 (x8_2 + 1)), eq_, H', ⟨by have := HK1.out; have := HK2.out; have := HK3.out; omega⟩, ⟨by refine vR_ ?_; exact Kd.R_mono HO163.out (fun _ hk => trivial)⟩, ⟨bel_⟩⟩
                  ·
                   rw [if_neg c35] at H
                   exact absurd H (by simp)
                 ·
                  rw [if_neg c34] at H
                  exact absurd H (by simp)
                ·
                 rw [if_neg c33] at H
                 exact absurd H (by simp)
          ·
           rw [if_neg c13] at H
           exact absurd H (by simp)
         ·
          rw [if_neg c12] at H
          have c12b0 : decide (x8_2 < (l0.length : Int)) = false := decide_eq_false c12
          clear c12
          simp only [Option.some.injEq, Prod.mk.injEq] at H
          obtain ⟨rfl, rfl⟩ := H
          go_wp2
          repeat (go_quiet (fail); try go_wp2)
          go_ret2
          exact ⟨_, by first | rfl | (simp [errW_none, errW_some] <;> rfl) | (simp [*, errW_none, errW_some] <;> rfl), by refine vR_ ?_; exact HO_7.out, bel_⟩
  ·
   rw [if_neg c3] at H
   exact absurd H (by simp)

end Go.Proofs.YtmhchlbbfpmdgaaGreatDoor.XClauseKeeps
