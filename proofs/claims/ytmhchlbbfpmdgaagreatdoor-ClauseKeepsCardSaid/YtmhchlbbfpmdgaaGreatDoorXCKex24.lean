-- by xprint.py, a program of this session, over the kit's print
import Derived.Test.YtmhchlbbfpmdgaaGreatDoorXCKex0
import Derived.Test.YtmhchlbbfpmdgaaGreatDoorSq
namespace Go.Proofs.YtmhchlbbfpmdgaaGreatDoor.XClauseKeeps
open Go.RowKit Go.Proofs.YtmhchlbbfpmdgaaGreatDoor.Sq Go.Proofs.YtmhchlbbfpmdgaaGreatDoorW.PrintWords Go.Proofs.YtmhchlbbfpmdgaaGreatDoorW.PrintLast Go.Proofs.YtmhchlbbfpmdgaaGreatDoorW.PrintMore
attribute [local go_sem] max2_int min2_int max_two min_two max_three min_three max_four min_four   -- for this text's walks alone
set_option linter.unusedVariables false
set_option linter.unusedSimpArgs false

/-! ### jigsawref09_logic: function 42 -/
mutual
def jigsawref09_logic.l0 : Nat → List Int → Int → Int → List Int → List Int → List Int → List Int → List Int → Int → List (List Int) → Option (Bool)
 | 0, _, _, _, _, _, _, _, _, _, _ => none
 | k + 1, x1, x5, x505000, x505001, x505002, x505003, x505004, x505005, x505006, x505007 => if x5 < (x505001.length : Int) then (if 0 ≤ x5 then (if 0 ≤ (rd x505001 x5) then (if (rd x505001 x5) < (x1.length : Int) then (if (rd x1 (rd x505001 x5)) = 1 then (some true) else (jigsawref09_logic.l0 k x1 (wrap64 (x5 + 1)) x505000 x505001 x505002 x505003 x505004 x505005 x505006 x505007)) else (none)) else (none)) else (none)) else (jigsawref09_logic.l1 k x1 0 x505000 x505001 x505002 x505003 x505004 x505005 x505006 x505007)
def jigsawref09_logic.l1 : Nat → List Int → Int → Int → List Int → List Int → List Int → List Int → List Int → Int → List (List Int) → Option (Bool)
 | 0, _, _, _, _, _, _, _, _, _, _ => none
 | k + 1, x1, x6, x505000, x505001, x505002, x505003, x505004, x505005, x505006, x505007 => if x6 < (x505002.length : Int) then (if 0 ≤ x6 then (if 0 ≤ (rd x505002 x6) then (if (rd x505002 x6) < (x1.length : Int) then (if (rd x1 (rd x505002 x6)) = 0 then (some true) else (jigsawref09_logic.l1 k x1 (wrap64 (x6 + 1)) x505000 x505001 x505002 x505003 x505004 x505005 x505006 x505007)) else (none)) else (none)) else (none)) else (some false)
end
def jigsawref09_logic.f (k : Nat) (a0_0 : Int) (l0_1 : List Int) (l0_2 : List Int) (l0_3 : List Int) (l0_4 : List Int) (l0_5 : List Int) (a0_6 : Int) (l0_7 : List (List Int)) (l1 : List Int) : Option (Bool) := if a0_0 = 12 then (jigsawref09_logic.l0 k l1 0 a0_0 l0_1 l0_2 l0_3 l0_4 l0_5 a0_6 l0_7) else (none)
theorem jigsawref09_logic.mono_l : ∀ k, (∀ y0 y1 y2 y3 y4 y5 y6 y7 y8 y9, LeO (jigsawref09_logic.l0 k y0 y1 y2 y3 y4 y5 y6 y7 y8 y9) (jigsawref09_logic.l0 (k + 1) y0 y1 y2 y3 y4 y5 y6 y7 y8 y9)) ∧ (∀ y0 y1 y2 y3 y4 y5 y6 y7 y8 y9, LeO (jigsawref09_logic.l1 k y0 y1 y2 y3 y4 y5 y6 y7 y8 y9) (jigsawref09_logic.l1 (k + 1) y0 y1 y2 y3 y4 y5 y6 y7 y8 y9))
 | 0 => ⟨fun _ _ _ _ _ _ _ _ _ _ r h => by simp [jigsawref09_logic.l0] at h, fun _ _ _ _ _ _ _ _ _ _ r h => by simp [jigsawref09_logic.l1] at h⟩
 | k + 1 => by
  obtain ⟨ih0, ih1⟩ := jigsawref09_logic.mono_l k
  refine ⟨?_, ?_⟩
  ·
   intro y0 y1 y2 y3 y4 y5 y6 y7 y8 y9
   unfold jigsawref09_logic.l0
   exact leo_
  ·
   intro y0 y1 y2 y3 y4 y5 y6 y7 y8 y9
   unfold jigsawref09_logic.l1
   exact leo_
theorem jigsawref09_logic.mono : ∀ a0 a1 a2 a3 a4 a5 a6 a7 a8 k, LeO (jigsawref09_logic.f k a0 a1 a2 a3 a4 a5 a6 a7 a8) (jigsawref09_logic.f (k + 1) a0 a1 a2 a3 a4 a5 a6 a7 a8) := by
 intro a0 a1 a2 a3 a4 a5 a6 a7 a8 k
 obtain ⟨ih0, ih1⟩ := jigsawref09_logic.mono_l k
 unfold jigsawref09_logic.f
 exact leo_
set_option maxHeartbeats 8000000 in
set_option maxRecDepth 100000 in
theorem jigsawref09_logic.calls (k : Nat) (a0_0 : Int) (A0_1 : Option Addr) (c0_1 : Nat) (l0_1 : List Int) (A0_2 : Option Addr) (c0_2 : Nat) (l0_2 : List Int) (A0_3 : Option Addr) (c0_3 : Nat) (l0_3 : List Int) (A0_4 : Option Addr) (c0_4 : Nat) (l0_4 : List Int) (A0_5 : Option Addr) (c0_5 : Nat) (l0_5 : List Int) (a0_6 : Int) (A0_7 : Option Addr) (c0_7 : Nat) (l0_7 : List (List Int)) (A1 : Option Addr) (c1 : Nat) (l1 : List Int) (r : Bool) (w : World) (hr0_1 : Kd.C (Kd.int .i64) w A0_1 l0_1.length l0_1) (hc0_1 : l0_1.length ≤ c0_1) (hr0_2 : Kd.C (Kd.int .i64) w A0_2 l0_2.length l0_2) (hc0_2 : l0_2.length ≤ c0_2) (hr0_3 : Kd.C (Kd.int .i64) w A0_3 l0_3.length l0_3) (hc0_3 : l0_3.length ≤ c0_3) (hr0_4 : Kd.C (Kd.int .i64) w A0_4 l0_4.length l0_4) (hc0_4 : l0_4.length ≤ c0_4) (hr0_5 : Kd.C (Kd.int .i64) w A0_5 l0_5.length l0_5) (hc0_5 : l0_5.length ≤ c0_5) (hr0_7 : Kd.C (Kd.slice 3 (Kd.int .i64)) w A0_7 l0_7.length l0_7) (hc0_7 : l0_7.length ≤ c0_7) (hr1 : Kd.C (Kd.int .i64) w A1 l1.length l1) (hc1 : l1.length ≤ c1) (h : jigsawref09_logic.f k a0_0 l0_1 l0_2 l0_3 l0_4 l0_5 a0_6 l0_7 l1 = some r) :
  Calls Tryz.prog 42 #[.agg #[.int .i64 a0_0, .slice A0_1 l0_1.length c0_1, .slice A0_2 l0_2.length c0_2, .slice A0_3 l0_3.length c0_3, .slice A0_4 l0_4.length c0_4, .slice A0_5 l0_5.length c0_5, .int .i64 a0_6, .slice A0_7 l0_7.length c0_7], .slice A1 l1.length c1] w fun e w' => e = .returned (.bool r) ∧ Below w.heap.size w w' := by
 have hu32 := Tryz.underlying32
 have HR0_1 := Aside0.mk hr0_1
 have HC0_1 := Aside0.mk hc0_1
 clear hr0_1 hc0_1
 have HR0_2 := Aside0.mk hr0_2
 have HC0_2 := Aside0.mk hc0_2
 clear hr0_2 hc0_2
 have HC0_3 := Aside0.mk hc0_3
 clear hr0_3 hc0_3
 have HC0_4 := Aside0.mk hc0_4
 clear hr0_4 hc0_4
 have HC0_5 := Aside0.mk hc0_5
 clear hr0_5 hc0_5
 have HC0_7 := Aside0.mk hc0_7
 clear hr0_7 hc0_7
 have HR1 := Aside0.mk hr1
 have HC1 := Aside0.mk hc1
 clear hr1 hc1
 have HB := Aside0.mk (Below.refl w.heap.size w)
 have H : (if a0_0 = 12 then (jigsawref09_logic.l0 k l1 0 a0_0 l0_1 l0_2 l0_3 l0_4 l0_5 a0_6 l0_7) else (none)) = some r := h
 clear h
 by_cases c3 : a0_0 = 12
 ·
  rw [if_pos c3] at H
  have c3b0 : (a0_0 == 12) = true := beq_iff_eq.mpr c3
  have c3b1 : (a0_0 != 12) = false := bne_eq_false_iff_eq.mpr c3
  clear c3
  have H' := Aside0.mk H
  clear H
  go_enter Tryz.func42, Tryz.ntmps42
  go_wp2_with (first | ((with_reducible refine gate_dst (N := 2) rfl ?_); refine bxe_ (N := 2) (cs := #[.int .i64 a0_0, .slice A0_1 l0_1.length c0_1, .slice A0_2 l0_2.length c0_2, .slice A0_3 l0_3.length c0_3, .slice A0_4 l0_4.length c0_4, .slice A0_5 l0_5.length c0_5, .int .i64 a0_6, .slice A0_7 l0_7.length c0_7]) (t := 32) ?_; intro gb504 hg w4 hbox hb; have BK504 := Aside0.mk (hbox); have GW504 := Aside0.mk (by rw [hg]; exact (below_size bel_) : w.heap.size ≤ gb504); have GE504 := GW504; replace HB := Aside0.mk (below_step bel_ hb); clear hb hbox hg; obtain ⟨hcz5_0, hcz5_1, hcz5_2, hcz5_3, hcz5_4, hcz5_5, hcz5_6, hcz5_7, hfz5_0, hfz5_1, hfz5_2, hfz5_3, hfz5_4, hfz5_5, hfz5_6, hfz5_7⟩ := cel8_ BK504.out))
  repeat (go_quiet (first | ((with_reducible refine gate_dst (N := 2) rfl ?_); refine bxe_ (N := 2) (cs := #[.int .i64 a0_0, .slice A0_1 l0_1.length c0_1, .slice A0_2 l0_2.length c0_2, .slice A0_3 l0_3.length c0_3, .slice A0_4 l0_4.length c0_4, .slice A0_5 l0_5.length c0_5, .int .i64 a0_6, .slice A0_7 l0_7.length c0_7]) (t := 32) ?_; intro gb504 hg w4 hbox hb; have BK504 := Aside0.mk (hbox); have GW504 := Aside0.mk (by rw [hg]; exact (below_size bel_) : w.heap.size ≤ gb504); have GE504 := GW504; replace HB := Aside0.mk (below_step bel_ hb); clear hb hbox hg; obtain ⟨hcz5_0, hcz5_1, hcz5_2, hcz5_3, hcz5_4, hcz5_5, hcz5_6, hcz5_7, hfz5_0, hfz5_1, hfz5_2, hfz5_3, hfz5_4, hfz5_5, hfz5_6, hfz5_7⟩ := cel8_ BK504.out)); try go_wp2_with (first | ((with_reducible refine gate_dst (N := 2) rfl ?_); refine bxe_ (N := 2) (cs := #[.int .i64 a0_0, .slice A0_1 l0_1.length c0_1, .slice A0_2 l0_2.length c0_2, .slice A0_3 l0_3.length c0_3, .slice A0_4 l0_4.length c0_4, .slice A0_5 l0_5.length c0_5, .int .i64 a0_6, .slice A0_7 l0_7.length c0_7]) (t := 32) ?_; intro gb504 hg w4 hbox hb; have BK504 := Aside0.mk (hbox); have GW504 := Aside0.mk (by rw [hg]; exact (below_size bel_) : w.heap.size ≤ gb504); have GE504 := GW504; replace HB := Aside0.mk (below_step bel_ hb); clear hb hbox hg; obtain ⟨hcz5_0, hcz5_1, hcz5_2, hcz5_3, hcz5_4, hcz5_5, hcz5_6, hcz5_7, hfz5_0, hfz5_1, hfz5_2, hfz5_3, hfz5_4, hfz5_5, hfz5_6, hfz5_7⟩ := cel8_ BK504.out)))
  go_loopg [5] k (fun kq v5 w' => ∃ (x5_1 : Int), v5 = .int .i64 x5_1 ∧ Aside0 (jigsawref09_logic.l0 kq l1 x5_1 a0_0 l0_1 l0_2 l0_3 l0_4 l0_5 a0_6 l0_7 = some r) ∧ Aside0 (kq ≤ k) ∧ Aside0 (w'.heap[gb504]? = some (.cells #[.int .i64 a0_0, (.slice A0_1 l0_1.length c0_1), (.slice A0_2 l0_2.length c0_2), (.slice A0_3 l0_3.length c0_3), (.slice A0_4 l0_4.length c0_4), (.slice A0_5 l0_5.length c0_5), .int .i64 a0_6, (.slice A0_7 l0_7.length c0_7)] 32 (0, 0))) ∧ Aside0 (Below w.heap.size w w'))
  case atStart => exact ⟨(0), eq_, H', ⟨Nat.le_refl _⟩, ⟨by refine bk_ ?_; exact BK504.out⟩, ⟨bel_⟩⟩
  case round =>
   clear H'
   try clear c1
   try clear p2
   try clear c3
   try clear c3b0
   try clear c3b1
   try clear c4
   try clear hcz5_0
   try clear hcz5_1
   try clear hcz5_2
   try clear hcz5_3
   try clear hcz5_4
   try clear hcz5_5
   try clear hcz5_6
   try clear hcz5_7
   try clear hfz5_0
   try clear hfz5_1
   try clear hfz5_2
   try clear hfz5_3
   try clear hfz5_4
   try clear hfz5_5
   try clear hfz5_6
   try clear hfz5_7
   obtain ⟨x5_1, rfl, HA, HK1, BK504, HB⟩ := hrel
   cases gk with
   | zero => exact absurd HA.out (by simp [jigsawref09_logic.l0])
   | succ k1 =>
    have H := HA.out
    clear HA
    simp only [jigsawref09_logic.l0] at H
    by_cases c6 : x5_1 < (l0_1.length : Int)
    ·
     rw [if_pos c6] at H
     have c6b0 : decide (x5_1 < (l0_1.length : Int)) = true := decide_eq_true c6
     clear c6
     by_cases c7 : 0 ≤ x5_1
     ·
      rw [if_pos c7] at H
      have c7b0 : decide (0 ≤ x5_1) = true := decide_eq_true c7
      clear c7
      by_cases c8 : 0 ≤ (rd l0_1 x5_1)
      ·
       rw [if_pos c8] at H
       have c8b0 : decide (0 ≤ (rd l0_1 x5_1)) = true := decide_eq_true c8
       clear c8
       by_cases c9 : (rd l0_1 x5_1) < (l1.length : Int)
       ·
        rw [if_pos c9] at H
        have c9b0 : decide ((rd l0_1 x5_1) < (l1.length : Int)) = true := decide_eq_true c9
        clear c9
        by_cases c10 : (rd l1 (rd l0_1 x5_1)) = 1
        ·
         rw [if_pos c10] at H
         have c10b0 : ((rd l1 (rd l0_1 x5_1)) == 1) = true := beq_iff_eq.mpr c10
         have c10b1 : ((rd l1 (rd l0_1 x5_1)) != 1) = false := bne_eq_false_iff_eq.mpr c10
         clear c10
         obtain rfl := Option.some.inj H
         obtain ⟨hcz11_0, hcz11_1, hcz11_2, hcz11_3, hcz11_4, hcz11_5, hcz11_6, hcz11_7, hfz11_0, hfz11_1, hfz11_2, hfz11_3, hfz11_4, hfz11_5, hfz11_6, hfz11_7⟩ := cel8_ BK504.out
         have p505 : 0 ≤ (x5_1 : Int) := dq_
         have q505 : x5_1 < (l0_1.length : Int) := dq_
         obtain ⟨ad505, e505, hx505_0⟩ := Kd.at_int HR0_1.out x5_1 p505 q505
         cases e505
         replace hx505_0 := (HB.out.cell (World.block_lt_of_cell? w _ hx505_0)).trans hx505_0
         replace p505 := eq_true p505
         replace q505 := eq_true q505
         have p506 : 0 ≤ ((rd l0_1 x5_1) : Int) := dq_
         have q506 : (rd l0_1 x5_1) < (l1.length : Int) := dq_
         obtain ⟨ad506, e506, hx506_0⟩ := Kd.at_int HR1.out (rd l0_1 x5_1) p506 q506
         cases e506
         replace hx506_0 := (HB.out.cell (World.block_lt_of_cell? w _ hx506_0)).trans hx506_0
         replace p506 := eq_true p506
         replace q506 := eq_true q506
         go_wp2
         repeat (go_quiet (fail); try go_wp2)
         go_ret
         exact ⟨by first | rfl | (simp [errW_none, errW_some] <;> rfl) | (simp [*, errW_none, errW_some] <;> rfl), bel_⟩
        ·
         rw [if_neg c10] at H
         have c10b0 : ((rd l1 (rd l0_1 x5_1)) == 1) = false := beq_eq_false_iff_ne.mpr c10
         have c10b1 : ((rd l1 (rd l0_1 x5_1)) != 1) = true := bne_iff_ne.mpr c10
         have H' := Aside0.mk H
         clear H
         obtain ⟨hcz12_0, hcz12_1, hcz12_2, hcz12_3, hcz12_4, hcz12_5, hcz12_6, hcz12_7, hfz12_0, hfz12_1, hfz12_2, hfz12_3, hfz12_4, hfz12_5, hfz12_6, hfz12_7⟩ := cel8_ BK504.out
         have p505 : 0 ≤ (x5_1 : Int) := dq_
         have q505 : x5_1 < (l0_1.length : Int) := dq_
         obtain ⟨ad505, e505, hx505_0⟩ := Kd.at_int HR0_1.out x5_1 p505 q505
         cases e505
         replace hx505_0 := (HB.out.cell (World.block_lt_of_cell? w _ hx505_0)).trans hx505_0
         replace p505 := eq_true p505
         replace q505 := eq_true q505
         have p506 : 0 ≤ ((rd l0_1 x5_1) : Int) := dq_
         have q506 : (rd l0_1 x5_1) < (l1.length : Int) := dq_
         obtain ⟨ad506, e506, hx506_0⟩ := Kd.at_int HR1.out (rd l0_1 x5_1) p506 q506
         cases e506
         replace hx506_0 := (HB.out.cell (World.block_lt_of_cell? w _ hx506_0)).trans hx506_0
         replace p506 := eq_true p506
         replace q506 := eq_true q506
         go_wp2
         repeat (go_quiet (fail); try go_wp2)
         go_roundg k1
         case measure => have := HK1.out; omega
         case rel => exact ⟨(wrap64 (x5_1 + 1)), eq_, H', ⟨by have := HK1.out; omega⟩, ⟨by refine bk_ ?_; exact BK504.out⟩, ⟨bel_⟩⟩
       ·
        rw [if_neg c9] at H
        exact absurd H (by simp)
      ·
       rw [if_neg c8] at H
       exact absurd H (by simp)
     ·
      rw [if_neg c7] at H
      exact absurd H (by simp)
    ·
     rw [if_neg c6] at H
     have c6b0 : decide (x5_1 < (l0_1.length : Int)) = false := decide_eq_false c6
     clear c6
     have H' := Aside0.mk H
     clear H
     obtain ⟨hcz13_0, hcz13_1, hcz13_2, hcz13_3, hcz13_4, hcz13_5, hcz13_6, hcz13_7, hfz13_0, hfz13_1, hfz13_2, hfz13_3, hfz13_4, hfz13_5, hfz13_6, hfz13_7⟩ := cel8_ BK504.out
     go_wp2
     repeat (go_quiet (fail); try go_wp2)
     go_loopg [6] k1 (fun kq v6 w' => ∃ (x6_2 : Int), v6 = .int .i64 x6_2 ∧ Aside0 (jigsawref09_logic.l1 kq l1 x6_2 a0_0 l0_1 l0_2 l0_3 l0_4 l0_5 a0_6 l0_7 = some r) ∧ Aside0 (kq ≤ k1) ∧ Aside0 (w'.heap[gb504]? = some (.cells #[.int .i64 a0_0, (.slice A0_1 l0_1.length c0_1), (.slice A0_2 l0_2.length c0_2), (.slice A0_3 l0_3.length c0_3), (.slice A0_4 l0_4.length c0_4), (.slice A0_5 l0_5.length c0_5), .int .i64 a0_6, (.slice A0_7 l0_7.length c0_7)] 32 (0, 0))) ∧ Aside0 (Below w.heap.size w w'))
     case atStart => exact ⟨(0), eq_, H', ⟨Nat.le_refl _⟩, ⟨by refine bk_ ?_; exact BK504.out⟩, ⟨bel_⟩⟩
     case round =>
      clear H'
      try clear c1
      try clear p2
      try clear c3
      try clear c3b0
      try clear c3b1
      try clear c4
      try clear p5
      try clear q5
      try clear hx5
      try clear c6
      try clear c6b0
      try clear p6
      try clear c7
      try clear c7b0
      try clear c8
      try clear c8b0
      try clear c9
      try clear c9b0
      try clear c10
      try clear c10b0
      try clear c10b1
      try clear hcz11_0
      try clear hcz11_1
      try clear hcz11_2
      try clear hcz11_3
      try clear hcz11_4
      try clear hcz11_5
      try clear hcz11_6
      try clear hcz11_7
      try clear hcz12_0
      try clear hcz12_1
      try clear hcz12_2
      try clear hcz12_3
      try clear hcz12_4
      try clear hcz12_5
      try clear hcz12_6
      try clear hcz12_7
      try clear hcz13_0
      try clear hcz13_1
      try clear hcz13_2
      try clear hcz13_3
      try clear hcz13_4
      try clear hcz13_5
      try clear hcz13_6
      try clear hcz13_7
      try clear hcz5_0
      try clear hcz5_1
      try clear hcz5_2
      try clear hcz5_3
      try clear hcz5_4
      try clear hcz5_5
      try clear hcz5_6
      try clear hcz5_7
      try clear hfz11_0
      try clear hfz11_1
      try clear hfz11_2
      try clear hfz11_3
      try clear hfz11_4
      try clear hfz11_5
      try clear hfz11_6
      try clear hfz11_7
      try clear hfz12_0
      try clear hfz12_1
      try clear hfz12_2
      try clear hfz12_3
      try clear hfz12_4
      try clear hfz12_5
      try clear hfz12_6
      try clear hfz12_7
      try clear hfz13_0
      try clear hfz13_1
      try clear hfz13_2
      try clear hfz13_3
      try clear hfz13_4
      try clear hfz13_5
      try clear hfz13_6
      try clear hfz13_7
      try clear hfz5_0
      try clear hfz5_1
      try clear hfz5_2
      try clear hfz5_3
      try clear hfz5_4
      try clear hfz5_5
      try clear hfz5_6
      try clear hfz5_7
      try clear hx505_0
      try clear hx506_0
      try clear p2
      try clear p505
      try clear p506
      try clear q505
      try clear q506
      obtain ⟨x6_2, rfl, HA, HK2, BK504, HB⟩ := hrel
      cases gk with
      | zero => exact absurd HA.out (by simp [jigsawref09_logic.l1])
      | succ k2 =>
       have H := HA.out
       clear HA
       simp only [jigsawref09_logic.l1] at H
       by_cases c14 : x6_2 < (l0_2.length : Int)
       ·
        rw [if_pos c14] at H
        have c14b0 : decide (x6_2 < (l0_2.length : Int)) = true := decide_eq_true c14
        clear c14
        by_cases c15 : 0 ≤ x6_2
        ·
         rw [if_pos c15] at H
         have c15b0 : decide (0 ≤ x6_2) = true := decide_eq_true c15
         clear c15
         by_cases c16 : 0 ≤ (rd l0_2 x6_2)
         ·
          rw [if_pos c16] at H
          have c16b0 : decide (0 ≤ (rd l0_2 x6_2)) = true := decide_eq_true c16
          clear c16
          by_cases c17 : (rd l0_2 x6_2) < (l1.length : Int)
          ·
           rw [if_pos c17] at H
           have c17b0 : decide ((rd l0_2 x6_2) < (l1.length : Int)) = true := decide_eq_true c17
           clear c17
           by_cases c18 : (rd l1 (rd l0_2 x6_2)) = 0
           ·
            rw [if_pos c18] at H
            have c18b0 : ((rd l1 (rd l0_2 x6_2)) == 0) = true := beq_iff_eq.mpr c18
            have c18b1 : ((rd l1 (rd l0_2 x6_2)) != 0) = false := bne_eq_false_iff_eq.mpr c18
            clear c18
            obtain rfl := Option.some.inj H
            obtain ⟨_, _, _, _, _, _, _, _, _, _, _, _, _, _, _, _⟩ := cel8_ BK504.out
            have p507 : 0 ≤ (x6_2 : Int) := dq_
            have q507 : x6_2 < (l0_2.length : Int) := dq_
            obtain ⟨ad507, e507, hx507_0⟩ := Kd.at_int HR0_2.out x6_2 p507 q507
            cases e507
            replace hx507_0 := (HB.out.cell (World.block_lt_of_cell? w _ hx507_0)).trans hx507_0
            replace p507 := eq_true p507
            replace q507 := eq_true q507
            have p508 : 0 ≤ ((rd l0_2 x6_2) : Int) := dq_
            have q508 : (rd l0_2 x6_2) < (l1.length : Int) := dq_
            obtain ⟨ad508, e508, hx508_0⟩ := Kd.at_int HR1.out (rd l0_2 x6_2) p508 q508
            cases e508
            replace hx508_0 := (HB.out.cell (World.block_lt_of_cell? w _ hx508_0)).trans hx508_0
            replace p508 := eq_true p508
            replace q508 := eq_true q508
            go_wp2
            repeat (go_quiet (fail); try go_wp2)
            go_ret
            exact ⟨by first | rfl | (simp [errW_none, errW_some] <;> rfl) | (simp [*, errW_none, errW_some] <;> rfl), bel_⟩
           ·
            rw [if_neg c18] at H
            have c18b0 : ((rd l1 (rd l0_2 x6_2)) == 0) = false := beq_eq_false_iff_ne.mpr c18
            have c18b1 : ((rd l1 (rd l0_2 x6_2)) != 0) = true := bne_iff_ne.mpr c18
            have H' := Aside0.mk H
            clear H
            obtain ⟨_, _, _, _, _, _, _, _, _, _, _, _, _, _, _, _⟩ := cel8_ BK504.out
            have p507 : 0 ≤ (x6_2 : Int) := dq_
            have q507 : x6_2 < (l0_2.length : Int) := dq_
            obtain ⟨ad507, e507, hx507_0⟩ := Kd.at_int HR0_2.out x6_2 p507 q507
            cases e507
            replace hx507_0 := (HB.out.cell (World.block_lt_of_cell? w _ hx507_0)).trans hx507_0
            replace p507 := eq_true p507
            replace q507 := eq_true q507
            have p508 : 0 ≤ ((rd l0_2 x6_2) : Int) := dq_
            have q508 : (rd l0_2 x6_2) < (l1.length : Int) := dq_
            obtain ⟨ad508, e508, hx508_0⟩ := Kd.at_int HR1.out (rd l0_2 x6_2) p508 q508
            cases e508
            replace hx508_0 := (HB.out.cell (World.block_lt_of_cell? w _ hx508_0)).trans hx508_0
            replace p508 := eq_true p508
            replace q508 := eq_true q508
            go_wp2
            repeat (go_quiet (fail); try go_wp2)
            go_roundg k2
            case measure => have := HK1.out; have := HK2.out; omega
            case rel => exact ⟨(wrap64 (x6_2 + 1)), eq_, H', ⟨by have := HK1.out; have := HK2.out; omega⟩, ⟨by refine bk_ ?_; exact BK504.out⟩, ⟨bel_⟩⟩
          ·
           rw [if_neg c17] at H
           exact absurd H (by simp)
         ·
          rw [if_neg c16] at H
          exact absurd H (by simp)
        ·
         rw [if_neg c15] at H
         exact absurd H (by simp)
       ·
        rw [if_neg c14] at H
        have c14b0 : decide (x6_2 < (l0_2.length : Int)) = false := decide_eq_false c14
        clear c14
        obtain rfl := Option.some.inj H
        obtain ⟨_, _, _, _, _, _, _, _, _, _, _, _, _, _, _, _⟩ := cel8_ BK504.out
        go_wp2
        repeat (go_quiet (fail); try go_wp2)
        go_ret
        exact ⟨by first | rfl | (simp [errW_none, errW_some] <;> rfl) | (simp [*, errW_none, errW_some] <;> rfl), bel_⟩
 ·
  rw [if_neg c3] at H
  exact absurd H (by simp)

/-! ### jigsawref09_Holds: function 21 -/
def jigsawref09_Holds.f (k : Nat) (a0_0 : Int) (l0_1 : List Int) (l0_2 : List Int) (l0_3 : List Int) (l0_4 : List Int) (l0_5 : List Int) (a0_6 : Int) (l0_7 : List (List Int)) (l1 : List Int) : Option (Bool) := if a0_0 ≤ 4 then (none) else (if a0_0 ≤ 11 then (none) else (if a0_0 ≤ 16 then ((jigsawref09_logic.f k a0_0 l0_1 l0_2 l0_3 l0_4 l0_5 a0_6 l0_7 l1).bind fun t510 => (some t510)) else (none)))
theorem jigsawref09_Holds.mono : ∀ a0 a1 a2 a3 a4 a5 a6 a7 a8 k, LeO (jigsawref09_Holds.f k a0 a1 a2 a3 a4 a5 a6 a7 a8) (jigsawref09_Holds.f (k + 1) a0 a1 a2 a3 a4 a5 a6 a7 a8) := by
 intro a0 a1 a2 a3 a4 a5 a6 a7 a8 k
 unfold jigsawref09_Holds.f
 have m0 := @jigsawref09_logic.mono
 exact leo_
set_option maxHeartbeats 8000000 in
set_option maxRecDepth 100000 in
theorem jigsawref09_Holds.calls (k : Nat) (a0_0 : Int) (A0_1 : Option Addr) (c0_1 : Nat) (l0_1 : List Int) (A0_2 : Option Addr) (c0_2 : Nat) (l0_2 : List Int) (A0_3 : Option Addr) (c0_3 : Nat) (l0_3 : List Int) (A0_4 : Option Addr) (c0_4 : Nat) (l0_4 : List Int) (A0_5 : Option Addr) (c0_5 : Nat) (l0_5 : List Int) (a0_6 : Int) (A0_7 : Option Addr) (c0_7 : Nat) (l0_7 : List (List Int)) (A1 : Option Addr) (c1 : Nat) (l1 : List Int) (r : Bool) (w : World) (hr0_1 : Kd.C (Kd.int .i64) w A0_1 l0_1.length l0_1) (hc0_1 : l0_1.length ≤ c0_1) (hr0_2 : Kd.C (Kd.int .i64) w A0_2 l0_2.length l0_2) (hc0_2 : l0_2.length ≤ c0_2) (hr0_3 : Kd.C (Kd.int .i64) w A0_3 l0_3.length l0_3) (hc0_3 : l0_3.length ≤ c0_3) (hr0_4 : Kd.C (Kd.int .i64) w A0_4 l0_4.length l0_4) (hc0_4 : l0_4.length ≤ c0_4) (hr0_5 : Kd.C (Kd.int .i64) w A0_5 l0_5.length l0_5) (hc0_5 : l0_5.length ≤ c0_5) (hr0_7 : Kd.C (Kd.slice 3 (Kd.int .i64)) w A0_7 l0_7.length l0_7) (hc0_7 : l0_7.length ≤ c0_7) (hr1 : Kd.C (Kd.int .i64) w A1 l1.length l1) (hc1 : l1.length ≤ c1) (h : jigsawref09_Holds.f k a0_0 l0_1 l0_2 l0_3 l0_4 l0_5 a0_6 l0_7 l1 = some r) :
  Calls Tryz.prog 21 #[.agg #[.int .i64 a0_0, .slice A0_1 l0_1.length c0_1, .slice A0_2 l0_2.length c0_2, .slice A0_3 l0_3.length c0_3, .slice A0_4 l0_4.length c0_4, .slice A0_5 l0_5.length c0_5, .int .i64 a0_6, .slice A0_7 l0_7.length c0_7], .slice A1 l1.length c1] w fun e w' => e = .returned (.bool r) ∧ Below w.heap.size w w' := by
 have hu32 := Tryz.underlying32
 have HR0_1 := Aside0.mk hr0_1
 have HC0_1 := Aside0.mk hc0_1
 clear hr0_1 hc0_1
 have HR0_2 := Aside0.mk hr0_2
 have HC0_2 := Aside0.mk hc0_2
 clear hr0_2 hc0_2
 have HR0_3 := Aside0.mk hr0_3
 have HC0_3 := Aside0.mk hc0_3
 clear hr0_3 hc0_3
 have HR0_4 := Aside0.mk hr0_4
 have HC0_4 := Aside0.mk hc0_4
 clear hr0_4 hc0_4
 have HR0_5 := Aside0.mk hr0_5
 have HC0_5 := Aside0.mk hc0_5
 clear hr0_5 hc0_5
 have HR0_7 := Aside0.mk hr0_7
 have HC0_7 := Aside0.mk hc0_7
 clear hr0_7 hc0_7
 have HR1 := Aside0.mk hr1
 have HC1 := Aside0.mk hc1
 clear hr1 hc1
 have HB := Aside0.mk (Below.refl w.heap.size w)
 have H : (if a0_0 ≤ 4 then (none) else (if a0_0 ≤ 11 then (none) else (if a0_0 ≤ 16 then ((jigsawref09_logic.f k a0_0 l0_1 l0_2 l0_3 l0_4 l0_5 a0_6 l0_7 l1).bind fun t510 => (some t510)) else (none)))) = some r := h
 clear h
 by_cases c3 : a0_0 ≤ 4
 ·
  rw [if_pos c3] at H
  exact absurd H (by simp)
 ·
  rw [if_neg c3] at H
  have c3b0 : decide (a0_0 ≤ 4) = false := decide_eq_false c3
  clear c3
  by_cases c4 : a0_0 ≤ 11
  ·
   rw [if_pos c4] at H
   exact absurd H (by simp)
  ·
   rw [if_neg c4] at H
   have c4b0 : decide (a0_0 ≤ 11) = false := decide_eq_false c4
   clear c4
   by_cases c5 : a0_0 ≤ 16
   ·
    rw [if_pos c5] at H
    have c5b0 : decide (a0_0 ≤ 16) = true := decide_eq_true c5
    clear c5
    replace H := Option.bind_eq_some_iff.mp H
    obtain ⟨t510, A60, H⟩ := H
    try dsimp only at H
    have A6 := Aside0.mk A60
    clear A60
    obtain rfl := Option.some.inj H
    go_enter Tryz.func21, Tryz.ntmps21
    go_wp2_with (first | ((with_reducible refine gate_dst (N := 2) rfl ?_); refine bxe_ (N := 2) (cs := #[.int .i64 a0_0, .slice A0_1 l0_1.length c0_1, .slice A0_2 l0_2.length c0_2, .slice A0_3 l0_3.length c0_3, .slice A0_4 l0_4.length c0_4, .slice A0_5 l0_5.length c0_5, .int .i64 a0_6, .slice A0_7 l0_7.length c0_7]) (t := 32) ?_; intro gb509 hg w7 hbox hb; have BK509 := Aside0.mk (hbox); have GW509 := Aside0.mk (by rw [hg]; exact (below_size bel_) : w.heap.size ≤ gb509); have GE509 := GW509; replace HB := Aside0.mk (below_step bel_ hb); clear hb hbox hg; obtain ⟨hcz8_0, hcz8_1, hcz8_2, hcz8_3, hcz8_4, hcz8_5, hcz8_6, hcz8_7, hfz8_0, hfz8_1, hfz8_2, hfz8_3, hfz8_4, hfz8_5, hfz8_6, hfz8_7⟩ := cel8_ BK509.out) | (go_at_call 42; (with_reducible refine (jigsawref09_logic.calls k a0_0 _ _ l0_1 _ _ l0_2 _ _ l0_3 _ _ l0_4 _ _ l0_5 a0_6 _ _ l0_7 _ _ l1 t510 _ ?_ ?_ ?_ ?_ ?_ ?_ ?_ ?_ ?_ ?_ ?_ ?_ ?_ ?_ A6.out).mono ?_); exact ca_ ((Kd.C_below HR0_1.out HB.out)); exact HC0_1.out; exact ca_ ((Kd.C_below HR0_2.out HB.out)); exact HC0_2.out; exact ca_ ((Kd.C_below HR0_3.out HB.out)); exact HC0_3.out; exact ca_ ((Kd.C_below HR0_4.out HB.out)); exact HC0_4.out; exact ca_ ((Kd.C_below HR0_5.out HB.out)); exact HC0_5.out; exact ca_ ((Kd.C_below HR0_7.out HB.out)); exact HC0_7.out; exact ca_ ((Kd.C_below HR1.out HB.out)); exact HC1.out; rintro e w9 ⟨rfl, hb⟩; replace BK509 := Aside0.mk (blk_below (bk_ BK509.out) hb); replace HB := Aside0.mk (below_step bel_ hb); clear hb))
    repeat (go_quiet (first | ((with_reducible refine gate_dst (N := 2) rfl ?_); refine bxe_ (N := 2) (cs := #[.int .i64 a0_0, .slice A0_1 l0_1.length c0_1, .slice A0_2 l0_2.length c0_2, .slice A0_3 l0_3.length c0_3, .slice A0_4 l0_4.length c0_4, .slice A0_5 l0_5.length c0_5, .int .i64 a0_6, .slice A0_7 l0_7.length c0_7]) (t := 32) ?_; intro gb509 hg w7 hbox hb; have BK509 := Aside0.mk (hbox); have GW509 := Aside0.mk (by rw [hg]; exact (below_size bel_) : w.heap.size ≤ gb509); have GE509 := GW509; replace HB := Aside0.mk (below_step bel_ hb); clear hb hbox hg; obtain ⟨hcz8_0, hcz8_1, hcz8_2, hcz8_3, hcz8_4, hcz8_5, hcz8_6, hcz8_7, hfz8_0, hfz8_1, hfz8_2, hfz8_3, hfz8_4, hfz8_5, hfz8_6, hfz8_7⟩ := cel8_ BK509.out) | (go_at_call 42; (with_reducible refine (jigsawref09_logic.calls k a0_0 _ _ l0_1 _ _ l0_2 _ _ l0_3 _ _ l0_4 _ _ l0_5 a0_6 _ _ l0_7 _ _ l1 t510 _ ?_ ?_ ?_ ?_ ?_ ?_ ?_ ?_ ?_ ?_ ?_ ?_ ?_ ?_ A6.out).mono ?_); exact ca_ ((Kd.C_below HR0_1.out HB.out)); exact HC0_1.out; exact ca_ ((Kd.C_below HR0_2.out HB.out)); exact HC0_2.out; exact ca_ ((Kd.C_below HR0_3.out HB.out)); exact HC0_3.out; exact ca_ ((Kd.C_below HR0_4.out HB.out)); exact HC0_4.out; exact ca_ ((Kd.C_below HR0_5.out HB.out)); exact HC0_5.out; exact ca_ ((Kd.C_below HR0_7.out HB.out)); exact HC0_7.out; exact ca_ ((Kd.C_below HR1.out HB.out)); exact HC1.out; rintro e w9 ⟨rfl, hb⟩; replace BK509 := Aside0.mk (blk_below (bk_ BK509.out) hb); replace HB := Aside0.mk (below_step bel_ hb); clear hb)); try go_wp2_with (first | ((with_reducible refine gate_dst (N := 2) rfl ?_); refine bxe_ (N := 2) (cs := #[.int .i64 a0_0, .slice A0_1 l0_1.length c0_1, .slice A0_2 l0_2.length c0_2, .slice A0_3 l0_3.length c0_3, .slice A0_4 l0_4.length c0_4, .slice A0_5 l0_5.length c0_5, .int .i64 a0_6, .slice A0_7 l0_7.length c0_7]) (t := 32) ?_; intro gb509 hg w7 hbox hb; have BK509 := Aside0.mk (hbox); have GW509 := Aside0.mk (by rw [hg]; exact (below_size bel_) : w.heap.size ≤ gb509); have GE509 := GW509; replace HB := Aside0.mk (below_step bel_ hb); clear hb hbox hg; obtain ⟨hcz8_0, hcz8_1, hcz8_2, hcz8_3, hcz8_4, hcz8_5, hcz8_6, hcz8_7, hfz8_0, hfz8_1, hfz8_2, hfz8_3, hfz8_4, hfz8_5, hfz8_6, hfz8_7⟩ := cel8_ BK509.out) | (go_at_call 42; (with_reducible refine (jigsawref09_logic.calls k a0_0 _ _ l0_1 _ _ l0_2 _ _ l0_3 _ _ l0_4 _ _ l0_5 a0_6 _ _ l0_7 _ _ l1 t510 _ ?_ ?_ ?_ ?_ ?_ ?_ ?_ ?_ ?_ ?_ ?_ ?_ ?_ ?_ A6.out).mono ?_); exact ca_ ((Kd.C_below HR0_1.out HB.out)); exact HC0_1.out; exact ca_ ((Kd.C_below HR0_2.out HB.out)); exact HC0_2.out; exact ca_ ((Kd.C_below HR0_3.out HB.out)); exact HC0_3.out; exact ca_ ((Kd.C_below HR0_4.out HB.out)); exact HC0_4.out; exact ca_ ((Kd.C_below HR0_5.out HB.out)); exact HC0_5.out; exact ca_ ((Kd.C_below HR0_7.out HB.out)); exact HC0_7.out; exact ca_ ((Kd.C_below HR1.out HB.out)); exact HC1.out; rintro e w9 ⟨rfl, hb⟩; replace HB := Aside0.mk (below_step bel_ hb); clear hb)))
    go_ret
    exact ⟨by first | rfl | (simp [errW_none, errW_some] <;> rfl) | (simp [*, errW_none, errW_some] <;> rfl), bel_⟩
   ·
    rw [if_neg c5] at H
    exact absurd H (by simp)

end Go.Proofs.YtmhchlbbfpmdgaaGreatDoor.XClauseKeeps
