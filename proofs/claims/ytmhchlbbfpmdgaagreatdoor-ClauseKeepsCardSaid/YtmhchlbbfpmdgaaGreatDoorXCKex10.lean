-- by xprint.py, a program of this session, over the kit's print
import Derived.Test.YtmhchlbbfpmdgaaGreatDoorXCKex0
import Derived.Test.YtmhchlbbfpmdgaaGreatDoorXCKex9
import Derived.Test.YtmhchlbbfpmdgaaGreatDoorSq
namespace Go.Proofs.YtmhchlbbfpmdgaaGreatDoor.XClauseKeeps
open Go.RowKit Go.Proofs.YtmhchlbbfpmdgaaGreatDoor.Sq Go.Proofs.YtmhchlbbfpmdgaaGreatDoorW.PrintWords Go.Proofs.YtmhchlbbfpmdgaaGreatDoorW.PrintLast Go.Proofs.YtmhchlbbfpmdgaaGreatDoorW.PrintMore
attribute [local go_sem] max2_int min2_int max_two min_two max_three min_three max_four min_four   -- for this text's walks alone
set_option linter.unusedVariables false
set_option linter.unusedSimpArgs false

/-! ### model_numbers: function 80 -/
def model_numbers.l0 : Nat → Int → Int → Int → Int → Int → Int → List Int → List Int → List Int → List Int → List Int → Int → List (List Int) → Option (Bool)
 | 0, _, _, _, _, _, _, _, _, _, _, _, _, _ => none
 | k + 1, x3, x4, x5, x16, x17, x272000, x272001, x272002, x272003, x272004, x272005, x272006, x272007 => if x17 < x16 then (none) else ((model_bounded.f k x272003 x3).bind fun t272 => (if t272 = true then ((model_bounded.f k x272004 x4).bind fun t273 => (if t273 = true then ((model_bounded.f k x272005 x4).bind fun t274 => (if t274 = true then (if x272006 ≥ x5 then (some (decide (x272006 ≤ 9999999999))) else (none)) else (none))) else (none))) else (none)))
def model_numbers.f (k : Nat) (a0_0 : Int) (l0_1 : List Int) (l0_2 : List Int) (l0_3 : List Int) (l0_4 : List Int) (l0_5 : List Int) (a0_6 : Int) (l0_7 : List (List Int)) : Option (Bool) := if a0_0 = 19 then (none) else (if a0_0 = 21 then (none) else (model_numbers.l0 k (-1000000) (-1000000) (-9999999999) (l0_7.length : Int) 0 a0_0 l0_1 l0_2 l0_3 l0_4 l0_5 a0_6 l0_7))
theorem model_numbers.mono_l : ∀ k, (∀ y0 y1 y2 y3 y4 y5 y6 y7 y8 y9 y10 y11 y12, LeO (model_numbers.l0 k y0 y1 y2 y3 y4 y5 y6 y7 y8 y9 y10 y11 y12) (model_numbers.l0 (k + 1) y0 y1 y2 y3 y4 y5 y6 y7 y8 y9 y10 y11 y12))
 | 0 => fun _ _ _ _ _ _ _ _ _ _ _ _ _ r h => by simp [model_numbers.l0] at h
 | k + 1 => by
  have ih0 := model_numbers.mono_l k
  ·
   intro y0 y1 y2 y3 y4 y5 y6 y7 y8 y9 y10 y11 y12
   unfold model_numbers.l0
   have m0 := @model_bounded.mono
   exact leo_
theorem model_numbers.mono : ∀ a0 a1 a2 a3 a4 a5 a6 a7 k, LeO (model_numbers.f k a0 a1 a2 a3 a4 a5 a6 a7) (model_numbers.f (k + 1) a0 a1 a2 a3 a4 a5 a6 a7) := by
 intro a0 a1 a2 a3 a4 a5 a6 a7 k
 have ih0 := model_numbers.mono_l k
 unfold model_numbers.f
 have m0 := @model_bounded.mono
 exact leo_
set_option maxHeartbeats 8000000 in
set_option maxRecDepth 100000 in
theorem model_numbers.calls (k : Nat) (a0_0 : Int) (A0_1 : Option Addr) (c0_1 : Nat) (l0_1 : List Int) (A0_2 : Option Addr) (c0_2 : Nat) (l0_2 : List Int) (A0_3 : Option Addr) (c0_3 : Nat) (l0_3 : List Int) (A0_4 : Option Addr) (c0_4 : Nat) (l0_4 : List Int) (A0_5 : Option Addr) (c0_5 : Nat) (l0_5 : List Int) (a0_6 : Int) (A0_7 : Option Addr) (c0_7 : Nat) (l0_7 : List (List Int)) (r : Bool) (w : World) (hr0_1 : Kd.C (Kd.int .i64) w A0_1 l0_1.length l0_1) (hc0_1 : l0_1.length ≤ c0_1) (hr0_2 : Kd.C (Kd.int .i64) w A0_2 l0_2.length l0_2) (hc0_2 : l0_2.length ≤ c0_2) (hr0_3 : Kd.C (Kd.int .i64) w A0_3 l0_3.length l0_3) (hc0_3 : l0_3.length ≤ c0_3) (hr0_4 : Kd.C (Kd.int .i64) w A0_4 l0_4.length l0_4) (hc0_4 : l0_4.length ≤ c0_4) (hr0_5 : Kd.C (Kd.int .i64) w A0_5 l0_5.length l0_5) (hc0_5 : l0_5.length ≤ c0_5) (hr0_7 : Kd.C (Kd.slice 3 (Kd.int .i64)) w A0_7 l0_7.length l0_7) (hc0_7 : l0_7.length ≤ c0_7) (h : model_numbers.f k a0_0 l0_1 l0_2 l0_3 l0_4 l0_5 a0_6 l0_7 = some r) :
  Calls Tryz.prog 80 #[.agg #[.int .i64 a0_0, .slice A0_1 l0_1.length c0_1, .slice A0_2 l0_2.length c0_2, .slice A0_3 l0_3.length c0_3, .slice A0_4 l0_4.length c0_4, .slice A0_5 l0_5.length c0_5, .int .i64 a0_6, .slice A0_7 l0_7.length c0_7]] w fun e w' => e = .returned (.bool r) ∧ Below w.heap.size w w' := by
 have hu32 := Tryz.underlying32
 have HC0_1 := Aside0.mk hc0_1
 clear hr0_1 hc0_1
 have HC0_2 := Aside0.mk hc0_2
 clear hr0_2 hc0_2
 have HR0_3 := Aside0.mk hr0_3
 have HC0_3 := Aside0.mk hc0_3
 clear hr0_3 hc0_3
 have HR0_4 := Aside0.mk hr0_4
 have HC0_4 := Aside0.mk hc0_4
 clear hr0_4 hc0_4
 have HR0_5 := Aside0.mk hr0_5
 have HC0_5 := Aside0.mk hc0_5
 clear hr0_5 hc0_5
 have HC0_7 := Aside0.mk hc0_7
 clear hr0_7 hc0_7
 have HB := Aside0.mk (Below.refl w.heap.size w)
 have H : (if a0_0 = 19 then (none) else (if a0_0 = 21 then (none) else (model_numbers.l0 k (-1000000) (-1000000) (-9999999999) (l0_7.length : Int) 0 a0_0 l0_1 l0_2 l0_3 l0_4 l0_5 a0_6 l0_7))) = some r := h
 clear h
 by_cases c2 : a0_0 = 19
 ·
  rw [if_pos c2] at H
  exact absurd H (by simp)
 ·
  rw [if_neg c2] at H
  have c2b0 : (a0_0 == 19) = false := beq_eq_false_iff_ne.mpr c2
  have c2b1 : (a0_0 != 19) = true := bne_iff_ne.mpr c2
  by_cases c3 : a0_0 = 21
  ·
   rw [if_pos c3] at H
   exact absurd H (by simp)
  ·
   rw [if_neg c3] at H
   have c3b0 : (a0_0 == 21) = false := beq_eq_false_iff_ne.mpr c3
   have c3b1 : (a0_0 != 21) = true := bne_iff_ne.mpr c3
   have H' := Aside0.mk H
   clear H
   go_enter Tryz.func80, Tryz.ntmps80
   go_wp2_with (first | ((with_reducible refine gate_dst (N := 1) rfl ?_); refine bxe_ (N := 1) (cs := #[.int .i64 a0_0, .slice A0_1 l0_1.length c0_1, .slice A0_2 l0_2.length c0_2, .slice A0_3 l0_3.length c0_3, .slice A0_4 l0_4.length c0_4, .slice A0_5 l0_5.length c0_5, .int .i64 a0_6, .slice A0_7 l0_7.length c0_7]) (t := 32) ?_; intro gb271 hg w4 hbox hb; have BK271 := Aside0.mk (hbox); have GW271 := Aside0.mk (by rw [hg]; exact (below_size bel_) : w.heap.size ≤ gb271); have GE271 := GW271; replace HB := Aside0.mk (below_step bel_ hb); clear hb hbox hg; obtain ⟨hcz5_0, hcz5_1, hcz5_2, hcz5_3, hcz5_4, hcz5_5, hcz5_6, hcz5_7, hfz5_0, hfz5_1, hfz5_2, hfz5_3, hfz5_4, hfz5_5, hfz5_6, hfz5_7⟩ := cel8_ BK271.out))
   go_loopg [17] k (fun kq v17 w' => ∃ (x17_1 : Int), v17 = .int .i64 x17_1 ∧ Aside0 (model_numbers.l0 kq (-1000000) (-1000000) (-9999999999) (l0_7.length : Int) x17_1 a0_0 l0_1 l0_2 l0_3 l0_4 l0_5 a0_6 l0_7 = some r) ∧ Aside0 (kq ≤ k) ∧ Aside0 (w'.heap[gb271]? = some (.cells #[.int .i64 a0_0, (.slice A0_1 l0_1.length c0_1), (.slice A0_2 l0_2.length c0_2), (.slice A0_3 l0_3.length c0_3), (.slice A0_4 l0_4.length c0_4), (.slice A0_5 l0_5.length c0_5), .int .i64 a0_6, (.slice A0_7 l0_7.length c0_7)] 32 (0, 0))) ∧ Aside0 (Below w.heap.size w w'))
   case atStart => exact ⟨(0), eq_, H', ⟨Nat.le_refl _⟩, ⟨by refine bk_ ?_; exact BK271.out⟩, ⟨bel_⟩⟩
   case round =>
    clear H'
    try clear c2
    try clear c2b0
    try clear c2b1
    try clear p2
    try clear c3
    try clear c3b0
    try clear c3b1
    try clear hcz5_0
    try clear hcz5_1
    try clear hcz5_2
    try clear hcz5_3
    try clear hcz5_4
    try clear hcz5_5
    try clear hcz5_6
    try clear hcz5_7
    try clear hfz5_0
    try clear hfz5_1
    try clear hfz5_2
    try clear hfz5_3
    try clear hfz5_4
    try clear hfz5_5
    try clear hfz5_6
    try clear hfz5_7
    obtain ⟨x17_1, rfl, HA, HK1, BK271, HB⟩ := hrel
    cases gk with
    | zero => exact absurd HA.out (by simp [model_numbers.l0])
    | succ k1 =>
     have H := HA.out
     clear HA
     simp only [model_numbers.l0] at H
     by_cases c6 : x17_1 < (l0_7.length : Int)
     ·
      rw [if_pos c6] at H
      exact absurd H (by simp)
     ·
      rw [if_neg c6] at H
      have c6b0 : decide (x17_1 < (l0_7.length : Int)) = false := decide_eq_false c6
      clear c6
      replace H := Option.bind_eq_some_iff.mp H
      obtain ⟨t272, A70, H⟩ := H
      try dsimp only at H
      have A7 := Aside0.mk A70
      clear A70
      by_cases c8 : t272 = true
      ·
       subst c8
       have H1 : ((model_bounded.f k1 l0_4 (-1000000)).bind fun t273 => (if t273 = true then ((model_bounded.f k1 l0_5 (-1000000)).bind fun t274 => (if t274 = true then (if a0_6 ≥ (-9999999999) then (some (decide (a0_6 ≤ 9999999999))) else (none)) else (none))) else (none))) = some r := by rw [if_pos rfl] at H; exact H
       clear H
       have H := H1
       clear H1
       replace H := Option.bind_eq_some_iff.mp H
       obtain ⟨t273, A90, H⟩ := H
       try dsimp only at H
       have A9 := Aside0.mk A90
       clear A90
       by_cases c10 : t273 = true
       ·
        subst c10
        have H1 : ((model_bounded.f k1 l0_5 (-1000000)).bind fun t274 => (if t274 = true then (if a0_6 ≥ (-9999999999) then (some (decide (a0_6 ≤ 9999999999))) else (none)) else (none))) = some r := by rw [if_pos rfl] at H; exact H
        clear H
        have H := H1
        clear H1
        replace H := Option.bind_eq_some_iff.mp H
        obtain ⟨t274, A110, H⟩ := H
        try dsimp only at H
        have A11 := Aside0.mk A110
        clear A110
        by_cases c12 : t274 = true
        ·
         subst c12
         have H1 : (if a0_6 ≥ (-9999999999) then (some (decide (a0_6 ≤ 9999999999))) else (none)) = some r := by rw [if_pos rfl] at H; exact H
         clear H
         have H := H1
         clear H1
         by_cases c13 : a0_6 ≥ (-9999999999)
         ·
          rw [if_pos c13] at H
          have c13b0 : decide ((-9999999999) ≤ a0_6) = true := decide_eq_true c13
          clear c13
          obtain rfl := Option.some.inj H
          obtain ⟨_, _, _, _, _, _, _, _, _, _, _, _, _, _, _, _⟩ := cel8_ BK271.out
          go_wp2_with (first | ((with_reducible refine gate_callee (f := 96) rfl ?_); refine goesL_ (some 29) rfl rfl Tryz.func96 (by kernel_rfl) rfl #[.slice A0_3 l0_3.length c0_3, .int .i64 (-1000000)] rfl ar_ ?_; (with_reducible refine (model_bounded.calls k1 _ _ l0_3 (-1000000) true _ ?_ ?_ A7.out).mono ?_); exact ca_ ((Kd.C_below HR0_3.out HB.out)); exact HC0_3.out; rintro e w15 ⟨rfl, hb⟩; refine ⟨_, rfl, ?_⟩; replace BK271 := Aside0.mk (blk_below (bk_ BK271.out) hb); replace HB := Aside0.mk (below_step bel_ hb); clear hb; obtain ⟨_, _, _, _, _, _, _, _, _, _, _, _, _, _, _, _⟩ := cel8_ BK271.out) | (go_at_call 96; (with_reducible refine (model_bounded.calls k1 _ _ l0_4 (-1000000) true _ ?_ ?_ A9.out).mono ?_); exact ca_ ((Kd.C_below HR0_4.out HB.out)); exact HC0_4.out; rintro e w17 ⟨rfl, hb⟩; replace BK271 := Aside0.mk (blk_below (bk_ BK271.out) hb); replace HB := Aside0.mk (below_step bel_ hb); clear hb; obtain ⟨_, _, _, _, _, _, _, _, _, _, _, _, _, _, _, _⟩ := cel8_ BK271.out) | (go_at_call 96; (with_reducible refine (model_bounded.calls k1 _ _ l0_5 (-1000000) true _ ?_ ?_ A11.out).mono ?_); exact ca_ ((Kd.C_below HR0_5.out HB.out)); exact HC0_5.out; rintro e w19 ⟨rfl, hb⟩; replace BK271 := Aside0.mk (blk_below (bk_ BK271.out) hb); replace HB := Aside0.mk (below_step bel_ hb); clear hb; obtain ⟨_, _, _, _, _, _, _, _, _, _, _, _, _, _, _, _⟩ := cel8_ BK271.out))
          go_ret
          exact ⟨by first | rfl | (simp [errW_none, errW_some] <;> rfl) | (simp [*, errW_none, errW_some] <;> rfl), bel_⟩
         ·
          rw [if_neg c13] at H
          exact absurd H (by simp)
        ·
         replace c12 := Bool.eq_false_iff.mpr c12
         subst c12
         have H1 : (none) = some r := by rw [if_neg (show ¬ (false = true) by decide)] at H; exact H
         clear H
         have H := H1
         clear H1
         exact absurd H (by simp)
       ·
        replace c10 := Bool.eq_false_iff.mpr c10
        subst c10
        have H1 : (none) = some r := by rw [if_neg (show ¬ (false = true) by decide)] at H; exact H
        clear H
        have H := H1
        clear H1
        exact absurd H (by simp)
      ·
       replace c8 := Bool.eq_false_iff.mpr c8
       subst c8
       have H1 : (none) = some r := by rw [if_neg (show ¬ (false = true) by decide)] at H; exact H
       clear H
       have H := H1
       clear H1
       exact absurd H (by simp)

/-! ### model_counts: function 81 -/
def model_counts.f (a0_0 : Int) (l0_1 : List Int) (l0_2 : List Int) (l0_3 : List Int) (l0_4 : List Int) (l0_5 : List Int) (a0_6 : Int) (l0_7 : List (List Int)) : Option (Bool) := if a0_0 = 21 then (none) else (some true)
set_option maxHeartbeats 8000000 in
set_option maxRecDepth 100000 in
theorem model_counts.calls (a0_0 : Int) (A0_1 : Option Addr) (c0_1 : Nat) (l0_1 : List Int) (A0_2 : Option Addr) (c0_2 : Nat) (l0_2 : List Int) (A0_3 : Option Addr) (c0_3 : Nat) (l0_3 : List Int) (A0_4 : Option Addr) (c0_4 : Nat) (l0_4 : List Int) (A0_5 : Option Addr) (c0_5 : Nat) (l0_5 : List Int) (a0_6 : Int) (A0_7 : Option Addr) (c0_7 : Nat) (l0_7 : List (List Int)) (r : Bool) (w : World) (hr0_1 : Kd.C (Kd.int .i64) w A0_1 l0_1.length l0_1) (hc0_1 : l0_1.length ≤ c0_1) (hr0_2 : Kd.C (Kd.int .i64) w A0_2 l0_2.length l0_2) (hc0_2 : l0_2.length ≤ c0_2) (hr0_3 : Kd.C (Kd.int .i64) w A0_3 l0_3.length l0_3) (hc0_3 : l0_3.length ≤ c0_3) (hr0_4 : Kd.C (Kd.int .i64) w A0_4 l0_4.length l0_4) (hc0_4 : l0_4.length ≤ c0_4) (hr0_5 : Kd.C (Kd.int .i64) w A0_5 l0_5.length l0_5) (hc0_5 : l0_5.length ≤ c0_5) (hr0_7 : Kd.C (Kd.slice 3 (Kd.int .i64)) w A0_7 l0_7.length l0_7) (hc0_7 : l0_7.length ≤ c0_7) (h : model_counts.f a0_0 l0_1 l0_2 l0_3 l0_4 l0_5 a0_6 l0_7 = some r) :
  Calls Tryz.prog 81 #[.agg #[.int .i64 a0_0, .slice A0_1 l0_1.length c0_1, .slice A0_2 l0_2.length c0_2, .slice A0_3 l0_3.length c0_3, .slice A0_4 l0_4.length c0_4, .slice A0_5 l0_5.length c0_5, .int .i64 a0_6, .slice A0_7 l0_7.length c0_7]] w fun e w' => e = .returned (.bool r) ∧ Below w.heap.size w w' := by
 have hu32 := Tryz.underlying32
 have HC0_1 := Aside0.mk hc0_1
 clear hr0_1 hc0_1
 have HC0_2 := Aside0.mk hc0_2
 clear hr0_2 hc0_2
 have HC0_3 := Aside0.mk hc0_3
 clear hr0_3 hc0_3
 have HC0_4 := Aside0.mk hc0_4
 clear hr0_4 hc0_4
 have HC0_5 := Aside0.mk hc0_5
 clear hr0_5 hc0_5
 have HC0_7 := Aside0.mk hc0_7
 clear hr0_7 hc0_7
 have HB := Aside0.mk (Below.refl w.heap.size w)
 have H : (if a0_0 = 21 then (none) else (some true)) = some r := h
 clear h
 by_cases c2 : a0_0 = 21
 ·
  rw [if_pos c2] at H
  exact absurd H (by simp)
 ·
  rw [if_neg c2] at H
  have c2b0 : (a0_0 == 21) = false := beq_eq_false_iff_ne.mpr c2
  have c2b1 : (a0_0 != 21) = true := bne_iff_ne.mpr c2
  obtain rfl := Option.some.inj H
  go_enter Tryz.func81, Tryz.ntmps81
  go_wp2_with (first | ((with_reducible refine gate_dst (N := 1) rfl ?_); refine bxe_ (N := 1) (cs := #[.int .i64 a0_0, .slice A0_1 l0_1.length c0_1, .slice A0_2 l0_2.length c0_2, .slice A0_3 l0_3.length c0_3, .slice A0_4 l0_4.length c0_4, .slice A0_5 l0_5.length c0_5, .int .i64 a0_6, .slice A0_7 l0_7.length c0_7]) (t := 32) ?_; intro gb275 hg w3 hbox hb; have BK275 := Aside0.mk (hbox); have GW275 := Aside0.mk (by rw [hg]; exact (below_size bel_) : w.heap.size ≤ gb275); have GE275 := GW275; replace HB := Aside0.mk (below_step bel_ hb); clear hb hbox hg; obtain ⟨hcz4_0, hcz4_1, hcz4_2, hcz4_3, hcz4_4, hcz4_5, hcz4_6, hcz4_7, hfz4_0, hfz4_1, hfz4_2, hfz4_3, hfz4_4, hfz4_5, hfz4_6, hfz4_7⟩ := cel8_ BK275.out))
  repeat (go_quiet (first | ((with_reducible refine gate_dst (N := 1) rfl ?_); refine bxe_ (N := 1) (cs := #[.int .i64 a0_0, .slice A0_1 l0_1.length c0_1, .slice A0_2 l0_2.length c0_2, .slice A0_3 l0_3.length c0_3, .slice A0_4 l0_4.length c0_4, .slice A0_5 l0_5.length c0_5, .int .i64 a0_6, .slice A0_7 l0_7.length c0_7]) (t := 32) ?_; intro gb275 hg w3 hbox hb; have BK275 := Aside0.mk (hbox); have GW275 := Aside0.mk (by rw [hg]; exact (below_size bel_) : w.heap.size ≤ gb275); have GE275 := GW275; replace HB := Aside0.mk (below_step bel_ hb); clear hb hbox hg; obtain ⟨hcz4_0, hcz4_1, hcz4_2, hcz4_3, hcz4_4, hcz4_5, hcz4_6, hcz4_7, hfz4_0, hfz4_1, hfz4_2, hfz4_3, hfz4_4, hfz4_5, hfz4_6, hfz4_7⟩ := cel8_ BK275.out)); try go_wp2_with (first | ((with_reducible refine gate_dst (N := 1) rfl ?_); refine bxe_ (N := 1) (cs := #[.int .i64 a0_0, .slice A0_1 l0_1.length c0_1, .slice A0_2 l0_2.length c0_2, .slice A0_3 l0_3.length c0_3, .slice A0_4 l0_4.length c0_4, .slice A0_5 l0_5.length c0_5, .int .i64 a0_6, .slice A0_7 l0_7.length c0_7]) (t := 32) ?_; intro gb275 hg w3 hbox hb; have BK275 := Aside0.mk (hbox); have GW275 := Aside0.mk (by rw [hg]; exact (below_size bel_) : w.heap.size ≤ gb275); have GE275 := GW275; replace HB := Aside0.mk (below_step bel_ hb); clear hb hbox hg; obtain ⟨hcz4_0, hcz4_1, hcz4_2, hcz4_3, hcz4_4, hcz4_5, hcz4_6, hcz4_7, hfz4_0, hfz4_1, hfz4_2, hfz4_3, hfz4_4, hfz4_5, hfz4_6, hfz4_7⟩ := cel8_ BK275.out)))
  go_ret
  exact ⟨by first | rfl | (simp [errW_none, errW_some] <;> rfl) | (simp [*, errW_none, errW_some] <;> rfl), bel_⟩

/-! ### slices_IndexFunc_int_int_83_at_model_Right_1: function 83 -/
def slices_IndexFunc_int_int_83_at_model_Right_1.l0 : Nat → List Int → Int → Int → Int → Option (Int)
 | 0, _, _, _, _ => none
 | k + 1, x0, x7, x8, x7003000 => if x8 < x7 then (if 0 ≤ x8 then (if x8 < (x0.length : Int) then ((model_Right_1.f (rd x0 x8) x7003000).bind fun t277 => (if t277 = true then (some x8) else (slices_IndexFunc_int_int_83_at_model_Right_1.l0 k x0 x7 (wrap64 (x8 + 1)) x7003000))) else (none)) else (none)) else (some (-1))
def slices_IndexFunc_int_int_83_at_model_Right_1.f (k : Nat) (l0 : List Int)  (a2_0 : Int) : Option (Int) := slices_IndexFunc_int_int_83_at_model_Right_1.l0 k l0 (l0.length : Int) 0 a2_0
theorem slices_IndexFunc_int_int_83_at_model_Right_1.mono_l : ∀ k, (∀ y0 y1 y2 y3, LeO (slices_IndexFunc_int_int_83_at_model_Right_1.l0 k y0 y1 y2 y3) (slices_IndexFunc_int_int_83_at_model_Right_1.l0 (k + 1) y0 y1 y2 y3))
 | 0 => fun _ _ _ _ r h => by simp [slices_IndexFunc_int_int_83_at_model_Right_1.l0] at h
 | k + 1 => by
  have ih0 := slices_IndexFunc_int_int_83_at_model_Right_1.mono_l k
  ·
   intro y0 y1 y2 y3
   unfold slices_IndexFunc_int_int_83_at_model_Right_1.l0
   exact leo_
theorem slices_IndexFunc_int_int_83_at_model_Right_1.mono : ∀ a0 a1 k, LeO (slices_IndexFunc_int_int_83_at_model_Right_1.f k a0 a1) (slices_IndexFunc_int_int_83_at_model_Right_1.f (k + 1) a0 a1) := by
 intro a0 a1 k
 have ih0 := slices_IndexFunc_int_int_83_at_model_Right_1.mono_l k
 unfold slices_IndexFunc_int_int_83_at_model_Right_1.f
 exact leo_
set_option maxHeartbeats 8000000 in
set_option maxRecDepth 100000 in
theorem slices_IndexFunc_int_int_83_at_model_Right_1.calls (k : Nat) (A0 : Option Addr) (c0 : Nat) (l0 : List Int)  (B2 : Nat) (a2_0 : Int) (r : Int) (w : World) (hr0 : Kd.C (Kd.int .i64) w A0 l0.length l0) (hc0 : l0.length ≤ c0) (hbx2 : w.heap[B2]? = some (.cells #[.int .i64 a2_0] 3 (0, 0))) (h : slices_IndexFunc_int_int_83_at_model_Right_1.f k l0 a2_0 = some r) :
  Calls Tryz.prog 83 #[.slice A0 l0.length c0, .func (.func 79) #[] #[.pointer (some ⟨B2, 0, none⟩)]] w fun e w' => e = .returned (.int .i64 r) ∧ Drawn0 w w' := by
 have HR0 := Aside0.mk hr0
 have HC0 := Aside0.mk hc0
 clear hr0 hc0
 have BKc2 := Aside0.mk hbx2
 clear hbx2
 have H : (slices_IndexFunc_int_int_83_at_model_Right_1.l0 k l0 (l0.length : Int) 0 a2_0) = some r := h
 clear h
 have H' := Aside0.mk H
 clear H
 go_enter Tryz.func83, Tryz.ntmps83
 go_wp2
 go_loopg [8] k (fun kq v8 w' => ∃ (x8_1 : Int), v8 = .int .i64 x8_1 ∧ Aside0 (slices_IndexFunc_int_int_83_at_model_Right_1.l0 kq l0 (l0.length : Int) x8_1 a2_0 = some r) ∧ Aside0 (kq ≤ k) ∧ Aside0 (w'.heap[B2]? = some (.cells #[.int .i64 a2_0] 3 (0, 0))) ∧ Drawn0 w w')
 case atStart => exact ⟨(0), eq_, H', ⟨Nat.le_refl _⟩, ⟨by refine bk_ ?_; exact BKc2.out⟩, by repeat (first | exact Drawn0.refl _ | apply Drawn0.step)⟩
 case round =>
  clear H'
  try clear c2
  try clear p2
  obtain ⟨x8_1, rfl, HA, HK1, BKc2, ⟨m1, rfl⟩⟩ := hrel
  cases gk with
  | zero => exact absurd HA.out (by simp [slices_IndexFunc_int_int_83_at_model_Right_1.l0])
  | succ k1 =>
   have H := HA.out
   clear HA
   simp only [slices_IndexFunc_int_int_83_at_model_Right_1.l0] at H
   by_cases c4 : x8_1 < (l0.length : Int)
   ·
    rw [if_pos c4] at H
    have c4b0 : decide (x8_1 < (l0.length : Int)) = true := decide_eq_true c4
    clear c4
    by_cases c5 : 0 ≤ x8_1
    ·
     rw [if_pos c5] at H
     have c5b0 : decide (0 ≤ x8_1) = true := decide_eq_true c5
     clear c5
     by_cases c6 : x8_1 < (l0.length : Int)
     ·
      rw [if_pos c6] at H
      have c6b0 : decide (x8_1 < (l0.length : Int)) = true := decide_eq_true c6
      clear c6
      replace H := Option.bind_eq_some_iff.mp H
      obtain ⟨t277, A70, H⟩ := H
      try dsimp only at H
      have A7 := Aside0.mk A70
      clear A70
      by_cases c8 : t277 = true
      ·
       subst c8
       have H1 : (some x8_1) = some r := by rw [if_pos rfl] at H; exact H
       clear H
       have H := H1
       clear H1
       obtain rfl := Option.some.inj H
       have p276 : 0 ≤ (x8_1 : Int) := dq_
       have q276 : x8_1 < (l0.length : Int) := dq_
       obtain ⟨ad276, e276, hx276_0⟩ := Kd.at_int HR0.out x8_1 p276 q276
       cases e276
       replace p276 := eq_true p276
       replace q276 := eq_true q276
       go_wp2_with (first | (go_at_call 79; (with_reducible refine (model_Right_1.calls (rd l0 x8_1) B2 a2_0 true _ ?side1 A7.out).mono ?_); (case side1 => exact by refine bk_ ?_; exact BKc2.out); rintro e w' ⟨rfl, ⟨nd, rfl⟩⟩))
       go_ret
       exact ⟨by first | rfl | (simp; done) | (simp [*]; done), by repeat (first | exact Drawn0.refl _ | apply Drawn0.step)⟩
      ·
       replace c8 := Bool.eq_false_iff.mpr c8
       subst c8
       have H1 : (slices_IndexFunc_int_int_83_at_model_Right_1.l0 k1 l0 (l0.length : Int) (wrap64 (x8_1 + 1)) a2_0) = some r := by rw [if_neg (show ¬ (false = true) by decide)] at H; exact H
       clear H
       have H := H1
       clear H1
       have H' := Aside0.mk H
       clear H
       have p276 : 0 ≤ (x8_1 : Int) := dq_
       have q276 : x8_1 < (l0.length : Int) := dq_
       obtain ⟨ad276, e276, hx276_0⟩ := Kd.at_int HR0.out x8_1 p276 q276
       cases e276
       replace p276 := eq_true p276
       replace q276 := eq_true q276
       go_wp2_with (first | (go_at_call 79; (with_reducible refine (model_Right_1.calls (rd l0 x8_1) B2 a2_0 false _ ?side1 A7.out).mono ?_); (case side1 => exact by refine bk_ ?_; exact BKc2.out); rintro e w' ⟨rfl, ⟨nd, rfl⟩⟩))
       go_roundg k1
       case measure => have := HK1.out; omega
       case rel => exact ⟨(wrap64 (x8_1 + 1)), eq_, H', ⟨by have := HK1.out; omega⟩, ⟨by refine bk_ ?_; exact BKc2.out⟩, by repeat (first | exact Drawn0.refl _ | apply Drawn0.step)⟩
     ·
      rw [if_neg c6] at H
      exact absurd H (by simp)
    ·
     rw [if_neg c5] at H
     exact absurd H (by simp)
   ·
    rw [if_neg c4] at H
    have c4b0 : decide (x8_1 < (l0.length : Int)) = false := decide_eq_false c4
    clear c4
    obtain rfl := Option.some.inj H
    go_wp2
    go_ret
    exact ⟨by first | rfl | (simp; done) | (simp [*]; done), by repeat (first | exact Drawn0.refl _ | apply Drawn0.step)⟩

/-! ### slices_ContainsFunc_int_int_60_at_model_Right_1: function 60 -/
def slices_ContainsFunc_int_int_60_at_model_Right_1.f (k : Nat) (l0 : List Int)  (a2_0 : Int) : Option (Bool) := (slices_IndexFunc_int_int_83_at_model_Right_1.f k l0 a2_0).bind fun t278 => (some (decide (t278 ≥ 0)))
theorem slices_ContainsFunc_int_int_60_at_model_Right_1.mono : ∀ a0 a1 k, LeO (slices_ContainsFunc_int_int_60_at_model_Right_1.f k a0 a1) (slices_ContainsFunc_int_int_60_at_model_Right_1.f (k + 1) a0 a1) := by
 intro a0 a1 k
 unfold slices_ContainsFunc_int_int_60_at_model_Right_1.f
 have m0 := @slices_IndexFunc_int_int_83_at_model_Right_1.mono
 exact leo_
set_option maxHeartbeats 8000000 in
set_option maxRecDepth 100000 in
theorem slices_ContainsFunc_int_int_60_at_model_Right_1.calls (k : Nat) (A0 : Option Addr) (c0 : Nat) (l0 : List Int)  (B2 : Nat) (a2_0 : Int) (r : Bool) (w : World) (hr0 : Kd.C (Kd.int .i64) w A0 l0.length l0) (hc0 : l0.length ≤ c0) (hbx2 : w.heap[B2]? = some (.cells #[.int .i64 a2_0] 3 (0, 0))) (h : slices_ContainsFunc_int_int_60_at_model_Right_1.f k l0 a2_0 = some r) :
  Calls Tryz.prog 60 #[.slice A0 l0.length c0, .func (.func 79) #[] #[.pointer (some ⟨B2, 0, none⟩)]] w fun e w' => e = .returned (.bool r) ∧ Drawn0 w w' := by
 have HR0 := Aside0.mk hr0
 have HC0 := Aside0.mk hc0
 clear hr0 hc0
 have BKc2 := Aside0.mk hbx2
 clear hbx2
 have H : ((slices_IndexFunc_int_int_83_at_model_Right_1.f k l0 a2_0).bind fun t278 => (some (decide (t278 ≥ 0)))) = some r := h
 clear h
 replace H := Option.bind_eq_some_iff.mp H
 obtain ⟨t278, A40, H⟩ := H
 try dsimp only at H
 have A4 := Aside0.mk A40
 clear A40
 obtain rfl := Option.some.inj H
 go_enter Tryz.func60, Tryz.ntmps60
 go_wp2_with (first | ((with_reducible refine gate_callee (f := 83) rfl ?_); refine goesL_ (some 7) rfl rfl Tryz.func83 (by kernel_rfl) rfl #[.slice A0 l0.length c0, .func (.func 79) #[] #[.pointer (some ⟨B2, 0, none⟩)]] rfl ar_ ?_; (with_reducible refine (slices_IndexFunc_int_int_83_at_model_Right_1.calls k _ _ l0 B2 a2_0 t278 _ ?side1 ?side2 ?side3 A4.out).mono ?_); (case side1 => exact ca_ (HR0.out)); (case side2 => exact HC0.out); (case side3 => exact by refine bk_ ?_; exact BKc2.out); rintro e w' ⟨rfl, ⟨nd, rfl⟩⟩; refine ⟨_, rfl, ?_⟩))
 go_ret
 exact ⟨by first | rfl | (simp; done) | (simp [*]; done), by repeat (first | exact Drawn0.refl _ | apply Drawn0.step)⟩

end Go.Proofs.YtmhchlbbfpmdgaaGreatDoor.XClauseKeeps
