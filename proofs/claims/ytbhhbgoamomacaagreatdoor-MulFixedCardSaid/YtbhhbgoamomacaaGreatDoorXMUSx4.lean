-- by xprint.py, a program of this session, over the kit's print
import Derived.Test.YtbhhbgoamomacaaGreatDoorXMUSx0
import Derived.Test.YtbhhbgoamomacaaGreatDoorXMUSx1
import Derived.Test.YtbhhbgoamomacaaGreatDoorXMUSx2
import Derived.Test.YtbhhbgoamomacaaGreatDoorXMUSx3
import Derived.Test.YtbhhbgoamomacaaGreatDoorSq
namespace Go.Proofs.YtbhhbgoamomacaaGreatDoor.XMulFixed
open Go.RowKit Go.Proofs.YtbhhbgoamomacaaGreatDoor.Sq Go.Proofs.YtbhhbgoamomacaaGreatDoorW.PrintWords Go.Proofs.YtbhhbgoamomacaaGreatDoorW.PrintLast Go.Proofs.YtbhhbgoamomacaaGreatDoorW.PrintMore
attribute [local go_sem] max2_int min2_int max_two min_two max_three min_three max_four min_four   -- for this text's walks alone
set_option linter.unusedVariables false
set_option linter.unusedSimpArgs false

/-! ### model_Right: function 63 -/
def model_Right.f (k : Nat) (a0_0 : Int) (l0_1 : List Int) (l0_2 : List Int) (l0_3 : List Int) (l0_4 : List Int) (l0_5 : List Int) (a0_6 : Int) (l0_7 : List (List Int)) (a1 : Int) : Option (Int) := (model_Shape.f a0_0).bind fun t160 => (if t160.toList = ([] : List UInt8) then (none) else ((model_counted.f a0_0 l0_1 l0_2 l0_3 l0_4 l0_5 a0_6 l0_7 t160).bind fun t161 => (if t161 = true then ((model_alike.f a0_0 l0_1 l0_2 l0_3 l0_4 l0_5 a0_6 l0_7).bind fun t162 => (if t162 = true then (if a0_6 = 0 then ((model_Vars.f k a0_0 l0_1 l0_2 l0_3 l0_4 l0_5 a0_6 l0_7).bind fun t163 => ((slices_ContainsFunc_int_int_70_at_model_Right_1.f k t163 a1).bind fun t166 => (if t166 = true then (none) else ((model_numbers.f k a0_0 l0_1 l0_2 l0_3 l0_4 l0_5 a0_6 l0_7).bind fun t167 => (if t167 = true then ((model_counts.f a0_0 l0_1 l0_2 l0_3 l0_4 l0_5 a0_6 l0_7).bind fun t168 => (if t168 = true then (some 0) else (none))) else (none)))))) else (none)) else (none))) else (none))))
theorem model_Right.mono : ∀ a0 a1 a2 a3 a4 a5 a6 a7 a8 k, LeO (model_Right.f k a0 a1 a2 a3 a4 a5 a6 a7 a8) (model_Right.f (k + 1) a0 a1 a2 a3 a4 a5 a6 a7 a8) := by
 intro a0 a1 a2 a3 a4 a5 a6 a7 a8 k
 unfold model_Right.f
 have m0 := @model_Vars.mono
 have m1 := @model_numbers.mono
 have m2 := @slices_ContainsFunc_int_int_70_at_model_Right_1.mono
 exact leo_
set_option maxHeartbeats 8000000 in
set_option maxRecDepth 100000 in
theorem model_Right.calls (k : Nat) (a0_0 : Int) (A0_1 : Option Addr) (c0_1 : Nat) (l0_1 : List Int) (A0_2 : Option Addr) (c0_2 : Nat) (l0_2 : List Int) (A0_3 : Option Addr) (c0_3 : Nat) (l0_3 : List Int) (A0_4 : Option Addr) (c0_4 : Nat) (l0_4 : List Int) (A0_5 : Option Addr) (c0_5 : Nat) (l0_5 : List Int) (a0_6 : Int) (A0_7 : Option Addr) (c0_7 : Nat) (l0_7 : List (List Int)) (a1 : Int) (r : Int) (w : World) (hr0_1 : Kd.C (Kd.int .i64) w A0_1 l0_1.length l0_1) (hc0_1 : l0_1.length ≤ c0_1) (hr0_2 : Kd.C (Kd.int .i64) w A0_2 l0_2.length l0_2) (hc0_2 : l0_2.length ≤ c0_2) (hr0_3 : Kd.C (Kd.int .i64) w A0_3 l0_3.length l0_3) (hc0_3 : l0_3.length ≤ c0_3) (hr0_4 : Kd.C (Kd.int .i64) w A0_4 l0_4.length l0_4) (hc0_4 : l0_4.length ≤ c0_4) (hr0_5 : Kd.C (Kd.int .i64) w A0_5 l0_5.length l0_5) (hc0_5 : l0_5.length ≤ c0_5) (hr0_7 : Kd.C (Kd.slice 3 (Kd.int .i64)) w A0_7 l0_7.length l0_7) (hc0_7 : l0_7.length ≤ c0_7) (h : model_Right.f k a0_0 l0_1 l0_2 l0_3 l0_4 l0_5 a0_6 l0_7 a1 = some r) :
  Calls Tryz.prog 63 #[.agg #[.int .i64 a0_0, .slice A0_1 l0_1.length c0_1, .slice A0_2 l0_2.length c0_2, .slice A0_3 l0_3.length c0_3, .slice A0_4 l0_4.length c0_4, .slice A0_5 l0_5.length c0_5, .int .i64 a0_6, .slice A0_7 l0_7.length c0_7], .int .i64 a1] w fun e w' => e = .returned (.int .i64 r) ∧ Below w.heap.size w w' := by
 have hu32 := Tryz.underlying32
 have HR0_1 := Aside0.mk hr0_1
 have HC0_1 := Aside0.mk hc0_1
 clear hr0_1 hc0_1
 have HR0_2 := Aside0.mk hr0_2
 have HC0_2 := Aside0.mk hc0_2
 clear hr0_2 hc0_2
 have HR0_3 := Aside0.mk hr0_3
 have HC0_3 := Aside0.mk hc0_3
 clear hr0_3 hc0_3
 have HR0_4 := Aside0.mk hr0_4
 have HC0_4 := Aside0.mk hc0_4
 clear hr0_4 hc0_4
 have HR0_5 := Aside0.mk hr0_5
 have HC0_5 := Aside0.mk hc0_5
 clear hr0_5 hc0_5
 have HR0_7 := Aside0.mk hr0_7
 have HC0_7 := Aside0.mk hc0_7
 clear hr0_7 hc0_7
 have HB := Aside0.mk (Below.refl w.heap.size w)
 have H : ((model_Shape.f a0_0).bind fun t160 => (if t160.toList = ([] : List UInt8) then (none) else ((model_counted.f a0_0 l0_1 l0_2 l0_3 l0_4 l0_5 a0_6 l0_7 t160).bind fun t161 => (if t161 = true then ((model_alike.f a0_0 l0_1 l0_2 l0_3 l0_4 l0_5 a0_6 l0_7).bind fun t162 => (if t162 = true then (if a0_6 = 0 then ((model_Vars.f k a0_0 l0_1 l0_2 l0_3 l0_4 l0_5 a0_6 l0_7).bind fun t163 => ((slices_ContainsFunc_int_int_70_at_model_Right_1.f k t163 a1).bind fun t166 => (if t166 = true then (none) else ((model_numbers.f k a0_0 l0_1 l0_2 l0_3 l0_4 l0_5 a0_6 l0_7).bind fun t167 => (if t167 = true then ((model_counts.f a0_0 l0_1 l0_2 l0_3 l0_4 l0_5 a0_6 l0_7).bind fun t168 => (if t168 = true then (some 0) else (none))) else (none)))))) else (none)) else (none))) else (none))))) = some r := h
 clear h
 replace H := Option.bind_eq_some_iff.mp H
 obtain ⟨t160, A30, H⟩ := H
 try dsimp only at H
 have A3 := Aside0.mk A30
 clear A30
 by_cases c4 : t160.toList = ([] : List UInt8)
 ·
  rw [if_pos c4] at H
  exact absurd H (by simp)
 ·
  rw [if_neg c4] at H
  have c4b0 : (t160.toList == ([] : List UInt8)) = false := beq_eq_false_iff_ne.mpr c4
  have c4b1 : (t160.toList != ([] : List UInt8)) = true := bne_iff_ne.mpr c4
  replace H := Option.bind_eq_some_iff.mp H
  obtain ⟨t161, A50, H⟩ := H
  try dsimp only at H
  have A5 := Aside0.mk A50
  clear A50
  by_cases c6 : t161 = true
  ·
   subst c6
   have H1 : ((model_alike.f a0_0 l0_1 l0_2 l0_3 l0_4 l0_5 a0_6 l0_7).bind fun t162 => (if t162 = true then (if a0_6 = 0 then ((model_Vars.f k a0_0 l0_1 l0_2 l0_3 l0_4 l0_5 a0_6 l0_7).bind fun t163 => ((slices_ContainsFunc_int_int_70_at_model_Right_1.f k t163 a1).bind fun t166 => (if t166 = true then (none) else ((model_numbers.f k a0_0 l0_1 l0_2 l0_3 l0_4 l0_5 a0_6 l0_7).bind fun t167 => (if t167 = true then ((model_counts.f a0_0 l0_1 l0_2 l0_3 l0_4 l0_5 a0_6 l0_7).bind fun t168 => (if t168 = true then (some 0) else (none))) else (none)))))) else (none)) else (none))) = some r := by rw [if_pos rfl] at H; exact H
   clear H
   have H := H1
   clear H1
   replace H := Option.bind_eq_some_iff.mp H
   obtain ⟨t162, A70, H⟩ := H
   try dsimp only at H
   have A7 := Aside0.mk A70
   clear A70
   by_cases c8 : t162 = true
   ·
    subst c8
    have H1 : (if a0_6 = 0 then ((model_Vars.f k a0_0 l0_1 l0_2 l0_3 l0_4 l0_5 a0_6 l0_7).bind fun t163 => ((slices_ContainsFunc_int_int_70_at_model_Right_1.f k t163 a1).bind fun t166 => (if t166 = true then (none) else ((model_numbers.f k a0_0 l0_1 l0_2 l0_3 l0_4 l0_5 a0_6 l0_7).bind fun t167 => (if t167 = true then ((model_counts.f a0_0 l0_1 l0_2 l0_3 l0_4 l0_5 a0_6 l0_7).bind fun t168 => (if t168 = true then (some 0) else (none))) else (none)))))) else (none)) = some r := by rw [if_pos rfl] at H; exact H
    clear H
    have H := H1
    clear H1
    by_cases c9 : a0_6 = 0
    ·
     rw [if_pos c9] at H
     have c9b0 : (a0_6 == 0) = true := beq_iff_eq.mpr c9
     have c9b1 : (a0_6 != 0) = false := bne_eq_false_iff_eq.mpr c9
     clear c9
     replace H := Option.bind_eq_some_iff.mp H
     obtain ⟨t163, A100, H⟩ := H
     try dsimp only at H
     have A10 := Aside0.mk A100
     clear A100
     replace H := Option.bind_eq_some_iff.mp H
     obtain ⟨t166, A110, H⟩ := H
     try dsimp only at H
     have A11 := Aside0.mk A110
     clear A110
     by_cases c12 : t166 = true
     ·
      subst c12
      have H1 : (none) = some r := by rw [if_pos rfl] at H; exact H
      clear H
      have H := H1
      clear H1
      exact absurd H (by simp)
     ·
      replace c12 := Bool.eq_false_iff.mpr c12
      subst c12
      have H1 : ((model_numbers.f k a0_0 l0_1 l0_2 l0_3 l0_4 l0_5 a0_6 l0_7).bind fun t167 => (if t167 = true then ((model_counts.f a0_0 l0_1 l0_2 l0_3 l0_4 l0_5 a0_6 l0_7).bind fun t168 => (if t168 = true then (some 0) else (none))) else (none))) = some r := by rw [if_neg (show ¬ (false = true) by decide)] at H; exact H
      clear H
      have H := H1
      clear H1
      replace H := Option.bind_eq_some_iff.mp H
      obtain ⟨t167, A130, H⟩ := H
      try dsimp only at H
      have A13 := Aside0.mk A130
      clear A130
      by_cases c14 : t167 = true
      ·
       subst c14
       have H1 : ((model_counts.f a0_0 l0_1 l0_2 l0_3 l0_4 l0_5 a0_6 l0_7).bind fun t168 => (if t168 = true then (some 0) else (none))) = some r := by rw [if_pos rfl] at H; exact H
       clear H
       have H := H1
       clear H1
       replace H := Option.bind_eq_some_iff.mp H
       obtain ⟨t168, A150, H⟩ := H
       try dsimp only at H
       have A15 := Aside0.mk A150
       clear A150
       by_cases c16 : t168 = true
       ·
        subst c16
        have H1 : (some 0) = some r := by rw [if_pos rfl] at H; exact H
        clear H
        have H := H1
        clear H1
        obtain rfl := Option.some.inj H
        go_enter Tryz.func63, Tryz.ntmps63
        go_wp2_with (first | ((with_reducible refine gate_dst (N := 2) rfl ?_); refine bxe_ (N := 2) (cs := #[.int .i64 a0_0, .slice A0_1 l0_1.length c0_1, .slice A0_2 l0_2.length c0_2, .slice A0_3 l0_3.length c0_3, .slice A0_4 l0_4.length c0_4, .slice A0_5 l0_5.length c0_5, .int .i64 a0_6, .slice A0_7 l0_7.length c0_7]) (t := 32) ?_; intro gb158 hg w17 hbox hb; have BK158 := Aside0.mk (hbox); have GW158 := Aside0.mk (by rw [hg]; exact (below_size bel_) : w.heap.size ≤ gb158); have GE158 := GW158; replace HB := Aside0.mk (below_step bel_ hb); clear hb hbox hg) | ((with_reducible refine gate_dst (N := 3) rfl ?_); refine bxe_ (N := 3) (cs := #[.int .i64 a1]) (t := 3) ?_; intro gb159 hg w18 hbox hb; have BK159 := Aside0.mk (hbox); have GW159 := Aside0.mk (by rw [hg]; exact (below_size bel_) : w.heap.size ≤ gb159); have GE159 := GW159; replace HB := Aside0.mk (below_step bel_ hb); have NB158_159 := Aside0.mk ((by rw [hg]; exact Nat.ne_of_lt (blk_lt (bk_ BK158.out)) : gb158 ≠ gb159)); have NB159_158 := Aside0.mk ((by rw [hg]; exact Nat.ne_of_gt (blk_lt (bk_ BK158.out)) : gb159 ≠ gb158)); replace BK158 := Aside0.mk (blk_below (bk_ BK158.out) hb); clear hb hbox hg; have hnb19 := NB158_159.out; have hnc19 := NB159_158.out; obtain ⟨_, _, _, _, _, _, _, _, _, _, _, _, _, _, _, _⟩ := cel8_ BK158.out) | ((with_reducible refine gate_callee (f := 87) rfl ?_); refine goesL_ (some 8) rfl rfl Tryz.func87 (by kernel_rfl) rfl #[.int .i64 a0_0] rfl ar_ ?_; (with_reducible refine (model_Shape.calls a0_0 t160 _ A3.out).mono ?_); rintro e w21 ⟨rfl, hb⟩; refine ⟨_, rfl, ?_⟩; replace BK158 := Aside0.mk (blk_below (bk_ BK158.out) hb); replace BK159 := Aside0.mk (blk_below (bk_ BK159.out) hb); replace HB := Aside0.mk (below_step bel_ hb); clear hb; obtain ⟨_, _, _, _, _, _, _, _, _, _, _, _, _, _, _, _⟩ := cel8_ BK158.out) | ((with_reducible refine gate_callee (f := 88) rfl ?_); refine goesL_ (some 15) rfl rfl Tryz.func88 (by kernel_rfl) rfl #[.agg #[.int .i64 a0_0, .slice A0_1 l0_1.length c0_1, .slice A0_2 l0_2.length c0_2, .slice A0_3 l0_3.length c0_3, .slice A0_4 l0_4.length c0_4, .slice A0_5 l0_5.length c0_5, .int .i64 a0_6, .slice A0_7 l0_7.length c0_7], .string t160] rfl ar_ ?_; (with_reducible refine (model_counted.calls a0_0 _ _ l0_1 _ _ l0_2 _ _ l0_3 _ _ l0_4 _ _ l0_5 a0_6 _ _ l0_7 t160 true _ ?_ ?_ ?_ ?_ ?_ ?_ ?_ ?_ ?_ ?_ ?_ ?_ A5.out).mono ?_); exact ca_ ((Kd.C_below HR0_1.out HB.out)); exact HC0_1.out; exact ca_ ((Kd.C_below HR0_2.out HB.out)); exact HC0_2.out; exact ca_ ((Kd.C_below HR0_3.out HB.out)); exact HC0_3.out; exact ca_ ((Kd.C_below HR0_4.out HB.out)); exact HC0_4.out; exact ca_ ((Kd.C_below HR0_5.out HB.out)); exact HC0_5.out; exact ca_ ((Kd.C_below HR0_7.out HB.out)); exact HC0_7.out; rintro e w23 ⟨rfl, hb⟩; refine ⟨_, rfl, ?_⟩; replace BK158 := Aside0.mk (blk_below (bk_ BK158.out) hb); replace BK159 := Aside0.mk (blk_below (bk_ BK159.out) hb); replace HB := Aside0.mk (below_step bel_ hb); clear hb; obtain ⟨_, _, _, _, _, _, _, _, _, _, _, _, _, _, _, _⟩ := cel8_ BK158.out) | (go_at_call 89; (with_reducible refine (model_alike.calls a0_0 _ _ l0_1 _ _ l0_2 _ _ l0_3 _ _ l0_4 _ _ l0_5 a0_6 _ _ l0_7 true _ ?_ ?_ ?_ ?_ ?_ ?_ ?_ ?_ ?_ ?_ ?_ ?_ A7.out).mono ?_); exact ca_ ((Kd.C_below HR0_1.out HB.out)); exact HC0_1.out; exact ca_ ((Kd.C_below HR0_2.out HB.out)); exact HC0_2.out; exact ca_ ((Kd.C_below HR0_3.out HB.out)); exact HC0_3.out; exact ca_ ((Kd.C_below HR0_4.out HB.out)); exact HC0_4.out; exact ca_ ((Kd.C_below HR0_5.out HB.out)); exact HC0_5.out; exact ca_ ((Kd.C_below HR0_7.out HB.out)); exact HC0_7.out; rintro e w25 ⟨rfl, hb⟩; replace BK158 := Aside0.mk (blk_below (bk_ BK158.out) hb); replace BK159 := Aside0.mk (blk_below (bk_ BK159.out) hb); replace HB := Aside0.mk (below_step bel_ hb); clear hb; obtain ⟨_, _, _, _, _, _, _, _, _, _, _, _, _, _, _, _⟩ := cel8_ BK158.out) | ((with_reducible refine gate_callee (f := 91) rfl ?_); refine goesL_ (some 34) rfl rfl Tryz.func91 (by kernel_rfl) rfl #[.agg #[.int .i64 a0_0, .slice A0_1 l0_1.length c0_1, .slice A0_2 l0_2.length c0_2, .slice A0_3 l0_3.length c0_3, .slice A0_4 l0_4.length c0_4, .slice A0_5 l0_5.length c0_5, .int .i64 a0_6, .slice A0_7 l0_7.length c0_7]] rfl ar_ ?_; (with_reducible refine (model_Vars.calls k a0_0 (fun k_ => k_ < w.heap.size) _ _ l0_1 (fun k_ => k_ < w.heap.size) _ _ l0_2 _ _ l0_3 _ _ l0_4 _ _ l0_5 a0_6 _ _ l0_7 t163 _ ?_ ?_ ?_ ?_ ?_ ?_ ?_ ?_ ?_ ?_ A10.out).mono ?_); exact Kd.V_mk HC0_1.out (Kd.F_below (Kd.C_F (Kd.heap_int .i64) HR0_1.out) bel_); exact Kd.V_mk HC0_2.out (Kd.F_below (Kd.C_F (Kd.heap_int .i64) HR0_2.out) bel_); exact ca_ ((Kd.C_below HR0_3.out HB.out)); exact HC0_3.out; exact ca_ ((Kd.C_below HR0_4.out HB.out)); exact HC0_4.out; exact ca_ ((Kd.C_below HR0_5.out HB.out)); exact HC0_5.out; exact ca_ ((Kd.C_below HR0_7.out HB.out)); exact HC0_7.out; rintro e w27 ⟨v164, rfl, ho0, hb⟩; refine ⟨_, rfl, ?_⟩; have HO165 := Aside0.mk (Kd.R_lower (Kd.R_newB (Kd.R_mono (ok' := fun k_ => True) ho0 (fun _ hk_ => trivial)) (bk_ BK159.out)) (below_size bel_)); replace BK158 := Aside0.mk (blk_below (bk_ BK158.out) hb); replace BK159 := Aside0.mk (blk_below (bk_ BK159.out) hb); replace HB := Aside0.mk (below_step bel_ hb); clear hb ho0; obtain ⟨Ao28, co28, eo28⟩ := Kd.R_slice HO165.out; subst eo28) | ((with_reducible refine gate_callee (f := 70) rfl ?_); refine goesL_ (some 36) rfl rfl Tryz.func70 (by kernel_rfl) rfl #[.slice Ao28 t163.length co28, .func (.func 92) #[] #[.pointer (some ⟨gb159, 0, none⟩)]] rfl ar_ ?_; (with_reducible refine (slices_ContainsFunc_int_int_70_at_model_Right_1.calls k _ _ t163 gb159 a1 false _ ?side1 ?side2 ?side3 A11.out).mono ?_); (case side1 => exact ca_ ((Kd.R_reads' HO165.out).2.2)); (case side2 => exact (Kd.R_reads' HO165.out).2.1); (case side3 => exact by refine bk_ ?_; exact BK159.out); rintro e w' ⟨rfl, ⟨nd, rfl⟩⟩; refine ⟨_, rfl, ?_⟩; obtain ⟨_, _, _, _, _, _, _, _, _, _, _, _, _, _, _, _⟩ := cel8_ BK158.out) | ((with_reducible refine gate_callee (f := 93) rfl ?_); refine goesL_ (some 39) rfl rfl Tryz.func93 (by kernel_rfl) rfl #[.agg #[.int .i64 a0_0, .slice A0_1 l0_1.length c0_1, .slice A0_2 l0_2.length c0_2, .slice A0_3 l0_3.length c0_3, .slice A0_4 l0_4.length c0_4, .slice A0_5 l0_5.length c0_5, .int .i64 a0_6, .slice A0_7 l0_7.length c0_7]] rfl ar_ ?_; (with_reducible refine (model_numbers.calls k a0_0 _ _ l0_1 _ _ l0_2 _ _ l0_3 _ _ l0_4 _ _ l0_5 a0_6 _ _ l0_7 true _ ?side1 ?side2 ?side3 ?side4 ?side5 ?side6 ?side7 ?side8 ?side9 ?side10 ?side11 ?side12 A13.out).mono ?_); (case side1 => repeat (first | exact (Kd.C_below HR0_1.out bel_) | (with_reducible refine Kd.C_alloc ?_ _) | (with_reducible refine Kd.C_drewN ?_ _) | (with_reducible refine Kd.C_drew ?_))); (case side2 => exact HC0_1.out); (case side3 => repeat (first | exact (Kd.C_below HR0_2.out bel_) | (with_reducible refine Kd.C_alloc ?_ _) | (with_reducible refine Kd.C_drewN ?_ _) | (with_reducible refine Kd.C_drew ?_))); (case side4 => exact HC0_2.out); (case side5 => repeat (first | exact (Kd.C_below HR0_3.out bel_) | (with_reducible refine Kd.C_alloc ?_ _) | (with_reducible refine Kd.C_drewN ?_ _) | (with_reducible refine Kd.C_drew ?_))); (case side6 => exact HC0_3.out); (case side7 => repeat (first | exact (Kd.C_below HR0_4.out bel_) | (with_reducible refine Kd.C_alloc ?_ _) | (with_reducible refine Kd.C_drewN ?_ _) | (with_reducible refine Kd.C_drew ?_))); (case side8 => exact HC0_4.out); (case side9 => repeat (first | exact (Kd.C_below HR0_5.out bel_) | (with_reducible refine Kd.C_alloc ?_ _) | (with_reducible refine Kd.C_drewN ?_ _) | (with_reducible refine Kd.C_drew ?_))); (case side10 => exact HC0_5.out); (case side11 => repeat (first | exact (Kd.C_below HR0_7.out bel_) | (with_reducible refine Kd.C_alloc ?_ _) | (with_reducible refine Kd.C_drewN ?_ _) | (with_reducible refine Kd.C_drew ?_))); (case side12 => exact HC0_7.out); rintro e w30 ⟨rfl, hb⟩; refine ⟨_, rfl, ?_⟩; replace BK158 := Aside0.mk (blk_below (bk_ BK158.out) hb); replace HB := Aside0.mk (below_step bel_ hb); clear hb; obtain ⟨_, _, _, _, _, _, _, _, _, _, _, _, _, _, _, _⟩ := cel8_ BK158.out) | (go_at_call 94; (with_reducible refine (model_counts.calls a0_0 _ _ l0_1 _ _ l0_2 _ _ l0_3 _ _ l0_4 _ _ l0_5 a0_6 _ _ l0_7 true _ ?_ ?_ ?_ ?_ ?_ ?_ ?_ ?_ ?_ ?_ ?_ ?_ A15.out).mono ?_); exact ca_ ((Kd.C_below HR0_1.out HB.out)); exact HC0_1.out; exact ca_ ((Kd.C_below HR0_2.out HB.out)); exact HC0_2.out; exact ca_ ((Kd.C_below HR0_3.out HB.out)); exact HC0_3.out; exact ca_ ((Kd.C_below HR0_4.out HB.out)); exact HC0_4.out; exact ca_ ((Kd.C_below HR0_5.out HB.out)); exact HC0_5.out; exact ca_ ((Kd.C_below HR0_7.out HB.out)); exact HC0_7.out; rintro e w32 ⟨rfl, hb⟩; replace HB := Aside0.mk (below_step bel_ hb); clear hb))
        go_ret
        exact ⟨by first | rfl | (simp [errW_none, errW_some] <;> rfl) | (simp [*, errW_none, errW_some] <;> rfl), bel_⟩
       ·
        replace c16 := Bool.eq_false_iff.mpr c16
        subst c16
        have H1 : (none) = some r := by rw [if_neg (show ¬ (false = true) by decide)] at H; exact H
        clear H
        have H := H1
        clear H1
        exact absurd H (by simp)
      ·
       replace c14 := Bool.eq_false_iff.mpr c14
       subst c14
       have H1 : (none) = some r := by rw [if_neg (show ¬ (false = true) by decide)] at H; exact H
       clear H
       have H := H1
       clear H1
       exact absurd H (by simp)
    ·
     rw [if_neg c9] at H
     exact absurd H (by simp)
   ·
    replace c8 := Bool.eq_false_iff.mpr c8
    subst c8
    have H1 : (none) = some r := by rw [if_neg (show ¬ (false = true) by decide)] at H; exact H
    clear H
    have H := H1
    clear H1
    exact absurd H (by simp)
  ·
   replace c6 := Bool.eq_false_iff.mpr c6
   subst c6
   have H1 : (none) = some r := by rw [if_neg (show ¬ (false = true) by decide)] at H; exact H
   clear H
   have H := H1
   clear H1
   exact absurd H (by simp)

/-! ### dom_Dom_86_at_prop_Fits_1: function 86 -/
def dom_Dom_86_at_prop_Fits_1.l0 : Nat → List (S61) → Int → Int → Option (Int)
 | 0, _, _, _ => none
 | k + 1, x0, x7, x8 => if x8 < x7 then (if 0 ≤ x8 then (if x8 < (x0.length : Int) then ((prop_Fits_1.f ((rd_T61 x0 x8).f0) ((rd_T61 x0 x8).f1) ((rd_T61 x0 x8).f2) ((rd_T61 x0 x8).f3) ((rd_T61 x0 x8).f4)).bind fun t170 => (if t170 = true then (some x8) else (dom_Dom_86_at_prop_Fits_1.l0 k x0 x7 (wrap64 (x8 + 1))))) else (none)) else (none)) else (some (-1))
def dom_Dom_86_at_prop_Fits_1.f (k : Nat) (l0 : List (S61))  : Option (Int) := dom_Dom_86_at_prop_Fits_1.l0 k l0 (l0.length : Int) 0
theorem dom_Dom_86_at_prop_Fits_1.mono_l : ∀ k, (∀ y0 y1 y2, LeO (dom_Dom_86_at_prop_Fits_1.l0 k y0 y1 y2) (dom_Dom_86_at_prop_Fits_1.l0 (k + 1) y0 y1 y2))
 | 0 => fun _ _ _ r h => by simp [dom_Dom_86_at_prop_Fits_1.l0] at h
 | k + 1 => by
  have ih0 := dom_Dom_86_at_prop_Fits_1.mono_l k
  ·
   intro y0 y1 y2
   unfold dom_Dom_86_at_prop_Fits_1.l0
   exact leo_
theorem dom_Dom_86_at_prop_Fits_1.mono : ∀ a0 k, LeO (dom_Dom_86_at_prop_Fits_1.f k a0) (dom_Dom_86_at_prop_Fits_1.f (k + 1) a0) := by
 intro a0 k
 have ih0 := dom_Dom_86_at_prop_Fits_1.mono_l k
 unfold dom_Dom_86_at_prop_Fits_1.f
 exact leo_
set_option maxHeartbeats 8000000 in
set_option maxRecDepth 100000 in
theorem dom_Dom_86_at_prop_Fits_1.calls (k : Nat) (A0 : Option Addr) (c0 : Nat) (l0 : List (S61))  (r : Int) (w : World) (hr0 : Kd.C k61 w A0 l0.length l0) (hc0 : l0.length ≤ c0) (h : dom_Dom_86_at_prop_Fits_1.f k l0 = some r) :
  Calls Tryz.prog 86 #[.slice A0 l0.length c0, .func (.func 62) #[] #[]] w fun e w' => e = .returned (.int .i64 r) ∧ Below w.heap.size w w' := by
 have hu61 := Tryz.underlying61
 have HR0 := Aside0.mk hr0
 have HC0 := Aside0.mk hc0
 clear hr0 hc0
 have HB := Aside0.mk (Below.refl w.heap.size w)
 have H : (dom_Dom_86_at_prop_Fits_1.l0 k l0 (l0.length : Int) 0) = some r := h
 clear h
 have H' := Aside0.mk H
 clear H
 go_enter Tryz.func86, Tryz.ntmps86
 go_wp2
 go_loopg [8] k (fun kq v8 w' => ∃ (x8_1 : Int), v8 = .int .i64 x8_1 ∧ Aside0 (dom_Dom_86_at_prop_Fits_1.l0 kq l0 (l0.length : Int) x8_1 = some r) ∧ Aside0 (kq ≤ k) ∧ Aside0 (Below w.heap.size w w'))
 case atStart => exact ⟨(0), eq_, H', ⟨Nat.le_refl _⟩, ⟨bel_⟩⟩
 case round =>
  clear H'
  try clear p2
  obtain ⟨x8_1, rfl, HA, HK1, HB⟩ := hrel
  cases gk with
  | zero => exact absurd HA.out (by simp [dom_Dom_86_at_prop_Fits_1.l0])
  | succ k1 =>
   have H := HA.out
   clear HA
   simp only [dom_Dom_86_at_prop_Fits_1.l0] at H
   by_cases c3 : x8_1 < (l0.length : Int)
   ·
    rw [if_pos c3] at H
    have c3b0 : decide (x8_1 < (l0.length : Int)) = true := decide_eq_true c3
    clear c3
    by_cases c4 : 0 ≤ x8_1
    ·
     rw [if_pos c4] at H
     have c4b0 : decide (0 ≤ x8_1) = true := decide_eq_true c4
     clear c4
     by_cases c5 : x8_1 < (l0.length : Int)
     ·
      rw [if_pos c5] at H
      have c5b0 : decide (x8_1 < (l0.length : Int)) = true := decide_eq_true c5
      clear c5
      replace H := Option.bind_eq_some_iff.mp H
      obtain ⟨t170, A60, H⟩ := H
      try dsimp only at H
      have A6 := Aside0.mk A60
      clear A60
      by_cases c7 : t170 = true
      ·
       subst c7
       have H1 : (some x8_1) = some r := by rw [if_pos rfl] at H; exact H
       clear H
       have H := H1
       clear H1
       obtain rfl := Option.some.inj H
       have p169 : 0 ≤ (x8_1 : Int) := dq_
       have q169 : x8_1 < (l0.length : Int) := dq_
       obtain ⟨ad169, A169_1, c169_1, e169, hx169_0, hx169_1, hx169_2, hx169_3, hx169_4, hl169_1, hi169_1⟩ := at_T61 HR0.out x8_1 p169 q169
       cases e169
       replace hx169_0 := (HB.out.cell (World.block_lt_of_cell? w _ hx169_0)).trans hx169_0
       replace hx169_1 := (HB.out.cell (World.block_lt_of_cell? w _ hx169_1)).trans hx169_1
       replace hx169_2 := (HB.out.cell (World.block_lt_of_cell? w _ hx169_2)).trans hx169_2
       replace hx169_3 := (HB.out.cell (World.block_lt_of_cell? w _ hx169_3)).trans hx169_3
       replace hx169_4 := (HB.out.cell (World.block_lt_of_cell? w _ hx169_4)).trans hx169_4
       have HR169_1 := Aside0.mk hi169_1
       have HC169_1 := Aside0.mk hl169_1
       clear hi169_1 hl169_1
       replace p169 := eq_true p169
       replace q169 := eq_true q169
       go_wp2_with (first | (go_at_call 62; (with_reducible refine (prop_Fits_1.calls ((rd_T61 l0 x8_1).f0) _ _ ((rd_T61 l0 x8_1).f1) ((rd_T61 l0 x8_1).f2) ((rd_T61 l0 x8_1).f3) ((rd_T61 l0 x8_1).f4) true _ ?_ ?_ A6.out).mono ?_); exact ca_ ((Kd.C_below HR169_1.out HB.out)); exact HC169_1.out; rintro e w8 ⟨rfl, hb⟩; replace HB := Aside0.mk (below_step bel_ hb); clear hb))
       go_ret
       exact ⟨by first | rfl | (simp [errW_none, errW_some] <;> rfl) | (simp [*, errW_none, errW_some] <;> rfl), bel_⟩
      ·
       replace c7 := Bool.eq_false_iff.mpr c7
       subst c7
       have H1 : (dom_Dom_86_at_prop_Fits_1.l0 k1 l0 (l0.length : Int) (wrap64 (x8_1 + 1))) = some r := by rw [if_neg (show ¬ (false = true) by decide)] at H; exact H
       clear H
       have H := H1
       clear H1
       have H' := Aside0.mk H
       clear H
       have p169 : 0 ≤ (x8_1 : Int) := dq_
       have q169 : x8_1 < (l0.length : Int) := dq_
       obtain ⟨ad169, A169_1, c169_1, e169, hx169_0, hx169_1, hx169_2, hx169_3, hx169_4, hl169_1, hi169_1⟩ := at_T61 HR0.out x8_1 p169 q169
       cases e169
       replace hx169_0 := (HB.out.cell (World.block_lt_of_cell? w _ hx169_0)).trans hx169_0
       replace hx169_1 := (HB.out.cell (World.block_lt_of_cell? w _ hx169_1)).trans hx169_1
       replace hx169_2 := (HB.out.cell (World.block_lt_of_cell? w _ hx169_2)).trans hx169_2
       replace hx169_3 := (HB.out.cell (World.block_lt_of_cell? w _ hx169_3)).trans hx169_3
       replace hx169_4 := (HB.out.cell (World.block_lt_of_cell? w _ hx169_4)).trans hx169_4
       have HR169_1 := Aside0.mk hi169_1
       have HC169_1 := Aside0.mk hl169_1
       clear hi169_1 hl169_1
       replace p169 := eq_true p169
       replace q169 := eq_true q169
       go_wp2_with (first | (go_at_call 62; (with_reducible refine (prop_Fits_1.calls ((rd_T61 l0 x8_1).f0) _ _ ((rd_T61 l0 x8_1).f1) ((rd_T61 l0 x8_1).f2) ((rd_T61 l0 x8_1).f3) ((rd_T61 l0 x8_1).f4) false _ ?_ ?_ A6.out).mono ?_); exact ca_ ((Kd.C_below HR169_1.out HB.out)); exact HC169_1.out; rintro e w9 ⟨rfl, hb⟩; replace HB := Aside0.mk (below_step bel_ hb); clear hb))
       go_roundg k1
       case measure => have := HK1.out; omega
       case rel => exact ⟨(wrap64 (x8_1 + 1)), eq_, H', ⟨by have := HK1.out; omega⟩, ⟨bel_⟩⟩
     ·
      rw [if_neg c5] at H
      exact absurd H (by simp)
    ·
     rw [if_neg c4] at H
     exact absurd H (by simp)
   ·
    rw [if_neg c3] at H
    have c3b0 : decide (x8_1 < (l0.length : Int)) = false := decide_eq_false c3
    clear c3
    obtain rfl := Option.some.inj H
    go_wp2
    go_ret
    exact ⟨by first | rfl | (simp [errW_none, errW_some] <;> rfl) | (simp [*, errW_none, errW_some] <;> rfl), bel_⟩

/-! ### dom_Dom_61_at_prop_Fits_1: function 61 -/
def dom_Dom_61_at_prop_Fits_1.f (k : Nat) (l0 : List (S61))  : Option (Bool) := (dom_Dom_86_at_prop_Fits_1.f k l0).bind fun t171 => (some (decide (t171 ≥ 0)))
theorem dom_Dom_61_at_prop_Fits_1.mono : ∀ a0 k, LeO (dom_Dom_61_at_prop_Fits_1.f k a0) (dom_Dom_61_at_prop_Fits_1.f (k + 1) a0) := by
 intro a0 k
 unfold dom_Dom_61_at_prop_Fits_1.f
 have m0 := @dom_Dom_86_at_prop_Fits_1.mono
 exact leo_
set_option maxHeartbeats 8000000 in
set_option maxRecDepth 100000 in
theorem dom_Dom_61_at_prop_Fits_1.calls (k : Nat) (A0 : Option Addr) (c0 : Nat) (l0 : List (S61))  (r : Bool) (w : World) (hr0 : Kd.C k61 w A0 l0.length l0) (hc0 : l0.length ≤ c0) (h : dom_Dom_61_at_prop_Fits_1.f k l0 = some r) :
  Calls Tryz.prog 61 #[.slice A0 l0.length c0, .func (.func 62) #[] #[]] w fun e w' => e = .returned (.bool r) ∧ Below w.heap.size w w' := by
 have HR0 := Aside0.mk hr0
 have HC0 := Aside0.mk hc0
 clear hr0 hc0
 have HB := Aside0.mk (Below.refl w.heap.size w)
 have H : ((dom_Dom_86_at_prop_Fits_1.f k l0).bind fun t171 => (some (decide (t171 ≥ 0)))) = some r := h
 clear h
 replace H := Option.bind_eq_some_iff.mp H
 obtain ⟨t171, A30, H⟩ := H
 try dsimp only at H
 have A3 := Aside0.mk A30
 clear A30
 obtain rfl := Option.some.inj H
 go_enter Tryz.func61, Tryz.ntmps61
 go_wp2_with (first | ((with_reducible refine gate_callee (f := 86) rfl ?_); refine goesL_ (some 7) rfl rfl Tryz.func86 (by kernel_rfl) rfl #[.slice A0 l0.length c0, .func (.func 62) #[] #[]] rfl ar_ ?_; (with_reducible refine (dom_Dom_86_at_prop_Fits_1.calls k _ _ l0 t171 _ ?_ ?_ A3.out).mono ?_); exact ca_ (HR0.out); exact HC0.out; rintro e w4 ⟨rfl, hb⟩; refine ⟨_, rfl, ?_⟩; replace HB := Aside0.mk (below_step bel_ hb); clear hb))
 go_ret
 exact ⟨by first | rfl | (simp [errW_none, errW_some] <;> rfl) | (simp [*, errW_none, errW_some] <;> rfl), bel_⟩

end Go.Proofs.YtbhhbgoamomacaaGreatDoor.XMulFixed
