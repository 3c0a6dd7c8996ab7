-- by xprint.py, a program of this session, over the kit's print
import Derived.Test.YtmhchlbbfpmdgaaGreatDoorXCKex0
import Derived.Test.YtmhchlbbfpmdgaaGreatDoorXCKex7
import Derived.Test.YtmhchlbbfpmdgaaGreatDoorXCKex8
import Derived.Test.YtmhchlbbfpmdgaaGreatDoorXCKex9
import Derived.Test.YtmhchlbbfpmdgaaGreatDoorXCKex10
import Derived.Test.YtmhchlbbfpmdgaaGreatDoorSq
namespace Go.Proofs.YtmhchlbbfpmdgaaGreatDoor.XClauseKeeps
open Go.RowKit Go.Proofs.YtmhchlbbfpmdgaaGreatDoor.Sq Go.Proofs.YtmhchlbbfpmdgaaGreatDoorW.PrintWords Go.Proofs.YtmhchlbbfpmdgaaGreatDoorW.PrintLast Go.Proofs.YtmhchlbbfpmdgaaGreatDoorW.PrintMore
attribute [local go_sem] max2_int min2_int max_two min_two max_three min_three max_four min_four   -- for this text's walks alone
set_option linter.unusedVariables false
set_option linter.unusedSimpArgs false

/-! ### model_Right: function 57 -/
def model_Right.f (k : Nat) (a0_0 : Int) (l0_1 : List Int) (l0_2 : List Int) (l0_3 : List Int) (l0_4 : List Int) (l0_5 : List Int) (a0_6 : Int) (l0_7 : List (List Int)) (a1 : Int) : Option (Int) := (model_Shape.f a0_0).bind fun t281 => (if t281.toList = ([] : List UInt8) then (none) else ((model_counted.f a0_0 l0_1 l0_2 l0_3 l0_4 l0_5 a0_6 l0_7 t281).bind fun t282 => (if t282 = true then ((model_alike.f a0_0 l0_1 l0_2 l0_3 l0_4 l0_5 a0_6 l0_7).bind fun t283 => (if t283 = true then (if a0_6 = 0 then ((model_Vars.f k a0_0 l0_1 l0_2 l0_3 l0_4 l0_5 a0_6 l0_7).bind fun t284 => ((slices_ContainsFunc_int_int_60_at_model_Right_1.f k t284 a1).bind fun t287 => (if t287 = true then (none) else ((model_numbers.f k a0_0 l0_1 l0_2 l0_3 l0_4 l0_5 a0_6 l0_7).bind fun t288 => (if t288 = true then ((model_counts.f a0_0 l0_1 l0_2 l0_3 l0_4 l0_5 a0_6 l0_7).bind fun t289 => (if t289 = true then (some 0) else (none))) else (none)))))) else (none)) else (none))) else (none))))
theorem model_Right.mono : ∀ a0 a1 a2 a3 a4 a5 a6 a7 a8 k, LeO (model_Right.f k a0 a1 a2 a3 a4 a5 a6 a7 a8) (model_Right.f (k + 1) a0 a1 a2 a3 a4 a5 a6 a7 a8) := by
 intro a0 a1 a2 a3 a4 a5 a6 a7 a8 k
 unfold model_Right.f
 have m0 := @model_Vars.mono
 have m1 := @model_numbers.mono
 have m2 := @slices_ContainsFunc_int_int_60_at_model_Right_1.mono
 exact leo_
set_option maxHeartbeats 8000000 in
set_option maxRecDepth 100000 in
theorem model_Right.calls (k : Nat) (a0_0 : Int) (A0_1 : Option Addr) (c0_1 : Nat) (l0_1 : List Int) (A0_2 : Option Addr) (c0_2 : Nat) (l0_2 : List Int) (A0_3 : Option Addr) (c0_3 : Nat) (l0_3 : List Int) (A0_4 : Option Addr) (c0_4 : Nat) (l0_4 : List Int) (A0_5 : Option Addr) (c0_5 : Nat) (l0_5 : List Int) (a0_6 : Int) (A0_7 : Option Addr) (c0_7 : Nat) (l0_7 : List (List Int)) (a1 : Int) (r : Int) (w : World) (hr0_1 : Kd.C (Kd.int .i64) w A0_1 l0_1.length l0_1) (hc0_1 : l0_1.length ≤ c0_1) (hr0_2 : Kd.C (Kd.int .i64) w A0_2 l0_2.length l0_2) (hc0_2 : l0_2.length ≤ c0_2) (hr0_3 : Kd.C (Kd.int .i64) w A0_3 l0_3.length l0_3) (hc0_3 : l0_3.length ≤ c0_3) (hr0_4 : Kd.C (Kd.int .i64) w A0_4 l0_4.length l0_4) (hc0_4 : l0_4.length ≤ c0_4) (hr0_5 : Kd.C (Kd.int .i64) w A0_5 l0_5.length l0_5) (hc0_5 : l0_5.length ≤ c0_5) (hr0_7 : Kd.C (Kd.slice 3 (Kd.int .i64)) w A0_7 l0_7.length l0_7) (hc0_7 : l0_7.length ≤ c0_7) (h : model_Right.f k a0_0 l0_1 l0_2 l0_3 l0_4 l0_5 a0_6 l0_7 a1 = some r) :
  Calls Tryz.prog 57 #[.agg #[.int .i64 a0_0, .slice A0_1 l0_1.length c0_1, .slice A0_2 l0_2.length c0_2, .slice A0_3 l0_3.length c0_3, .slice A0_4 l0_4.length c0_4, .slice A0_5 l0_5.length c0_5, .int .i64 a0_6, .slice A0_7 l0_7.length c0_7], .int .i64 a1] w fun e w' => e = .returned (.int .i64 r) ∧ Below w.heap.size w w' := by
 have hu32 := Tryz.underlying32
 have HR0_1 := Aside0.mk hr0_1
 have HC0_1 := Aside0.mk hc0_1
 clear hr0_1 hc0_1
 have HR0_2 := Aside0.mk hr0_2
 have HC0_2 := Aside0.mk hc0_2
 clear hr0_2 hc0_2
 have HR0_3 := Aside0.mk hr0_3
 have HC0_3 := Aside0.mk hc0_3
 clear hr0_3 hc0_3
 have HR0_4 := Aside0.mk hr0_4
 have HC0_4 := Aside0.mk hc0_4
 clear hr0_4 hc0_4
 have HR0_5 := Aside0.mk hr0_5
 have HC0_5 := Aside0.mk hc0_5
 clear hr0_5 hc0_5
 have HR0_7 := Aside0.mk hr0_7
 have HC0_7 := Aside0.mk hc0_7
 clear hr0_7 hc0_7
 have HB := Aside0.mk (Below.refl w.heap.size w)
 have H : ((model_Shape.f a0_0).bind fun t281 => (if t281.toList = ([] : List UInt8) then (none) else ((model_counted.f a0_0 l0_1 l0_2 l0_3 l0_4 l0_5 a0_6 l0_7 t281).bind fun t282 => (if t282 = true then ((model_alike.f a0_0 l0_1 l0_2 l0_3 l0_4 l0_5 a0_6 l0_7).bind fun t283 => (if t283 = true then (if a0_6 = 0 then ((model_Vars.f k a0_0 l0_1 l0_2 l0_3 l0_4 l0_5 a0_6 l0_7).bind fun t284 => ((slices_ContainsFunc_int_int_60_at_model_Right_1.f k t284 a1).bind fun t287 => (if t287 = true then (none) else ((model_numbers.f k a0_0 l0_1 l0_2 l0_3 l0_4 l0_5 a0_6 l0_7).bind fun t288 => (if t288 = true then ((model_counts.f a0_0 l0_1 l0_2 l0_3 l0_4 l0_5 a0_6 l0_7).bind fun t289 => (if t289 = true then (some 0) else (none))) else (none)))))) else (none)) else (none))) else (none))))) = some r := h
 clear h
 replace H := Option.bind_eq_some_iff.mp H
 obtain ⟨t281, A30, H⟩ := H
 try dsimp only at H
 have A3 := Aside0.mk A30
 clear A30
 by_cases c4 : t281.toList = ([] : List UInt8)
 ·
  rw [if_pos c4] at H
  exact absurd H (by simp)
 ·
  rw [if_neg c4] at H
  have c4b0 : (t281.toList == ([] : List UInt8)) = false := beq_eq_false_iff_ne.mpr c4
  have c4b1 : (t281.toList != ([] : List UInt8)) = true := bne_iff_ne.mpr c4
  replace H := Option.bind_eq_some_iff.mp H
  obtain ⟨t282, A50, H⟩ := H
  try dsimp only at H
  have A5 := Aside0.mk A50
  clear A50
  by_cases c6 : t282 = true
  ·
   subst c6
   have H1 : ((model_alike.f a0_0 l0_1 l0_2 l0_3 l0_4 l0_5 a0_6 l0_7).bind fun t283 => (if t283 = true then (if a0_6 = 0 then ((model_Vars.f k a0_0 l0_1 l0_2 l0_3 l0_4 l0_5 a0_6 l0_7).bind fun t284 => ((slices_ContainsFunc_int_int_60_at_model_Right_1.f k t284 a1).bind fun t287 => (if t287 = true then (none) else ((model_numbers.f k a0_0 l0_1 l0_2 l0_3 l0_4 l0_5 a0_6 l0_7).bind fun t288 => (if t288 = true then ((model_counts.f a0_0 l0_1 l0_2 l0_3 l0_4 l0_5 a0_6 l0_7).bind fun t289 => (if t289 = true then (some 0) else (none))) else (none)))))) else (none)) else (none))) = some r := by rw [if_pos rfl] at H; exact H
   clear H
   have H := H1
   clear H1
   replace H := Option.bind_eq_some_iff.mp H
   obtain ⟨t283, A70, H⟩ := H
   try dsimp only at H
   have A7 := Aside0.mk A70
   clear A70
   by_cases c8 : t283 = true
   ·
    subst c8
    have H1 : (if a0_6 = 0 then ((model_Vars.f k a0_0 l0_1 l0_2 l0_3 l0_4 l0_5 a0_6 l0_7).bind fun t284 => ((slices_ContainsFunc_int_int_60_at_model_Right_1.f k t284 a1).bind fun t287 => (if t287 = true then (none) else ((model_numbers.f k a0_0 l0_1 l0_2 l0_3 l0_4 l0_5 a0_6 l0_7).bind fun t288 => (if t288 = true then ((model_counts.f a0_0 l0_1 l0_2 l0_3 l0_4 l0_5 a0_6 l0_7).bind fun t289 => (if t289 = true then (some 0) else (none))) else (none)))))) else (none)) = some r := by rw [if_pos rfl] at H; exact H
    clear H
    have H := H1
    clear H1
    by_cases c9 : a0_6 = 0
    ·
     rw [if_pos c9] at H
     have c9b0 : (a0_6 == 0) = true := beq_iff_eq.mpr c9
     have c9b1 : (a0_6 != 0) = false := bne_eq_false_iff_eq.mpr c9
     clear c9
     replace H := Option.bind_eq_some_iff.mp H
     obtain ⟨t284, A100, H⟩ := H
     try dsimp only at H
     have A10 := Aside0.mk A100
     clear A100
     replace H := Option.bind_eq_some_iff.mp H
     obtain ⟨t287, A110, H⟩ := H
     try dsimp only at H
     have A11 := Aside0.mk A110
     clear A110
     by_cases c12 : t287 = true
     ·
      subst c12
      have H1 : (none) = some r := by rw [if_pos rfl] at H; exact H
      clear H
      have H := H1
      clear H1
      exact absurd H (by simp)
     ·
      replace c12 := Bool.eq_false_iff.mpr c12
      subst c12
      have H1 : ((model_numbers.f k a0_0 l0_1 l0_2 l0_3 l0_4 l0_5 a0_6 l0_7).bind fun t288 => (if t288 = true then ((model_counts.f a0_0 l0_1 l0_2 l0_3 l0_4 l0_5 a0_6 l0_7).bind fun t289 => (if t289 = true then (some 0) else (none))) else (none))) = some r := by rw [if_neg (show ¬ (false = true) by decide)] at H; exact H
      clear H
      have H := H1
      clear H1
      replace H := Option.bind_eq_some_iff.mp H
      obtain ⟨t288, A130, H⟩ := H
      try dsimp only at H
      have A13 := Aside0.mk A130
      clear A130
      by_cases c14 : t288 = true
      ·
       subst c14
       have H1 : ((model_counts.f a0_0 l0_1 l0_2 l0_3 l0_4 l0_5 a0_6 l0_7).bind fun t289 => (if t289 = true then (some 0) else (none))) = some r := by rw [if_pos rfl] at H; exact H
       clear H
       have H := H1
       clear H1
       replace H := Option.bind_eq_some_iff.mp H
       obtain ⟨t289, A150, H⟩ := H
       try dsimp only at H
       have A15 := Aside0.mk A150
       clear A150
       by_cases c16 : t289 = true
       ·
        subst c16
        have H1 : (some 0) = some r := by rw [if_pos rfl] at H; exact H
        clear H
        have H := H1
        clear H1
        obtain rfl := Option.some.inj H
        go_enter Tryz.func57, Tryz.ntmps57
        go_wp2_with (first | ((with_reducible refine gate_dst (N := 2) rfl ?_); refine bxe_ (N := 2) (cs := #[.int .i64 a0_0, .slice A0_1 l0_1.length c0_1, .slice A0_2 l0_2.length c0_2, .slice A0_3 l0_3.length c0_3, .slice A0_4 l0_4.length c0_4, .slice A0_5 l0_5.length c0_5, .int .i64 a0_6, .slice A0_7 l0_7.length c0_7]) (t := 32) ?_; intro gb279 hg w17 hbox hb; have BK279 := Aside0.mk (hbox); have GW279 := Aside0.mk (by rw [hg]; exact (below_size bel_) : w.heap.size ≤ gb279); have GE279 := GW279; replace HB := Aside0.mk (below_step bel_ hb); clear hb hbox hg) | ((with_reducible refine gate_dst (N := 3) rfl ?_); refine bxe_ (N := 3) (cs := #[.int .i64 a1]) (t := 3) ?_; intro gb280 hg w18 hbox hb; have BK280 := Aside0.mk (hbox); have GW280 := Aside0.mk (by rw [hg]; exact (below_size bel_) : w.heap.size ≤ gb280); have GE280 := GW280; replace HB := Aside0.mk (below_step bel_ hb); have NB279_280 := Aside0.mk ((by rw [hg]; exact Nat.ne_of_lt (blk_lt (bk_ BK279.out)) : gb279 ≠ gb280)); have NB280_279 := Aside0.mk ((by rw [hg]; exact Nat.ne_of_gt (blk_lt (bk_ BK279.out)) : gb280 ≠ gb279)); replace BK279 := Aside0.mk (blk_below (bk_ BK279.out) hb); clear hb hbox hg; have hnb19 := NB279_280.out; have hnc19 := NB280_279.out; obtain ⟨_, _, _, _, _, _, _, _, _, _, _, _, _, _, _, _⟩ := cel8_ BK279.out) | ((with_reducible refine gate_callee (f := 74) rfl ?_); refine goesL_ (some 8) rfl rfl Tryz.func74 (by kernel_rfl) rfl #[.int .i64 a0_0] rfl ar_ ?_; (with_reducible refine (model_Shape.calls a0_0 t281 _ A3.out).mono ?_); rintro e w21 ⟨rfl, hb⟩; refine ⟨_, rfl, ?_⟩; replace BK279 := Aside0.mk (blk_below (bk_ BK279.out) hb); replace BK280 := Aside0.mk (blk_below (bk_ BK280.out) hb); replace HB := Aside0.mk (below_step bel_ hb); clear hb; obtain ⟨_, _, _, _, _, _, _, _, _, _, _, _, _, _, _, _⟩ := cel8_ BK279.out) | ((with_reducible refine gate_callee (f := 75) rfl ?_); refine goesL_ (some 15) rfl rfl Tryz.func75 (by kernel_rfl) rfl #[.agg #[.int .i64 a0_0, .slice A0_1 l0_1.length c0_1, .slice A0_2 l0_2.length c0_2, .slice A0_3 l0_3.length c0_3, .slice A0_4 l0_4.length c0_4, .slice A0_5 l0_5.length c0_5, .int .i64 a0_6, .slice A0_7 l0_7.length c0_7], .string t281] rfl ar_ ?_; (with_reducible refine (model_counted.calls a0_0 _ _ l0_1 _ _ l0_2 _ _ l0_3 _ _ l0_4 _ _ l0_5 a0_6 _ _ l0_7 t281 true _ ?_ ?_ ?_ ?_ ?_ ?_ ?_ ?_ ?_ ?_ ?_ ?_ A5.out).mono ?_); exact ca_ ((Kd.C_below HR0_1.out HB.out)); exact HC0_1.out; exact ca_ ((Kd.C_below HR0_2.out HB.out)); exact HC0_2.out; exact ca_ ((Kd.C_below HR0_3.out HB.out)); exact HC0_3.out; exact ca_ ((Kd.C_below HR0_4.out HB.out)); exact HC0_4.out; exact ca_ ((Kd.C_below HR0_5.out HB.out)); exact HC0_5.out; exact ca_ ((Kd.C_below HR0_7.out HB.out)); exact HC0_7.out; rintro e w23 ⟨rfl, hb⟩; refine ⟨_, rfl, ?_⟩; replace BK279 := Aside0.mk (blk_below (bk_ BK279.out) hb); replace BK280 := Aside0.mk (blk_below (bk_ BK280.out) hb); replace HB := Aside0.mk (below_step bel_ hb); clear hb; obtain ⟨_, _, _, _, _, _, _, _, _, _, _, _, _, _, _, _⟩ := cel8_ BK279.out) | (go_at_call 76; (with_reducible refine (model_alike.calls a0_0 _ _ l0_1 _ _ l0_2 _ _ l0_3 _ _ l0_4 _ _ l0_5 a0_6 _ _ l0_7 true _ ?_ ?_ ?_ ?_ ?_ ?_ ?_ ?_ ?_ ?_ ?_ ?_ A7.out).mono ?_); exact ca_ ((Kd.C_below HR0_1.out HB.out)); exact HC0_1.out; exact ca_ ((Kd.C_below HR0_2.out HB.out)); exact HC0_2.out; exact ca_ ((Kd.C_below HR0_3.out HB.out)); exact HC0_3.out; exact ca_ ((Kd.C_below HR0_4.out HB.out)); exact HC0_4.out; exact ca_ ((Kd.C_below HR0_5.out HB.out)); exact HC0_5.out; exact ca_ ((Kd.C_below HR0_7.out HB.out)); exact HC0_7.out; rintro e w25 ⟨rfl, hb⟩; replace BK279 := Aside0.mk (blk_below (bk_ BK279.out) hb); replace BK280 := Aside0.mk (blk_below (bk_ BK280.out) hb); replace HB := Aside0.mk (below_step bel_ hb); clear hb; obtain ⟨_, _, _, _, _, _, _, _, _, _, _, _, _, _, _, _⟩ := cel8_ BK279.out) | ((with_reducible refine gate_callee (f := 78) rfl ?_); refine goesL_ (some 34) rfl rfl Tryz.func78 (by kernel_rfl) rfl #[.agg #[.int .i64 a0_0, .slice A0_1 l0_1.length c0_1, .slice A0_2 l0_2.length c0_2, .slice A0_3 l0_3.length c0_3, .slice A0_4 l0_4.length c0_4, .slice A0_5 l0_5.length c0_5, .int .i64 a0_6, .slice A0_7 l0_7.length c0_7]] rfl ar_ ?_; (with_reducible refine (model_Vars.calls k a0_0 (fun k_ => k_ < w.heap.size) _ _ l0_1 (fun k_ => k_ < w.heap.size) _ _ l0_2 _ _ l0_3 _ _ l0_4 _ _ l0_5 a0_6 _ _ l0_7 t284 _ ?_ ?_ ?_ ?_ ?_ ?_ ?_ ?_ ?_ ?_ A10.out).mono ?_); exact Kd.V_mk HC0_1.out (Kd.F_below (Kd.C_F (Kd.heap_int .i64) HR0_1.out) bel_); exact Kd.V_mk HC0_2.out (Kd.F_below (Kd.C_F (Kd.heap_int .i64) HR0_2.out) bel_); exact ca_ ((Kd.C_below HR0_3.out HB.out)); exact HC0_3.out; exact ca_ ((Kd.C_below HR0_4.out HB.out)); exact HC0_4.out; exact ca_ ((Kd.C_below HR0_5.out HB.out)); exact HC0_5.out; exact ca_ ((Kd.C_below HR0_7.out HB.out)); exact HC0_7.out; rintro e w27 ⟨v285, rfl, ho0, hb⟩; refine ⟨_, rfl, ?_⟩; have HO286 := Aside0.mk (Kd.R_lower (Kd.R_newB (Kd.R_mono (ok' := fun k_ => True) ho0 (fun _ hk_ => trivial)) (bk_ BK280.out)) (below_size bel_)); replace BK279 := Aside0.mk (blk_below (bk_ BK279.out) hb); replace BK280 := Aside0.mk (blk_below (bk_ BK280.out) hb); replace HB := Aside0.mk (below_step bel_ hb); clear hb ho0; obtain ⟨Ao28, co28, eo28⟩ := Kd.R_slice HO286.out; subst eo28) | ((with_reducible refine gate_callee (f := 60) rfl ?_); refine goesL_ (some 36) rfl rfl Tryz.func60 (by kernel_rfl) rfl #[.slice Ao28 t284.length co28, .func (.func 79) #[] #[.pointer (some ⟨gb280, 0, none⟩)]] rfl ar_ ?_; (with_reducible refine (slices_ContainsFunc_int_int_60_at_model_Right_1.calls k _ _ t284 gb280 a1 false _ ?side1 ?side2 ?side3 A11.out).mono ?_); (case side1 => exact ca_ ((Kd.R_reads' HO286.out).2.2)); (case side2 => exact (Kd.R_reads' HO286.out).2.1); (case side3 => exact by refine bk_ ?_; exact BK280.out); rintro e w' ⟨rfl, ⟨nd, rfl⟩⟩; refine ⟨_, rfl, ?_⟩; obtain ⟨_, _, _, _, _, _, _, _, _, _, _, _, _, _, _, _⟩ := cel8_ BK279.out) | ((with_reducible refine gate_callee (f := 80) rfl ?_); refine goesL_ (some 39) rfl rfl Tryz.func80 (by kernel_rfl) rfl #[.agg #[.int .i64 a0_0, .slice A0_1 l0_1.length c0_1, .slice A0_2 l0_2.length c0_2, .slice A0_3 l0_3.length c0_3, .slice A0_4 l0_4.length c0_4, .slice A0_5 l0_5.length c0_5, .int .i64 a0_6, .slice A0_7 l0_7.length c0_7]] rfl ar_ ?_; (with_reducible refine (model_numbers.calls k a0_0 _ _ l0_1 _ _ l0_2 _ _ l0_3 _ _ l0_4 _ _ l0_5 a0_6 _ _ l0_7 true _ ?side1 ?side2 ?side3 ?side4 ?side5 ?side6 ?side7 ?side8 ?side9 ?side10 ?side11 ?side12 A13.out).mono ?_); (case side1 => repeat (first | exact (Kd.C_below HR0_1.out bel_) | (with_reducible refine Kd.C_alloc ?_ _) | (with_reducible refine Kd.C_drewN ?_ _) | (with_reducible refine Kd.C_drew ?_))); (case side2 => exact HC0_1.out); (case side3 => repeat (first | exact (Kd.C_below HR0_2.out bel_) | (with_reducible refine Kd.C_alloc ?_ _) | (with_reducible refine Kd.C_drewN ?_ _) | (with_reducible refine Kd.C_drew ?_))); (case side4 => exact HC0_2.out); (case side5 => repeat (first | exact (Kd.C_below HR0_3.out bel_) | (with_reducible refine Kd.C_alloc ?_ _) | (with_reducible refine Kd.C_drewN ?_ _) | (with_reducible refine Kd.C_drew ?_))); (case side6 => exact HC0_3.out); (case side7 => repeat (first | exact (Kd.C_below HR0_4.out bel_) | (with_reducible refine Kd.C_alloc ?_ _) | (with_reducible refine Kd.C_drewN ?_ _) | (with_reducible refine Kd.C_drew ?_))); (case side8 => exact HC0_4.out); (case side9 => repeat (first | exact (Kd.C_below HR0_5.out bel_) | (with_reducible refine Kd.C_alloc ?_ _) | (with_reducible refine Kd.C_drewN ?_ _) | (with_reducible refine Kd.C_drew ?_))); (case side10 => exact HC0_5.out); (case side11 => repeat (first | exact (Kd.C_below HR0_7.out bel_) | (with_reducible refine Kd.C_alloc ?_ _) | (with_reducible refine Kd.C_drewN ?_ _) | (with_reducible refine Kd.C_drew ?_))); (case side12 => exact HC0_7.out); rintro e w30 ⟨rfl, hb⟩; refine ⟨_, rfl, ?_⟩; replace BK279 := Aside0.mk (blk_below (bk_ BK279.out) hb); replace HB := Aside0.mk (below_step bel_ hb); clear hb; obtain ⟨_, _, _, _, _, _, _, _, _, _, _, _, _, _, _, _⟩ := cel8_ BK279.out) | (go_at_call 81; (with_reducible refine (model_counts.calls a0_0 _ _ l0_1 _ _ l0_2 _ _ l0_3 _ _ l0_4 _ _ l0_5 a0_6 _ _ l0_7 true _ ?_ ?_ ?_ ?_ ?_ ?_ ?_ ?_ ?_ ?_ ?_ ?_ A15.out).mono ?_); exact ca_ ((Kd.C_below HR0_1.out HB.out)); exact HC0_1.out; exact ca_ ((Kd.C_below HR0_2.out HB.out)); exact HC0_2.out; exact ca_ ((Kd.C_below HR0_3.out HB.out)); exact HC0_3.out; exact ca_ ((Kd.C_below HR0_4.out HB.out)); exact HC0_4.out; exact ca_ ((Kd.C_below HR0_5.out HB.out)); exact HC0_5.out; exact ca_ ((Kd.C_below HR0_7.out HB.out)); exact HC0_7.out; rintro e w32 ⟨rfl, hb⟩; replace HB := Aside0.mk (below_step bel_ hb); clear hb))
        go_ret
        exact ⟨by first | rfl | (simp [errW_none, errW_some] <;> rfl) | (simp [*, errW_none, errW_some] <;> rfl), bel_⟩
       ·
        replace c16 := Bool.eq_false_iff.mpr c16
        subst c16
        have H1 : (none) = some r := by rw [if_neg (show ¬ (false = true) by decide)] at H; exact H
        clear H
        have H := H1
        clear H1
        exact absurd H (by simp)
      ·
       replace c14 := Bool.eq_false_iff.mpr c14
       subst c14
       have H1 : (none) = some r := by rw [if_neg (show ¬ (false = true) by decide)] at H; exact H
       clear H
       have H := H1
       clear H1
       exact absurd H (by simp)
    ·
     rw [if_neg c9] at H
     exact absurd H (by simp)
   ·
    replace c8 := Bool.eq_false_iff.mpr c8
    subst c8
    have H1 : (none) = some r := by rw [if_neg (show ¬ (false = true) by decide)] at H; exact H
    clear H
    have H := H1
    clear H1
    exact absurd H (by simp)
  ·
   replace c6 := Bool.eq_false_iff.mpr c6
   subst c6
   have H1 : (none) = some r := by rw [if_neg (show ¬ (false = true) by decide)] at H; exact H
   clear H
   have H := H1
   clear H1
   exact absurd H (by simp)

/-! ### dom_Dom_73_at_prop_Fits_1: function 73 -/
def dom_Dom_73_at_prop_Fits_1.l0 : Nat → List (S58) → Int → Int → Option (Int)
 | 0, _, _, _ => none
 | k + 1, x0, x7, x8 => if x8 < x7 then (if 0 ≤ x8 then (if x8 < (x0.length : Int) then ((prop_Fits_1.f ((rd_T58 x0 x8).f0) ((rd_T58 x0 x8).f1) ((rd_T58 x0 x8).f2) ((rd_T58 x0 x8).f3) ((rd_T58 x0 x8).f4)).bind fun t291 => (if t291 = true then (some x8) else (dom_Dom_73_at_prop_Fits_1.l0 k x0 x7 (wrap64 (x8 + 1))))) else (none)) else (none)) else (some (-1))
def dom_Dom_73_at_prop_Fits_1.f (k : Nat) (l0 : List (S58))  : Option (Int) := dom_Dom_73_at_prop_Fits_1.l0 k l0 (l0.length : Int) 0
theorem dom_Dom_73_at_prop_Fits_1.mono_l : ∀ k, (∀ y0 y1 y2, LeO (dom_Dom_73_at_prop_Fits_1.l0 k y0 y1 y2) (dom_Dom_73_at_prop_Fits_1.l0 (k + 1) y0 y1 y2))
 | 0 => fun _ _ _ r h => by simp [dom_Dom_73_at_prop_Fits_1.l0] at h
 | k + 1 => by
  have ih0 := dom_Dom_73_at_prop_Fits_1.mono_l k
  ·
   intro y0 y1 y2
   unfold dom_Dom_73_at_prop_Fits_1.l0
   exact leo_
theorem dom_Dom_73_at_prop_Fits_1.mono : ∀ a0 k, LeO (dom_Dom_73_at_prop_Fits_1.f k a0) (dom_Dom_73_at_prop_Fits_1.f (k + 1) a0) := by
 intro a0 k
 have ih0 := dom_Dom_73_at_prop_Fits_1.mono_l k
 unfold dom_Dom_73_at_prop_Fits_1.f
 exact leo_
set_option maxHeartbeats 8000000 in
set_option maxRecDepth 100000 in
theorem dom_Dom_73_at_prop_Fits_1.calls (k : Nat) (A0 : Option Addr) (c0 : Nat) (l0 : List (S58))  (r : Int) (w : World) (hr0 : Kd.C k58 w A0 l0.length l0) (hc0 : l0.length ≤ c0) (h : dom_Dom_73_at_prop_Fits_1.f k l0 = some r) :
  Calls Tryz.prog 73 #[.slice A0 l0.length c0, .func (.func 55) #[] #[]] w fun e w' => e = .returned (.int .i64 r) ∧ Below w.heap.size w w' := by
 have hu58 := Tryz.underlying58
 have HR0 := Aside0.mk hr0
 have HC0 := Aside0.mk hc0
 clear hr0 hc0
 have HB := Aside0.mk (Below.refl w.heap.size w)
 have H : (dom_Dom_73_at_prop_Fits_1.l0 k l0 (l0.length : Int) 0) = some r := h
 clear h
 have H' := Aside0.mk H
 clear H
 go_enter Tryz.func73, Tryz.ntmps73
 go_wp2
 go_loopg [8] k (fun kq v8 w' => ∃ (x8_1 : Int), v8 = .int .i64 x8_1 ∧ Aside0 (dom_Dom_73_at_prop_Fits_1.l0 kq l0 (l0.length : Int) x8_1 = some r) ∧ Aside0 (kq ≤ k) ∧ Aside0 (Below w.heap.size w w'))
 case atStart => exact ⟨(0), eq_, H', ⟨Nat.le_refl _⟩, ⟨bel_⟩⟩
 case round =>
  clear H'
  try clear p2
  obtain ⟨x8_1, rfl, HA, HK1, HB⟩ := hrel
  cases gk with
  | zero => exact absurd HA.out (by simp [dom_Dom_73_at_prop_Fits_1.l0])
  | succ k1 =>
   have H := HA.out
   clear HA
   simp only [dom_Dom_73_at_prop_Fits_1.l0] at H
   by_cases c3 : x8_1 < (l0.length : Int)
   ·
    rw [if_pos c3] at H
    have c3b0 : decide (x8_1 < (l0.length : Int)) = true := decide_eq_true c3
    clear c3
    by_cases c4 : 0 ≤ x8_1
    ·
     rw [if_pos c4] at H
     have c4b0 : decide (0 ≤ x8_1) = true := decide_eq_true c4
     clear c4
     by_cases c5 : x8_1 < (l0.length : Int)
     ·
      rw [if_pos c5] at H
      have c5b0 : decide (x8_1 < (l0.length : Int)) = true := decide_eq_true c5
      clear c5
      replace H := Option.bind_eq_some_iff.mp H
      obtain ⟨t291, A60, H⟩ := H
      try dsimp only at H
      have A6 := Aside0.mk A60
      clear A60
      by_cases c7 : t291 = true
      ·
       subst c7
       have H1 : (some x8_1) = some r := by rw [if_pos rfl] at H; exact H
       clear H
       have H := H1
       clear H1
       obtain rfl := Option.some.inj H
       have p290 : 0 ≤ (x8_1 : Int) := dq_
       have q290 : x8_1 < (l0.length : Int) := dq_
       obtain ⟨ad290, A290_1, c290_1, e290, hx290_0, hx290_1, hx290_2, hx290_3, hx290_4, hl290_1, hi290_1⟩ := at_T58 HR0.out x8_1 p290 q290
       cases e290
       replace hx290_0 := (HB.out.cell (World.block_lt_of_cell? w _ hx290_0)).trans hx290_0
       replace hx290_1 := (HB.out.cell (World.block_lt_of_cell? w _ hx290_1)).trans hx290_1
       replace hx290_2 := (HB.out.cell (World.block_lt_of_cell? w _ hx290_2)).trans hx290_2
       replace hx290_3 := (HB.out.cell (World.block_lt_of_cell? w _ hx290_3)).trans hx290_3
       replace hx290_4 := (HB.out.cell (World.block_lt_of_cell? w _ hx290_4)).trans hx290_4
       have HR290_1 := Aside0.mk hi290_1
       have HC290_1 := Aside0.mk hl290_1
       clear hi290_1 hl290_1
       replace p290 := eq_true p290
       replace q290 := eq_true q290
       go_wp2_with (first | (go_at_call 55; (with_reducible refine (prop_Fits_1.calls ((rd_T58 l0 x8_1).f0) _ _ ((rd_T58 l0 x8_1).f1) ((rd_T58 l0 x8_1).f2) ((rd_T58 l0 x8_1).f3) ((rd_T58 l0 x8_1).f4) true _ ?_ ?_ A6.out).mono ?_); exact ca_ ((Kd.C_below HR290_1.out HB.out)); exact HC290_1.out; rintro e w8 ⟨rfl, hb⟩; replace HB := Aside0.mk (below_step bel_ hb); clear hb))
       go_ret
       exact ⟨by first | rfl | (simp [errW_none, errW_some] <;> rfl) | (simp [*, errW_none, errW_some] <;> rfl), bel_⟩
      ·
       replace c7 := Bool.eq_false_iff.mpr c7
       subst c7
       have H1 : (dom_Dom_73_at_prop_Fits_1.l0 k1 l0 (l0.length : Int) (wrap64 (x8_1 + 1))) = some r := by rw [if_neg (show ¬ (false = true) by decide)] at H; exact H
       clear H
       have H := H1
       clear H1
       have H' := Aside0.mk H
       clear H
       have p290 : 0 ≤ (x8_1 : Int) := dq_
       have q290 : x8_1 < (l0.length : Int) := dq_
       obtain ⟨ad290, A290_1, c290_1, e290, hx290_0, hx290_1, hx290_2, hx290_3, hx290_4, hl290_1, hi290_1⟩ := at_T58 HR0.out x8_1 p290 q290
       cases e290
       replace hx290_0 := (HB.out.cell (World.block_lt_of_cell? w _ hx290_0)).trans hx290_0
       replace hx290_1 := (HB.out.cell (World.block_lt_of_cell? w _ hx290_1)).trans hx290_1
       replace hx290_2 := (HB.out.cell (World.block_lt_of_cell? w _ hx290_2)).trans hx290_2
       replace hx290_3 := (HB.out.cell (World.block_lt_of_cell? w _ hx290_3)).trans hx290_3
       replace hx290_4 := (HB.out.cell (World.block_lt_of_cell? w _ hx290_4)).trans hx290_4
       have HR290_1 := Aside0.mk hi290_1
       have HC290_1 := Aside0.mk hl290_1
       clear hi290_1 hl290_1
       replace p290 := eq_true p290
       replace q290 := eq_true q290
       go_wp2_with (first | (go_at_call 55; (with_reducible refine (prop_Fits_1.calls ((rd_T58 l0 x8_1).f0) _ _ ((rd_T58 l0 x8_1).f1) ((rd_T58 l0 x8_1).f2) ((rd_T58 l0 x8_1).f3) ((rd_T58 l0 x8_1).f4) false _ ?_ ?_ A6.out).mono ?_); exact ca_ ((Kd.C_below HR290_1.out HB.out)); exact HC290_1.out; rintro e w9 ⟨rfl, hb⟩; replace HB := Aside0.mk (below_step bel_ hb); clear hb))
       go_roundg k1
       case measure => have := HK1.out; omega
       case rel => exact ⟨(wrap64 (x8_1 + 1)), eq_, H', ⟨by have := HK1.out; omega⟩, ⟨bel_⟩⟩
     ·
      rw [if_neg c5] at H
      exact absurd H (by simp)
    ·
     rw [if_neg c4] at H
     exact absurd H (by simp)
   ·
    rw [if_neg c3] at H
    have c3b0 : decide (x8_1 < (l0.length : Int)) = false := decide_eq_false c3
    clear c3
    obtain rfl := Option.some.inj H
    go_wp2
    go_ret
    exact ⟨by first | rfl | (simp [errW_none, errW_some] <;> rfl) | (simp [*, errW_none, errW_some] <;> rfl), bel_⟩

/-! ### dom_Dom_54_at_prop_Fits_1: function 54 -/
def dom_Dom_54_at_prop_Fits_1.f (k : Nat) (l0 : List (S58))  : Option (Bool) := (dom_Dom_73_at_prop_Fits_1.f k l0).bind fun t292 => (some (decide (t292 ≥ 0)))
theorem dom_Dom_54_at_prop_Fits_1.mono : ∀ a0 k, LeO (dom_Dom_54_at_prop_Fits_1.f k a0) (dom_Dom_54_at_prop_Fits_1.f (k + 1) a0) := by
 intro a0 k
 unfold dom_Dom_54_at_prop_Fits_1.f
 have m0 := @dom_Dom_73_at_prop_Fits_1.mono
 exact leo_
set_option maxHeartbeats 8000000 in
set_option maxRecDepth 100000 in
theorem dom_Dom_54_at_prop_Fits_1.calls (k : Nat) (A0 : Option Addr) (c0 : Nat) (l0 : List (S58))  (r : Bool) (w : World) (hr0 : Kd.C k58 w A0 l0.length l0) (hc0 : l0.length ≤ c0) (h : dom_Dom_54_at_prop_Fits_1.f k l0 = some r) :
  Calls Tryz.prog 54 #[.slice A0 l0.length c0, .func (.func 55) #[] #[]] w fun e w' => e = .returned (.bool r) ∧ Below w.heap.size w w' := by
 have HR0 := Aside0.mk hr0
 have HC0 := Aside0.mk hc0
 clear hr0 hc0
 have HB := Aside0.mk (Below.refl w.heap.size w)
 have H : ((dom_Dom_73_at_prop_Fits_1.f k l0).bind fun t292 => (some (decide (t292 ≥ 0)))) = some r := h
 clear h
 replace H := Option.bind_eq_some_iff.mp H
 obtain ⟨t292, A30, H⟩ := H
 try dsimp only at H
 have A3 := Aside0.mk A30
 clear A30
 obtain rfl := Option.some.inj H
 go_enter Tryz.func54, Tryz.ntmps54
 go_wp2_with (first | ((with_reducible refine gate_callee (f := 73) rfl ?_); refine goesL_ (some 7) rfl rfl Tryz.func73 (by kernel_rfl) rfl #[.slice A0 l0.length c0, .func (.func 55) #[] #[]] rfl ar_ ?_; (with_reducible refine (dom_Dom_73_at_prop_Fits_1.calls k _ _ l0 t292 _ ?_ ?_ A3.out).mono ?_); exact ca_ (HR0.out); exact HC0.out; rintro e w4 ⟨rfl, hb⟩; refine ⟨_, rfl, ?_⟩; replace HB := Aside0.mk (below_step bel_ hb); clear hb))
 go_ret
 exact ⟨by first | rfl | (simp [errW_none, errW_some] <;> rfl) | (simp [*, errW_none, errW_some] <;> rfl), bel_⟩

end Go.Proofs.YtmhchlbbfpmdgaaGreatDoor.XClauseKeeps
