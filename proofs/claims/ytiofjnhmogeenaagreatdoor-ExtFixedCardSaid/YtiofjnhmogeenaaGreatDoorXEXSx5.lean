-- by xprint.py, a program of this session, over the kit's print
import Derived.Test.YtiofjnhmogeenaaGreatDoorXEXSx0
import Derived.Test.YtiofjnhmogeenaaGreatDoorXEXSx4
import Derived.Test.YtiofjnhmogeenaaGreatDoorSq
namespace Go.Proofs.YtiofjnhmogeenaaGreatDoor.XExtFixed
open Go.RowKit Go.Proofs.YtiofjnhmogeenaaGreatDoor.Sq Go.Proofs.YtiofjnhmogeenaaGreatDoorW.PrintWords Go.Proofs.YtiofjnhmogeenaaGreatDoorW.PrintLast Go.Proofs.YtiofjnhmogeenaaGreatDoorW.PrintMore
attribute [local go_sem] max2_int min2_int max_two min_two max_three min_three max_four min_four   -- for this text's walks alone
set_option linter.unusedVariables false
set_option linter.unusedSimpArgs false

/-! ### prop_Fits: function 27 -/
def prop_Fits.f (k : Nat) (a0_0 : Int) (l0_1 : List Int) (l0_2 : List Int) (l0_3 : List Int) (l0_4 : List Int) (l0_5 : List Int) (a0_6 : Int) (l0_7 : List (List Int)) (l1 : List (S61)) (a2 : Int) (a3 : Int) : Option (Bool) := (dom_Dom_62_at_prop_Fits_1.f k l1).bind fun t173 => (if a0_0 ≥ a2 then (if a0_0 ≤ a3 then ((model_Right.f k a0_0 l0_1 l0_2 l0_3 l0_4 l0_5 a0_6 l0_7 256).bind fun t174 => (if t174 = 0 then (if (l1.length : Int) = (wrap64 ((l0_1.length : Int) + (l0_2.length : Int))) then (some (!t173)) else (none)) else (none))) else (none)) else (some false))
theorem prop_Fits.mono : ∀ a0 a1 a2 a3 a4 a5 a6 a7 a8 a9 a10 k, LeO (prop_Fits.f k a0 a1 a2 a3 a4 a5 a6 a7 a8 a9 a10) (prop_Fits.f (k + 1) a0 a1 a2 a3 a4 a5 a6 a7 a8 a9 a10) := by
 intro a0 a1 a2 a3 a4 a5 a6 a7 a8 a9 a10 k
 unfold prop_Fits.f
 have m0 := @dom_Dom_62_at_prop_Fits_1.mono
 have m1 := @model_Right.mono
 exact leo_
set_option maxHeartbeats 8000000 in
set_option maxRecDepth 100000 in
theorem prop_Fits.calls (k : Nat) (a0_0 : Int) (A0_1 : Option Addr) (c0_1 : Nat) (l0_1 : List Int) (A0_2 : Option Addr) (c0_2 : Nat) (l0_2 : List Int) (A0_3 : Option Addr) (c0_3 : Nat) (l0_3 : List Int) (A0_4 : Option Addr) (c0_4 : Nat) (l0_4 : List Int) (A0_5 : Option Addr) (c0_5 : Nat) (l0_5 : List Int) (a0_6 : Int) (A0_7 : Option Addr) (c0_7 : Nat) (l0_7 : List (List Int)) (A1 : Option Addr) (c1 : Nat) (l1 : List (S61)) (a2 : Int) (a3 : Int) (r : Bool) (w : World) (hr0_1 : Kd.C (Kd.int .i64) w A0_1 l0_1.length l0_1) (hc0_1 : l0_1.length ≤ c0_1) (hr0_2 : Kd.C (Kd.int .i64) w A0_2 l0_2.length l0_2) (hc0_2 : l0_2.length ≤ c0_2) (hr0_3 : Kd.C (Kd.int .i64) w A0_3 l0_3.length l0_3) (hc0_3 : l0_3.length ≤ c0_3) (hr0_4 : Kd.C (Kd.int .i64) w A0_4 l0_4.length l0_4) (hc0_4 : l0_4.length ≤ c0_4) (hr0_5 : Kd.C (Kd.int .i64) w A0_5 l0_5.length l0_5) (hc0_5 : l0_5.length ≤ c0_5) (hr0_7 : Kd.C (Kd.slice 3 (Kd.int .i64)) w A0_7 l0_7.length l0_7) (hc0_7 : l0_7.length ≤ c0_7) (hr1 : Kd.C k61 w A1 l1.length l1) (hc1 : l1.length ≤ c1) (h : prop_Fits.f k a0_0 l0_1 l0_2 l0_3 l0_4 l0_5 a0_6 l0_7 l1 a2 a3 = some r) :
  Calls Tryz.prog 27 #[.agg #[.int .i64 a0_0, .slice A0_1 l0_1.length c0_1, .slice A0_2 l0_2.length c0_2, .slice A0_3 l0_3.length c0_3, .slice A0_4 l0_4.length c0_4, .slice A0_5 l0_5.length c0_5, .int .i64 a0_6, .slice A0_7 l0_7.length c0_7], .slice A1 l1.length c1, .int .i64 a2, .int .i64 a3] w fun e w' => e = .returned (.bool r) ∧ Below w.heap.size w w' := by
 have hu32 := Tryz.underlying32
 have HR0_1 := Aside0.mk hr0_1
 have HC0_1 := Aside0.mk hc0_1
 clear hr0_1 hc0_1
 have HR0_2 := Aside0.mk hr0_2
 have HC0_2 := Aside0.mk hc0_2
 clear hr0_2 hc0_2
 have HR0_3 := Aside0.mk hr0_3
 have HC0_3 := Aside0.mk hc0_3
 clear hr0_3 hc0_3
 have HR0_4 := Aside0.mk hr0_4
 have HC0_4 := Aside0.mk hc0_4
 clear hr0_4 hc0_4
 have HR0_5 := Aside0.mk hr0_5
 have HC0_5 := Aside0.mk hc0_5
 clear hr0_5 hc0_5
 have HR0_7 := Aside0.mk hr0_7
 have HC0_7 := Aside0.mk hc0_7
 clear hr0_7 hc0_7
 have HR1 := Aside0.mk hr1
 have HC1 := Aside0.mk hc1
 clear hr1 hc1
 have HB := Aside0.mk (Below.refl w.heap.size w)
 have H : ((dom_Dom_62_at_prop_Fits_1.f k l1).bind fun t173 => (if a0_0 ≥ a2 then (if a0_0 ≤ a3 then ((model_Right.f k a0_0 l0_1 l0_2 l0_3 l0_4 l0_5 a0_6 l0_7 256).bind fun t174 => (if t174 = 0 then (if (l1.length : Int) = (wrap64 ((l0_1.length : Int) + (l0_2.length : Int))) then (some (!t173)) else (none)) else (none))) else (none)) else (some false))) = some r := h
 clear h
 replace H := Option.bind_eq_some_iff.mp H
 obtain ⟨t173, A50, H⟩ := H
 try dsimp only at H
 have A5 := Aside0.mk A50
 clear A50
 by_cases c6 : a0_0 ≥ a2
 ·
  rw [if_pos c6] at H
  have c6b0 : decide (a2 ≤ a0_0) = true := decide_eq_true c6
  clear c6
  by_cases c7 : a0_0 ≤ a3
  ·
   rw [if_pos c7] at H
   have c7b0 : decide (a0_0 ≤ a3) = true := decide_eq_true c7
   clear c7
   replace H := Option.bind_eq_some_iff.mp H
   obtain ⟨t174, A80, H⟩ := H
   try dsimp only at H
   have A8 := Aside0.mk A80
   clear A80
   by_cases c9 : t174 = 0
   ·
    rw [if_pos c9] at H
    have c9b0 : (t174 == 0) = true := beq_iff_eq.mpr c9
    have c9b1 : (t174 != 0) = false := bne_eq_false_iff_eq.mpr c9
    clear c9
    by_cases c10 : (l1.length : Int) = (wrap64 ((l0_1.length : Int) + (l0_2.length : Int)))
    ·
     rw [if_pos c10] at H
     have c10b0 : ((l1.length : Int) == (wrap64 ((l0_1.length : Int) + (l0_2.length : Int)))) = true := beq_iff_eq.mpr c10
     have c10b1 : ((l1.length : Int) != (wrap64 ((l0_1.length : Int) + (l0_2.length : Int)))) = false := bne_eq_false_iff_eq.mpr c10
     clear c10
     obtain rfl := Option.some.inj H
     go_enter Tryz.func27, Tryz.ntmps27
     go_wp2_with (first | ((with_reducible refine gate_dst (N := 4) rfl ?_); (try (refine gate_guard (by rfl) ?_; dsimp only)); refine bxe_ (N := 4) (cs := #[.int .i64 a0_0, .slice A0_1 l0_1.length c0_1, .slice A0_2 l0_2.length c0_2, .slice A0_3 l0_3.length c0_3, .slice A0_4 l0_4.length c0_4, .slice A0_5 l0_5.length c0_5, .int .i64 a0_6, .slice A0_7 l0_7.length c0_7]) (t := 32) ?_; intro gb172 hg w11 hbox hb; have BK172 := Aside0.mk (hbox); have GW172 := Aside0.mk (by rw [hg]; exact (below_size bel_) : w.heap.size ≤ gb172); have GE172 := GW172; replace HB := Aside0.mk (below_step bel_ hb); clear hb hbox hg) | ((with_reducible refine gate_callee (f := 62) rfl ?_); refine goesL_ (some 11) rfl rfl Tryz.func62 (by kernel_rfl) rfl #[.slice A1 l1.length c1, .func (.func 63) #[] #[]] rfl ar_ ?_; (with_reducible refine (dom_Dom_62_at_prop_Fits_1.calls k _ _ l1 t173 _ ?_ ?_ A5.out).mono ?_); exact ca_ ((Kd.C_below HR1.out HB.out)); exact HC1.out; rintro e w12 ⟨rfl, hb⟩; refine ⟨_, rfl, ?_⟩; replace BK172 := Aside0.mk (blk_below (bk_ BK172.out) hb); replace HB := Aside0.mk (below_step bel_ hb); clear hb; obtain ⟨_, _, _, _, _, _, _, _, _, _, _, _, _, _, _, _⟩ := cel8_ BK172.out) | (go_at_call 64; (with_reducible refine (model_Right.calls k a0_0 _ _ l0_1 _ _ l0_2 _ _ l0_3 _ _ l0_4 _ _ l0_5 a0_6 _ _ l0_7 256 t174 _ ?_ ?_ ?_ ?_ ?_ ?_ ?_ ?_ ?_ ?_ ?_ ?_ A8.out).mono ?_); exact ca_ ((Kd.C_below HR0_1.out HB.out)); exact HC0_1.out; exact ca_ ((Kd.C_below HR0_2.out HB.out)); exact HC0_2.out; exact ca_ ((Kd.C_below HR0_3.out HB.out)); exact HC0_3.out; exact ca_ ((Kd.C_below HR0_4.out HB.out)); exact HC0_4.out; exact ca_ ((Kd.C_below HR0_5.out HB.out)); exact HC0_5.out; exact ca_ ((Kd.C_below HR0_7.out HB.out)); exact HC0_7.out; rintro e w14 ⟨rfl, hb⟩; replace BK172 := Aside0.mk (blk_below (bk_ BK172.out) hb); replace HB := Aside0.mk (below_step bel_ hb); clear hb; obtain ⟨_, _, _, _, _, _, _, _, _, _, _, _, _, _, _, _⟩ := cel8_ BK172.out))
     go_ret
     exact ⟨by first | rfl | (simp [errW_none, errW_some] <;> rfl) | (simp [*, errW_none, errW_some] <;> rfl), bel_⟩
    ·
     rw [if_neg c10] at H
     exact absurd H (by simp)
   ·
    rw [if_neg c9] at H
    exact absurd H (by simp)
  ·
   rw [if_neg c7] at H
   exact absurd H (by simp)
 ·
  rw [if_neg c6] at H
  have c6b0 : decide (a2 ≤ a0_0) = false := decide_eq_false c6
  clear c6
  obtain rfl := Option.some.inj H
  go_enter Tryz.func27, Tryz.ntmps27
  go_wp2_with (first | ((with_reducible refine gate_dst (N := 4) rfl ?_); (try (refine gate_guard (by rfl) ?_; dsimp only)); refine bxe_ (N := 4) (cs := #[.int .i64 a0_0, .slice A0_1 l0_1.length c0_1, .slice A0_2 l0_2.length c0_2, .slice A0_3 l0_3.length c0_3, .slice A0_4 l0_4.length c0_4, .slice A0_5 l0_5.length c0_5, .int .i64 a0_6, .slice A0_7 l0_7.length c0_7]) (t := 32) ?_; intro gb172 hg w16 hbox hb; have BK172 := Aside0.mk (hbox); have GW172 := Aside0.mk (by rw [hg]; exact (below_size bel_) : w.heap.size ≤ gb172); have GE172 := GW172; replace HB := Aside0.mk (below_step bel_ hb); clear hb hbox hg) | ((with_reducible refine gate_callee (f := 62) rfl ?_); refine goesL_ (some 11) rfl rfl Tryz.func62 (by kernel_rfl) rfl #[.slice A1 l1.length c1, .func (.func 63) #[] #[]] rfl ar_ ?_; (with_reducible refine (dom_Dom_62_at_prop_Fits_1.calls k _ _ l1 t173 _ ?_ ?_ A5.out).mono ?_); exact ca_ ((Kd.C_below HR1.out HB.out)); exact HC1.out; rintro e w17 ⟨rfl, hb⟩; refine ⟨_, rfl, ?_⟩; replace BK172 := Aside0.mk (blk_below (bk_ BK172.out) hb); replace HB := Aside0.mk (below_step bel_ hb); clear hb; obtain ⟨_, _, _, _, _, _, _, _, _, _, _, _, _, _, _, _⟩ := cel8_ BK172.out))
  go_ret
  exact ⟨by first | rfl | (simp [errW_none, errW_some] <;> rfl) | (simp [*, errW_none, errW_some] <;> rfl), bel_⟩

/-! ### bits_TrailingZeros64: function 56 -/
def tabL : List Int := [0, 1, 56, 2, 57, 49, 28, 3, 61, 58, 42, 50, 38, 29, 17, 4, 62, 47, 59, 36, 45, 43, 51, 22, 53, 39, 33, 30, 24, 18, 12, 5, 63, 55, 48, 27, 60, 41, 37, 16, 46, 35, 44, 21, 52, 32, 23, 11, 54, 26, 40, 15, 34, 20, 31, 10, 25, 14, 19, 9, 13, 8, 7, 6]
def bits_TrailingZeros64.f (a0 : Int) : Option Int := if 0 ≤ a0 ∧ a0 < 18446744073709551616 then some (Lib.ctz 64 a0.toNat : Nat) else none
theorem tz64_key (x a : Nat) (hx : x < 18446744073709551616) (hx0 : x ≠ 0) (hlow : x &&& (18446744073709551616 - x) = a) :
  IntKind.u64.wrap (Go.bits .and .u64 (x : Int) (IntKind.u64.wrap (-(x : Int))) * 285870213051353865) / 288230376151711744 = ((a * 285870213051353865 % 18446744073709551616 / 288230376151711744 : Nat) : Int) := by
 have e1 : IntKind.u64.wrap (-(x : Int)) = ((18446744073709551616 - x : Nat) : Int) := by rw [IntKind.wrap_u64]; omega
 rw [e1, bits_and_u64_nat x _ hx (by omega), hlow, IntKind.wrap_u64]
 omega
set_option maxHeartbeats 1000000 in
theorem tz64_core (x k idx : Nat) (w : World) (hx0 : ((x : Int) == 0) = false)
  (key : IntKind.u64.wrap (Go.bits .and .u64 (x : Int) (IntKind.u64.wrap (-(x : Int))) * 285870213051353865) / 288230376151711744 = (idx : Int))
  (hi : idx < 64) (hk : k < 64) (hcell : w.cell? ⟨0, idx, none⟩ = some (.int .u8 k)) :
  Calls Tryz.prog 56 #[.int .u64 x] w fun e w' => e = .returned (.int .i64 k) ∧ w = w' := by
 go_enter Tryz.func56, Tryz.ntmps56
 go_wp2_with (simp only [key])
 go_ret
 exact ⟨rfl, rfl⟩
theorem tz64_zero (w : World) : Calls Tryz.prog 56 #[.int .u64 0] w fun e w' => e = .returned (.int .i64 64) ∧ w = w' := by
 go_enter Tryz.func56, Tryz.ntmps56
 go_wp2
 go_ret
 exact ⟨rfl, rfl⟩
theorem tabL_at (i : Nat) (h : i < 64) : tabL.getD i 0 = ((Lib.deBruijn64tab.getD i 0 : Nat) : Int) := by
 revert i; decide +kernel
theorem bits_TrailingZeros64.calls (a0 : Int) (r : Int) (w : World) (hrtab : Kd.C (Kd.int .u8) w (some ⟨0, 0, none⟩) tabL.length tabL) (h : bits_TrailingZeros64.f a0 = some r) :
  Calls Tryz.prog 56 #[.int .u64 a0] w fun e w' => e = .returned (.int .i64 r) ∧ Drawn0 w w' := by
 unfold bits_TrailingZeros64.f at h
 by_cases hb : 0 ≤ a0 ∧ a0 < 18446744073709551616
 ·
  rw [if_pos hb] at h
  obtain rfl := Option.some.inj h
  obtain ⟨x, rfl⟩ := Int.eq_ofNat_of_zero_le hb.1
  rw [Int.toNat_natCast]
  by_cases hx0 : x = 0
  ·
   subst hx0
   exact (tz64_zero w).mono (fun e w' ⟨he, hw⟩ => ⟨he, by subst hw; exact Drawn0.refl _⟩)
  ·
   have hx : x < 18446744073709551616 := by omega
   obtain ⟨hlow, hk⟩ := Lib.lowest_bit 64 x hx0 hx
   obtain ⟨hi, htab⟩ := Lib.deBruijn64_at _ hk
   obtain ⟨ad, had, hcell⟩ := Kd.at_int hrtab ((2 ^ Lib.ctz 64 x * 285870213051353865 % 18446744073709551616 / 288230376151711744 : Nat) : Int) (by omega) (by show _ < ((64 : Nat) : Int); omega)
   obtain rfl := Option.some.inj had
   rw [Int.toNat_natCast] at hcell
   have e1 : rd tabL ((2 ^ Lib.ctz 64 x * 285870213051353865 % 18446744073709551616 / 288230376151711744 : Nat) : Int) = ((Lib.ctz 64 x : Nat) : Int) := by
    unfold rd
    rw [Int.toNat_natCast, tabL_at _ hi, htab]
   rw [e1, add_plain] at hcell
   exact (tz64_core x _ _ w (by simp; omega) (tz64_key x _ hx hx0 hlow) hi hk hcell).mono (fun e w' ⟨he, hw⟩ => ⟨he, by subst hw; exact Drawn0.refl _⟩)
 ·
  rw [if_neg hb] at h
  cases h

/-! ### dom_Dom_List: function 23 -/
mutual
def dom_Dom_List.l0 : Nat → List Int → List Int → Int → Int → Int → List Int → Int → Int → Int → Option (List Int)
 | 0, _, _, _, _, _, _, _, _, _ => none
 | k + 1, x3, x7, x8, x9, x176000, x176001, x176002, x176003, x176004 => if x9 < x8 then (if 0 ≤ x9 then (if x9 < (x7.length : Int) then (dom_Dom_List.l1 k x3 x9 (rd x7 x9) x7 x8 x9 x176000 x176001 x176002 x176003 x176004) else (none)) else (none)) else (some x3)
def dom_Dom_List.l1 : Nat → List Int → Int → Int → List Int → Int → Int → Int → List Int → Int → Int → Int → Option (List Int)
 | 0, _, _, _, _, _, _, _, _, _, _, _ => none
 | k + 1, x3, x4, x5, x7, x8, x9, x176000, x176001, x176002, x176003, x176004 => if x5 = 0 then (dom_Dom_List.l0 k x3 x7 x8 (wrap64 (x9 + 1)) x176000 x176001 x176002 x176003 x176004) else ((bits_TrailingZeros64.f x5).bind fun t177 => (if x3.length < 17592186044416 then (dom_Dom_List.l1 k (x3 ++ [wrap64 ((wrap64 (x176000 + (wrap64 (64 * x4)))) + t177)]) x4 (Go.bits .and .u64 x5 (IntKind.u64.wrap (x5 - 1))) x7 x8 x9 x176000 x176001 x176002 x176003 x176004) else (none)))
end
def dom_Dom_List.f (k : Nat) (a0_0 : Int) (l0_1 : List Int) (a0_2 : Int) (a0_3 : Int) (a0_4 : Int) : Option (List Int) := dom_Dom_List.l0 k ([] : List Int) l0_1 (l0_1.length : Int) 0 a0_0 l0_1 a0_2 a0_3 a0_4
theorem dom_Dom_List.mono_l : ∀ k, (∀ y0 y1 y2 y3 y4 y5 y6 y7 y8, LeO (dom_Dom_List.l0 k y0 y1 y2 y3 y4 y5 y6 y7 y8) (dom_Dom_List.l0 (k + 1) y0 y1 y2 y3 y4 y5 y6 y7 y8)) ∧ (∀ y0 y1 y2 y3 y4 y5 y6 y7 y8 y9 y10, LeO (dom_Dom_List.l1 k y0 y1 y2 y3 y4 y5 y6 y7 y8 y9 y10) (dom_Dom_List.l1 (k + 1) y0 y1 y2 y3 y4 y5 y6 y7 y8 y9 y10))
 | 0 => ⟨fun _ _ _ _ _ _ _ _ _ r h => by simp [dom_Dom_List.l0] at h, fun _ _ _ _ _ _ _ _ _ _ _ r h => by simp [dom_Dom_List.l1] at h⟩
 | k + 1 => by
  obtain ⟨ih0, ih1⟩ := dom_Dom_List.mono_l k
  refine ⟨?_, ?_⟩
  ·
   intro y0 y1 y2 y3 y4 y5 y6 y7 y8
   unfold dom_Dom_List.l0
   exact leo_
  ·
   intro y0 y1 y2 y3 y4 y5 y6 y7 y8 y9 y10
   unfold dom_Dom_List.l1
   exact leo_
theorem dom_Dom_List.mono : ∀ a0 a1 a2 a3 a4 k, LeO (dom_Dom_List.f k a0 a1 a2 a3 a4) (dom_Dom_List.f (k + 1) a0 a1 a2 a3 a4) := by
 intro a0 a1 a2 a3 a4 k
 obtain ⟨ih0, ih1⟩ := dom_Dom_List.mono_l k
 unfold dom_Dom_List.f
 exact leo_
def dom_Dom_List.T7 : Bool × List (List Nat × List Nat) := (true, [([], []), ([], []), ([1], [1]), ([], []), ([3], [3]), ([2, 4], [2, 4]), ([], []), ([6], [6]), ([5, 7], [5, 7]), ([8], [8]), ([0, 9, 7], [0, 9]), ([10, 10, 0, 1, 2, 3, 4, 5, 6, 7, 8, 9, 10], [0, 10])])
def dom_Dom_List.B7 : List Nat := [0, 0, 2, 0, 8, 30, 0, 64, 254, 510, 1023, 2047]
theorem dom_Dom_List.tab7 : rtab .any (opsOf Tryz.f23 7) = dom_Dom_List.T7 := by kernel_rfl
theorem dom_Dom_List.bits7 : waitsOk dom_Dom_List.T7.2 dom_Dom_List.B7 = true := by kernel_rfl
set_option maxHeartbeats 8000000 in
set_option maxRecDepth 100000 in
theorem dom_Dom_List.calls (k : Nat) (a0_0 : Int) (A0_1 : Option Addr) (c0_1 : Nat) (l0_1 : List Int) (a0_2 : Int) (a0_3 : Int) (a0_4 : Int) (r : List Int) (w : World) (hr0_1 : Kd.C (Kd.int .u64) w A0_1 l0_1.length l0_1) (hc0_1 : l0_1.length ≤ c0_1) (hrtab : Kd.C (Kd.int .u8) w (some ⟨0, 0, none⟩) tabL.length tabL) (h : dom_Dom_List.f k a0_0 l0_1 a0_2 a0_3 a0_4 = some r) :
  Calls Tryz.prog 23 #[.agg #[.int .i64 a0_0, .slice A0_1 l0_1.length c0_1, .int .i64 a0_2, .int .i64 a0_3, .int .i64 a0_4]] w fun e w' => ∃ v0_ : Value, e = .returned (v0_) ∧ Kd.R (Kd.int .i64) 3 w' w.heap.size (fun _ => True) v0_ r ∧ Below w.heap.size w w' := by
 have hu61 := Tryz.underlying61
 have HR0_1 := Aside0.mk hr0_1
 have HC0_1 := Aside0.mk hc0_1
 clear hr0_1 hc0_1
 have HRtab := Aside0.mk hrtab
 clear hrtab
 have HB := Aside0.mk (Below.refl w.heap.size w)
 have H : (dom_Dom_List.l0 k ([] : List Int) l0_1 (l0_1.length : Int) 0 a0_0 l0_1 a0_2 a0_3 a0_4) = some r := h
 clear h
 have H' := Aside0.mk H
 clear H
 go_enter Tryz.func23, Tryz.ntmps23
 go_wp2_with (first | ((with_reducible refine gate_dst (N := 1) rfl ?_); refine bxe_ (N := 1) (cs := #[.int .i64 a0_0, .slice A0_1 l0_1.length c0_1, .int .i64 a0_2, .int .i64 a0_3, .int .i64 a0_4]) (t := 61) ?_; intro gb175 hg w2 hbox hb; have BK175 := Aside0.mk (hbox); have GW175 := Aside0.mk (by rw [hg]; exact (below_size bel_) : w.heap.size ≤ gb175); have GE175 := GW175; replace HB := Aside0.mk (below_step bel_ hb); clear hb hbox hg; obtain ⟨hcz3_0, hcz3_1, hcz3_2, hcz3_3, hcz3_4, hfz3_0, hfz3_1, hfz3_2, hfz3_3, hfz3_4⟩ := cel5_ BK175.out))
 go_loopg [3, 9] k (fun kq v3 v9 w' => ∃ (x3_1 : List Int) (x9_1 : Int), v9 = .int .i64 x9_1 ∧ Aside0 (dom_Dom_List.l0 kq x3_1 l0_1 (l0_1.length : Int) x9_1 a0_0 l0_1 a0_2 a0_3 a0_4 = some r) ∧ Aside0 (kq ≤ k) ∧ Aside0 (Kd.R (Kd.int .i64) 3 w' w.heap.size (fun _ => True) v3 x3_1) ∧ Aside0 (w'.heap[gb175]? = some (.cells #[.int .i64 a0_0, (.slice A0_1 l0_1.length c0_1), .int .i64 a0_2, .int .i64 a0_3, .int .i64 a0_4] 61 (0, 0))) ∧ Aside0 (Below w.heap.size w w'))
 case atStart => exact ⟨(([] : List Int)), (0), eq_, H', ⟨Nat.le_refl _⟩, ⟨nil_⟩, ⟨by refine bk_ ?_; exact BK175.out⟩, ⟨bel_⟩⟩
 case round =>
  clear H'
  try clear c2
  try clear p2
  try clear hcz3_0
  try clear hcz3_1
  try clear hcz3_2
  try clear hcz3_3
  try clear hcz3_4
  try clear hfz3_0
  try clear hfz3_1
  try clear hfz3_2
  try clear hfz3_3
  try clear hfz3_4
  obtain ⟨x3_1, x9_1, rfl, HA, HK1, HO_3, BK175, HB⟩ := hrel
  cases gk with
  | zero => exact absurd HA.out (by simp [dom_Dom_List.l0])
  | succ k1 =>
   have H := HA.out
   clear HA
   simp only [dom_Dom_List.l0] at H
   by_cases c4 : x9_1 < (l0_1.length : Int)
   ·
    rw [if_pos c4] at H
    have c4b0 : decide (x9_1 < (l0_1.length : Int)) = true := decide_eq_true c4
    clear c4
    by_cases c5 : 0 ≤ x9_1
    ·
     rw [if_pos c5] at H
     have c5b0 : decide (0 ≤ x9_1) = true := decide_eq_true c5
     clear c5
     by_cases c6 : x9_1 < (l0_1.length : Int)
     ·
      rw [if_pos c6] at H
      have c6b0 : decide (x9_1 < (l0_1.length : Int)) = true := decide_eq_true c6
      clear c6
      have H' := Aside0.mk H
      clear H
      have p176 : 0 ≤ (x9_1 : Int) := dq_
      have q176 : x9_1 < (l0_1.length : Int) := dq_
      obtain ⟨ad176, e176, hx176_0⟩ := Kd.at_int HR0_1.out x9_1 p176 q176
      cases e176
      replace hx176_0 := (HB.out.cell (World.block_lt_of_cell? w _ hx176_0)).trans hx176_0
      replace p176 := eq_true p176
      replace q176 := eq_true q176
      go_wp2
      go_loopg [3, 5] k1 (fun kq v3 v5 w' => ∃ (x3_2 : List Int) (x5_2 : Int), v5 = .int .u64 x5_2 ∧ Aside0 (dom_Dom_List.l1 kq x3_2 x9_1 x5_2 l0_1 (l0_1.length : Int) x9_1 a0_0 l0_1 a0_2 a0_3 a0_4 = some r) ∧ Aside0 (kq ≤ k1) ∧ Aside0 (Kd.R (Kd.int .i64) 3 w' w.heap.size (fun _ => True) v3 x3_2) ∧ Aside0 (w'.heap[gb175]? = some (.cells #[.int .i64 a0_0, (.slice (some ad176) l0_1.length c0_1), .int .i64 a0_2, .int .i64 a0_3, .int .i64 a0_4] 61 (0, 0))) ∧ Aside0 (Below w.heap.size w w'))
      case atStart => exact ⟨(x3_1), (rd l0_1 x9_1), eq_, H', ⟨Nat.le_refl _⟩, ⟨by refine vR_ ?_; exact HO_3.out⟩, ⟨by refine bk_ ?_; exact BK175.out⟩, ⟨bel_⟩⟩
      case round =>
       clear H'
       try clear p1
       try clear q1
       try clear hx1
       try clear c2
       try clear p2
       try clear c4
       try clear c4b0
       try clear c5
       try clear c5b0
       try clear c6
       try clear c6b0
       try clear hcz3_0
       try clear hcz3_1
       try clear hcz3_2
       try clear hcz3_3
       try clear hcz3_4
       try clear hfz3_0
       try clear hfz3_1
       try clear hfz3_2
       try clear hfz3_3
       try clear hfz3_4
       try clear hx176_0
       try clear p176
       try clear p2
       try clear q176
       obtain ⟨x3_2, x5_2, rfl, HA, HK2, HO_3, BK175, HB⟩ := hrel
       cases gk with
       | zero => exact absurd HA.out (by simp [dom_Dom_List.l1])
       | succ k2 =>
        have H := HA.out
        clear HA
        simp only [dom_Dom_List.l1] at H
        by_cases c7 : x5_2 = 0
        ·
         rw [if_pos c7] at H
         have c7b0 : (x5_2 == 0) = true := beq_iff_eq.mpr c7
         have c7b1 : (x5_2 != 0) = false := bne_eq_false_iff_eq.mpr c7
         clear c7
         have H' := Aside0.mk H
         clear H
         go_wp2
         go_roundg k2
         case measure => have := HK1.out; have := HK2.out; omega
         case rel => exact ⟨(x3_2), (wrap64 (x9_1 + 1)), eq_, H', ⟨by have := HK1.out; have := HK2.out; omega⟩, ⟨by refine vR_ ?_; exact HO_3.out⟩, ⟨by refine bk_ ?_; exact BK175.out⟩, ⟨bel_⟩⟩
        ·
         rw [if_neg c7] at H
         have c7b0 : (x5_2 == 0) = false := beq_eq_false_iff_ne.mpr c7
         have c7b1 : (x5_2 != 0) = true := bne_iff_ne.mpr c7
         replace H := Option.bind_eq_some_iff.mp H
         obtain ⟨t177, A80, H⟩ := H
         try dsimp only at H
         have A8 := Aside0.mk A80
         clear A80
         by_cases c9 : x3_2.length < 17592186044416
         ·
          rw [if_pos c9] at H
          have LMc9 := Aside0.mk c9
          clear c9
          obtain ⟨y178, hy178⟩ : ∃ y_ : List Int, y_ = (x3_2 ++ [wrap64 ((wrap64 (a0_0 + (wrap64 (64 * x9_1)))) + t177)]) := ⟨_, rfl⟩
          replace H : (dom_Dom_List.l1 k2 y178 x9_1 (Go.bits .and .u64 x5_2 (IntKind.u64.wrap (x5_2 - 1))) l0_1 (l0_1.length : Int) x9_1 a0_0 l0_1 a0_2 a0_3 a0_4) = some r := by first | (rw [hy178]; with_reducible exact H) | (have H2_ := (Option.bind_some _ _).symm.trans H; rw [hy178]; with_reducible exact H2_) | (have H2_ := (Option.bind_some _ _).symm.trans H; with_reducible exact H2_) | with_reducible exact H | (rw [hy178]; exact H) | exact H
          have Ny178 := Aside0.mk hy178
          clear hy178
          have H' := Aside0.mk H
          clear H
          try go_wp2
          replace HO_3 := Aside0.mk (Kd.R_drew HO_3.out)
          replace BK175 := Aside0.mk (blk_drew BK175.out)
          replace HB := Aside0.mk (below_drew1 HB.out)
          refine start_ (n := 12) (S := fun w' => w'.cell? ⟨gb175, 0, none⟩ = some (.int .i64 a0_0) ∧ w'.cell? ⟨gb175, 1, none⟩ = some (.slice (some ad176) l0_1.length c0_1) ∧ w'.cell? ⟨gb175, 2, none⟩ = some (.int .i64 a0_2) ∧ w'.cell? ⟨gb175, 3, none⟩ = some (.int .i64 a0_3) ∧ w'.cell? ⟨gb175, 4, none⟩ = some (.int .i64 a0_4)) (ds := []) #[false, false, false, false, false, false, false, false, false, false, false, false] (by kernel_rfl) rfl rfl ⟨(blk_cell BK175.out 0).trans rfl, (blk_cell BK175.out 1).trans rfl, (blk_cell BK175.out 2).trans rfl, (blk_cell BK175.out 3).trans rfl, (blk_cell BK175.out 4).trans rfl⟩ (fun hHeld => ?_); refine with_tabW dom_Dom_List.tab7 dom_Dom_List.bits7 (fun HT_ HW_ => ?_)
          generalize wr.drew = w10 at HO_3 BK175 HB hHeld ⊢
          refine pur_ (i := 0) (N := some 20) #[true, false, false, false, false, false, false, false, false, false, false, false] (any_of HT_.out (by kernel_rfl)) ?_
          refine pur_ (i := 1) (N := some 21) #[true, true, false, false, false, false, false, false, false, false, false, false] (any_of HT_.out (by kernel_rfl)) ?_
          refine pur_ (i := 3) (N := some 23) #[true, true, false, true, false, false, false, false, false, false, false, false] (any_of HT_.out (by kernel_rfl)) ?_
          refine pur_ (i := 4) (N := some 24) #[true, true, false, true, true, false, false, false, false, false, false, false] (any_of HT_.out (by kernel_rfl)) ?_
          refine pur_ (i := 6) (N := some 26) #[true, true, false, true, true, false, true, false, false, false, false, false] (any_of HT_.out (by kernel_rfl)) ?_
          refine take_ (i := 2) (N := some 22) (v := ?_) (a' := ?_) #[true, true, true, true, true, false, true, false, false, false, false, false] rfl rfl (take_ofW HT_.out HW_.out (by kernel_rfl)) (fun _ _ _ h => h) (Or.inl ⟨by rfl, ?_⟩) hHeld ?_ ?_
          rotate_left
          ·
           rintro w' ⟨s0, s1, s2, s3, s4⟩
           go_simp
           with_reducible rfl
          rotate_left
          ·
           simp only [Act.put, List.setIfInBounds_toArray, List.set_cons_zero, List.set_cons_succ, i64_w, i32_w]
           rfl
          refine pur_ (i := 5) (N := some 25) #[true, true, true, true, true, true, true, false, false, false, false, false] (any_of HT_.out (by kernel_rfl)) ?_
          refine one_ (i := 7) (N := some 27) #[true, true, true, true, true, true, true, true, false, false, false, false] rfl rfl (one_of HT_.out (by kernel_rfl)) (by decide) (fun K hK => ?_)
          refine goes_ Tryz.func56 (by kernel_rfl) rfl #[.int .u64 x5_2] (by rfl) rfl rfl ar_ ?_
          with_reducible refine (bits_TrailingZeros64.calls x5_2 t177 _ ?_ A8.out).mono ?_
          exact ca_ ((Kd.C_below HRtab.out HB.out))
          rintro e w' ⟨rfl, ⟨nd, rfl⟩⟩
          refine ⟨_, rfl, ?_⟩
          refine hK.out _ _ ⟨(blk_cell BK175.out 0).trans rfl, (blk_cell BK175.out 1).trans rfl, (blk_cell BK175.out 2).trans rfl, (blk_cell BK175.out 3).trans rfl, (blk_cell BK175.out 4).trans rfl⟩ (fun hHeld => ?_)
          clear hK K
          refine nor_ (N := some 27) ?_
          refine pur_ (i := 8) (N := some 28) #[true, true, true, true, true, true, true, true, true, false, false, false] (any_of HT_.out (by kernel_rfl)) ?_
          refine one_ (i := 9) (N := some 29) #[true, true, true, true, true, true, true, true, true, true, false, false] rfl rfl (one_of HT_.out (by kernel_rfl)) (by decide) (fun K hK => ?_)
          refine value_ (w1 := ?_) (v := ?_) (by rfl) rfl ?_ ?_
          rotate_left 2
          ·
           go_simp
           constructor
           ·
            rfl
           ·
            rfl
          refine hK.out _ _ ⟨(blk_cell (blk_alloc BK175.out _) 0).trans rfl, (blk_cell (blk_alloc BK175.out _) 1).trans rfl, (blk_cell (blk_alloc BK175.out _) 2).trans rfl, (blk_cell (blk_alloc BK175.out _) 3).trans rfl, (blk_cell (blk_alloc BK175.out _) 4).trans rfl⟩ (fun hHeld => ?_)
          clear hK K
          refine nor_ (N := some 29) ?_
          refine one_ (i := 10) (N := some 30) #[true, true, true, true, true, true, true, true, true, true, true, false] rfl rfl (one_of HT_.out (by kernel_rfl)) (by decide) (fun K hK => ?_)
          refine Kd.R_append_step (Kd.int .i64) (w0 := w) w.heap.size (by rfl) (.tmp 20) (.tmp 29) 30 3 (.int .i64 0) 8 rfl Tryz.underlying30 info3 rfl (by decide) (by omega) u3 x3_2 (wrap64 ((wrap64 (a0_0 + (wrap64 (64 * x9_1)))) + t177)) [.int .i64 (wrap64 ((wrap64 (a0_0 + (wrap64 (64 * x9_1)))) + t177))] (fun _ => True) (fun _ => False) rfl rfl ?aP (fun _ hk => hk.elim) ?aF ?aO ?aB ?aS ?aL ?_
          (case aP => exact rfl)
          (case aB => exact bel_)
          (case aF => exact (fun _ _ => trivial))
          (case aO => exact (vR_ HO_3.out))
          (case aS => exact (below_size bel_))
          (case aL => have := LMc9.out; omega)
          intro v179 w11 ho hb hg hat
          rw [← Ny178.out] at ho
          replace BK175 := Aside0.mk (blk_grown (bk_ BK175.out) hg (Kd.R_ne HO_3.out BK175.out (by decide)))
          replace HB := Aside0.mk (hb)
          have HO180 := Aside0.mk (ho)
          clear HO_3
          clear ho hb hg hat
          refine hK.out _ _ ⟨(blk_cell BK175.out 0).trans rfl, (blk_cell BK175.out 1).trans rfl, (blk_cell BK175.out 2).trans rfl, (blk_cell BK175.out 3).trans rfl, (blk_cell BK175.out 4).trans rfl⟩ (fun hHeld => ?_)
          clear hK K
          refine nor_ (N := some 30) ?_
          refine pur_ (i := 11) (N := some 3) #[true, true, true, true, true, true, true, true, true, true, true, true] (any_of HT_.out (by kernel_rfl)) ?_
          refine done_ (done_of HT_.out (by kernel_rfl)) ?_
          try go_wp2
          go_roundg k2
          case measure => have := HK1.out; have := HK2.out; omega
          case rel => exact ⟨(y178), (Go.bits .and .u64 x5_2 (IntKind.u64.wrap (x5_2 - 1))), eq_, H', ⟨by have := HK1.out; have := HK2.out; omega⟩, ⟨by refine vR_ ?_; exact HO180.out⟩, ⟨by refine bk_ ?_; exact BK175.out⟩, ⟨bel_⟩⟩
         ·
          rw [if_neg c9] at H
          exact absurd H (by simp)
     ·
      rw [if_neg c6] at H
      exact absurd H (by simp)
    ·
     rw [if_neg c5] at H
     exact absurd H (by simp)
   ·
    rw [if_neg c4] at H
    have c4b0 : decide (x9_1 < (l0_1.length : Int)) = false := decide_eq_false c4
    clear c4
    obtain rfl := Option.some.inj H
    go_wp2
    go_ret
    exact ⟨_, by first | rfl | (simp [errW_none, errW_some] <;> rfl) | (simp [*, errW_none, errW_some] <;> rfl), by refine vR_ ?_; exact HO_3.out, bel_⟩

/-! ### dom_in: function 58 -/
def dom_in.f (a0 : Int) : Option (Bool) := if a0 ≥ (-1000000) then (some (decide (a0 ≤ 1000000))) else (some false)
set_option maxHeartbeats 8000000 in
set_option maxRecDepth 100000 in
theorem dom_in.calls (a0 : Int) (r : Bool) (w : World) (h : dom_in.f a0 = some r) :
  Calls Tryz.prog 58 #[.int .i64 a0] w fun e w' => e = .returned (.bool r) ∧ Drawn0 w w' := by
 have H : (if a0 ≥ (-1000000) then (some (decide (a0 ≤ 1000000))) else (some false)) = some r := h
 clear h
 by_cases c2 : a0 ≥ (-1000000)
 ·
  rw [if_pos c2] at H
  have c2b0 : decide ((-1000000) ≤ a0) = true := decide_eq_true c2
  clear c2
  obtain rfl := Option.some.inj H
  go_enter Tryz.func58, Tryz.ntmps58
  go_wp2
  go_ret
  exact ⟨by first | rfl | (simp; done) | (simp [*]; done), by repeat (first | exact Drawn0.refl _ | apply Drawn0.step)⟩
 ·
  rw [if_neg c2] at H
  have c2b0 : decide ((-1000000) ≤ a0) = false := decide_eq_false c2
  clear c2
  obtain rfl := Option.some.inj H
  go_enter Tryz.func58, Tryz.ntmps58
  go_wp2
  go_ret
  exact ⟨by first | rfl | (simp; done) | (simp [*]; done), by repeat (first | exact Drawn0.refl _ | apply Drawn0.step)⟩

/-! ### dom_Dom_word: function 59 -/
def dom_Dom_word.f (a0_0 : Int) (l0_1 : List Int) (a0_2 : Int) (a0_3 : Int) (a0_4 : Int) (a1 : Int) : Option (Int) := if a1 < a0_0 then (some 0) else (if (wrap64 (Int.tdiv (wrap64 (a1 - a0_0)) 64)) ≥ (l0_1.length : Int) then (some 0) else (if 0 ≤ (wrap64 (Int.tdiv (wrap64 (a1 - a0_0)) 64)) then (if (wrap64 (Int.tdiv (wrap64 (a1 - a0_0)) 64)) < (l0_1.length : Int) then (some (rd l0_1 (wrap64 (Int.tdiv (wrap64 (a1 - a0_0)) 64)))) else (none)) else (none)))
set_option maxHeartbeats 8000000 in
set_option maxRecDepth 100000 in
theorem dom_Dom_word.calls (a0_0 : Int) (A0_1 : Option Addr) (c0_1 : Nat) (l0_1 : List Int) (a0_2 : Int) (a0_3 : Int) (a0_4 : Int) (a1 : Int) (r : Int) (w : World) (hr0_1 : Kd.C (Kd.int .u64) w A0_1 l0_1.length l0_1) (hc0_1 : l0_1.length ≤ c0_1) (h : dom_Dom_word.f a0_0 l0_1 a0_2 a0_3 a0_4 a1 = some r) :
  Calls Tryz.prog 59 #[.agg #[.int .i64 a0_0, .slice A0_1 l0_1.length c0_1, .int .i64 a0_2, .int .i64 a0_3, .int .i64 a0_4], .int .i64 a1] w fun e w' => e = .returned (.int .u64 r) ∧ Below w.heap.size w w' := by
 have hu61 := Tryz.underlying61
 have HR0_1 := Aside0.mk hr0_1
 have HC0_1 := Aside0.mk hc0_1
 clear hr0_1 hc0_1
 have HB := Aside0.mk (Below.refl w.heap.size w)
 have H : (if a1 < a0_0 then (some 0) else (if (wrap64 (Int.tdiv (wrap64 (a1 - a0_0)) 64)) ≥ (l0_1.length : Int) then (some 0) else (if 0 ≤ (wrap64 (Int.tdiv (wrap64 (a1 - a0_0)) 64)) then (if (wrap64 (Int.tdiv (wrap64 (a1 - a0_0)) 64)) < (l0_1.length : Int) then (some (rd l0_1 (wrap64 (Int.tdiv (wrap64 (a1 - a0_0)) 64)))) else (none)) else (none)))) = some r := h
 clear h
 by_cases c3 : a1 < a0_0
 ·
  rw [if_pos c3] at H
  have c3b0 : decide (a1 < a0_0) = true := decide_eq_true c3
  clear c3
  obtain rfl := Option.some.inj H
  go_enter Tryz.func59, Tryz.ntmps59
  go_wp2_with (first | ((with_reducible refine gate_dst (N := 2) rfl ?_); (try (refine gate_guard (by rfl) ?_; dsimp only)); refine bxe_ (N := 2) (cs := #[.int .i64 a0_0, .slice A0_1 l0_1.length c0_1, .int .i64 a0_2, .int .i64 a0_3, .int .i64 a0_4]) (t := 61) ?_; intro gb181 hg w4 hbox hb; have BK181 := Aside0.mk (hbox); have GW181 := Aside0.mk (by rw [hg]; exact (below_size bel_) : w.heap.size ≤ gb181); have GE181 := GW181; replace HB := Aside0.mk (below_step bel_ hb); clear hb hbox hg; obtain ⟨_, _, _, _, _, _, _, _, _, _⟩ := cel5_ BK181.out))
  go_ret
  exact ⟨by first | rfl | (simp [errW_none, errW_some] <;> rfl) | (simp [*, errW_none, errW_some] <;> rfl), bel_⟩
 ·
  rw [if_neg c3] at H
  have c3b0 : decide (a1 < a0_0) = false := decide_eq_false c3
  clear c3
  by_cases c6 : (wrap64 (Int.tdiv (wrap64 (a1 - a0_0)) 64)) ≥ (l0_1.length : Int)
  ·
   rw [if_pos c6] at H
   have c6b0 : decide ((l0_1.length : Int) ≤ (wrap64 (Int.tdiv (wrap64 (a1 - a0_0)) 64))) = true := decide_eq_true c6
   clear c6
   obtain rfl := Option.some.inj H
   go_enter Tryz.func59, Tryz.ntmps59
   go_wp2_with (first | ((with_reducible refine gate_dst (N := 2) rfl ?_); (try (refine gate_guard (by rfl) ?_; dsimp only)); refine bxe_ (N := 2) (cs := #[.int .i64 a0_0, .slice A0_1 l0_1.length c0_1, .int .i64 a0_2, .int .i64 a0_3, .int .i64 a0_4]) (t := 61) ?_; intro gb181 hg w7 hbox hb; have BK181 := Aside0.mk (hbox); have GW181 := Aside0.mk (by rw [hg]; exact (below_size bel_) : w.heap.size ≤ gb181); have GE181 := GW181; replace HB := Aside0.mk (below_step bel_ hb); clear hb hbox hg; obtain ⟨_, _, _, _, _, _, _, _, _, _⟩ := cel5_ BK181.out))
   go_ret
   exact ⟨by first | rfl | (simp [errW_none, errW_some] <;> rfl) | (simp [*, errW_none, errW_some] <;> rfl), bel_⟩
  ·
   rw [if_neg c6] at H
   have c6b0 : decide ((l0_1.length : Int) ≤ (wrap64 (Int.tdiv (wrap64 (a1 - a0_0)) 64))) = false := decide_eq_false c6
   clear c6
   obtain ⟨ji9, hji9⟩ : ∃ j_ : Int, (wrap64 (Int.tdiv (wrap64 (a1 - a0_0)) 64)) = j_ := ⟨_, rfl⟩
   replace H : (if 0 ≤ (ji9) then (if (ji9) < (l0_1.length : Int) then (some (rd l0_1 (ji9))) else (none)) else (none)) = some r := by first | (rw [hji9] at H; exact H) | (simp only [hji9] at H ⊢; exact H)
   (try rw [hji9] at c6b0)
   have hji9w : (IntKind.i64.wrap (Int.tdiv (wrap64 (a1 - a0_0)) 64)) = ji9 := (i64_w _).trans hji9
   by_cases c10 : 0 ≤ (ji9)
   ·
    rw [if_pos c10] at H
    have c10b0 : decide (0 ≤ (ji9)) = true := decide_eq_true c10
    clear c10
    by_cases c11 : (ji9) < (l0_1.length : Int)
    ·
     rw [if_pos c11] at H
     have c11b0 : decide ((ji9) < (l0_1.length : Int)) = true := decide_eq_true c11
     clear c11
     obtain rfl := Option.some.inj H
     go_enter Tryz.func59, Tryz.ntmps59
     go_wp2_with (first | ((with_reducible refine gate_dst (N := 2) rfl ?_); (try (refine gate_guard (by rfl) ?_; dsimp only)); refine bxe_ (N := 2) (cs := #[.int .i64 a0_0, .slice A0_1 l0_1.length c0_1, .int .i64 a0_2, .int .i64 a0_3, .int .i64 a0_4]) (t := 61) ?_; intro gb181 hg w12 hbox hb; have BK181 := Aside0.mk (hbox); have GW181 := Aside0.mk (by rw [hg]; exact (below_size bel_) : w.heap.size ≤ gb181); have GE181 := GW181; replace HB := Aside0.mk (below_step bel_ hb); clear hb hbox hg; obtain ⟨_, _, _, _, _, _, _, _, _, _⟩ := cel5_ BK181.out; have p182 : 0 ≤ ((ji9) : Int) := dq_; have q182 : (ji9) < (l0_1.length : Int) := dq_; obtain ⟨ad182, e182, hx182_0⟩ := Kd.at_int HR0_1.out (ji9) p182 q182; cases e182; replace hx182_0 := (HB.out.cell (World.block_lt_of_cell? w _ hx182_0)).trans hx182_0; replace p182 := eq_true p182; replace q182 := eq_true q182))
     go_ret
     exact ⟨by first | rfl | (simp [errW_none, errW_some] <;> rfl) | (simp only [← hji9]; first | rfl | (simp [errW_none, errW_some] <;> rfl)) | (simp [*, errW_none, errW_some] <;> rfl), bel_⟩
    ·
     rw [if_neg c11] at H
     exact absurd H (by simp)
   ·
    rw [if_neg c10] at H
    exact absurd H (by simp)

/-! ### dom_place: function 60 -/
def dom_place.f (a0 : Int) : Option (Int) := some (Go.bits .andNot .i64 a0 63)
set_option maxHeartbeats 8000000 in
set_option maxRecDepth 100000 in
theorem dom_place.calls (a0 : Int) (r : Int) (w : World) (h : dom_place.f a0 = some r) :
  Calls Tryz.prog 60 #[.int .i64 a0] w fun e w' => e = .returned (.int .i64 r) ∧ Drawn0 w w' := by
 have H : (some (Go.bits .andNot .i64 a0 63)) = some r := h
 clear h
 obtain rfl := Option.some.inj H
 go_enter Tryz.func60, Tryz.ntmps60
 go_wp2
 go_ret
 exact ⟨by first | rfl | (simp; done) | (simp [*]; done), by repeat (first | exact Drawn0.refl _ | apply Drawn0.step)⟩

end Go.Proofs.YtiofjnhmogeenaaGreatDoor.XExtFixed
