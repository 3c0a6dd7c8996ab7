-- by xprint.py, a program of this session, over the kit's print
import Derived.Test.YtmhchlbbfpmdgaaGreatDoorXCKex0
import Derived.Test.YtmhchlbbfpmdgaaGreatDoorXCKex4
import Derived.Test.YtmhchlbbfpmdgaaGreatDoorSq
namespace Go.Proofs.YtmhchlbbfpmdgaaGreatDoor.XClauseKeeps
open Go.RowKit Go.Proofs.YtmhchlbbfpmdgaaGreatDoor.Sq Go.Proofs.YtmhchlbbfpmdgaaGreatDoorW.PrintWords Go.Proofs.YtmhchlbbfpmdgaaGreatDoorW.PrintLast Go.Proofs.YtmhchlbbfpmdgaaGreatDoorW.PrintMore
attribute [local go_sem] max2_int min2_int max_two min_two max_three min_three max_four min_four   -- for this text's walks alone
set_option linter.unusedVariables false
set_option linter.unusedSimpArgs false

/-! ### jigsawref02_Small: function 25 -/
def jigsawref02_Small.l0 : Nat → List Int → Int → Int → List Int → Int → Option (List Int)
 | 0, _, _, _, _, _ => none
 | k + 1, x0, x1, x2, x7, x8 => if x8 < (x0.length : Int) then (if x8 < x1 then (if 0 ≤ x8 then (if x2 = 0 then (none) else (if x7.length < 17592186044416 then (jigsawref02_Small.l0 k x0 x1 x2 (x7 ++ [Int.tmod (rd x0 x8) x2]) (wrap64 (x8 + 1))) else (none))) else (none)) else ((jigsawref02_Of.f k x7).bind fun bt168 => (some bt168.1))) else ((jigsawref02_Of.f k x7).bind fun bt172 => (some bt172.1))
def jigsawref02_Small.f (k : Nat) (l0 : List Int) (a1 : Int) (a2 : Int) : Option (List Int) := jigsawref02_Small.l0 k l0 a1 a2 ([] : List Int) 0
theorem jigsawref02_Small.mono_l : ∀ k, (∀ y0 y1 y2 y3 y4, LeO (jigsawref02_Small.l0 k y0 y1 y2 y3 y4) (jigsawref02_Small.l0 (k + 1) y0 y1 y2 y3 y4))
 | 0 => fun _ _ _ _ _ r h => by simp [jigsawref02_Small.l0] at h
 | k + 1 => by
  have ih0 := jigsawref02_Small.mono_l k
  ·
   intro y0 y1 y2 y3 y4
   unfold jigsawref02_Small.l0
   have m0 := @jigsawref02_Of.mono
   exact leo_
theorem jigsawref02_Small.mono : ∀ a0 a1 a2 k, LeO (jigsawref02_Small.f k a0 a1 a2) (jigsawref02_Small.f (k + 1) a0 a1 a2) := by
 intro a0 a1 a2 k
 have ih0 := jigsawref02_Small.mono_l k
 unfold jigsawref02_Small.f
 have m0 := @jigsawref02_Of.mono
 exact leo_
set_option maxHeartbeats 8000000 in
set_option maxRecDepth 100000 in
theorem jigsawref02_Small.calls (k : Nat) (A0 : Option Addr) (c0 : Nat) (l0 : List Int) (a1 : Int) (a2 : Int) (r : List Int) (w : World) (hr0 : Kd.C (Kd.int .i64) w A0 l0.length l0) (hc0 : l0.length ≤ c0) (h : jigsawref02_Small.f k l0 a1 a2 = some r) :
  Calls Tryz.prog 25 #[.slice A0 l0.length c0, .int .i64 a1, .int .i64 a2] w fun e w' => ∃ v0_ : Value, e = .returned (v0_) ∧ Kd.R (Kd.int .i64) 3 w' w.heap.size (fun _ => True) v0_ r ∧ Below w.heap.size w w' := by
 have HR0 := Aside0.mk hr0
 have HC0 := Aside0.mk hc0
 clear hr0 hc0
 have HB := Aside0.mk (Below.refl w.heap.size w)
 have H : (jigsawref02_Small.l0 k l0 a1 a2 ([] : List Int) 0) = some r := h
 clear h
 have H' := Aside0.mk H
 clear H
 go_enter Tryz.func25, Tryz.ntmps25
 go_wp2
 go_loopg [7, 8] k (fun kq v7 v8 w' => ∃ (x7_1 : List Int) (x8_1 : Int), v8 = .int .i64 x8_1 ∧ Aside0 (jigsawref02_Small.l0 kq l0 a1 a2 x7_1 x8_1 = some r) ∧ Aside0 (kq ≤ k) ∧ Aside0 (Kd.R (Kd.int .i64) 3 w' w.heap.size (fun _ => True) v7 x7_1) ∧ Aside0 (Below w.heap.size w w'))
 case atStart => exact ⟨(([] : List Int)), (0), eq_, H', ⟨Nat.le_refl _⟩, ⟨nil_⟩, ⟨bel_⟩⟩
 case round =>
  clear H'
  try clear c2
  try clear p2
  obtain ⟨x7_1, x8_1, rfl, HA, HK1, HO_7, HB⟩ := hrel
  cases gk with
  | zero => exact absurd HA.out (by simp [jigsawref02_Small.l0])
  | succ k1 =>
   have H := HA.out
   clear HA
   simp only [jigsawref02_Small.l0] at H
   by_cases c4 : x8_1 < (l0.length : Int)
   ·
    rw [if_pos c4] at H
    have c4b0 : decide (x8_1 < (l0.length : Int)) = true := decide_eq_true c4
    clear c4
    by_cases c5 : x8_1 < a1
    ·
     rw [if_pos c5] at H
     have c5b0 : decide (x8_1 < a1) = true := decide_eq_true c5
     clear c5
     by_cases c6 : 0 ≤ x8_1
     ·
      rw [if_pos c6] at H
      have c6b0 : decide (0 ≤ x8_1) = true := decide_eq_true c6
      clear c6
      by_cases c7 : a2 = 0
      ·
       rw [if_pos c7] at H
       exact absurd H (by simp)
      ·
       rw [if_neg c7] at H
       have c7b0 : (a2 == 0) = false := beq_eq_false_iff_ne.mpr c7
       have c7b1 : (a2 != 0) = true := bne_iff_ne.mpr c7
       by_cases c8 : x7_1.length < 17592186044416
       ·
        rw [if_pos c8] at H
        have LMc8 := Aside0.mk c8
        clear c8
        obtain ⟨y165, hy165⟩ : ∃ y_ : List Int, y_ = (x7_1 ++ [Int.tmod (rd l0 x8_1) a2]) := ⟨_, rfl⟩
        replace H : (jigsawref02_Small.l0 k1 l0 a1 a2 y165 (wrap64 (x8_1 + 1))) = some r := by first | (rw [hy165]; with_reducible exact H) | (have H2_ := (Option.bind_some _ _).symm.trans H; rw [hy165]; with_reducible exact H2_) | (have H2_ := (Option.bind_some _ _).symm.trans H; with_reducible exact H2_) | with_reducible exact H | (rw [hy165]; exact H) | exact H
        have Ny165 := Aside0.mk hy165
        clear hy165
        have H' := Aside0.mk H
        clear H
        have p164 : 0 ≤ (x8_1 : Int) := dq_
        have q164 : x8_1 < (l0.length : Int) := dq_
        obtain ⟨ad164, e164, hx164_0⟩ := Kd.at_int HR0.out x8_1 p164 q164
        cases e164
        replace hx164_0 := (HB.out.cell (World.block_lt_of_cell? w _ hx164_0)).trans hx164_0
        replace p164 := eq_true p164
        replace q164 := eq_true q164
        go_wp2_with (first | ((with_reducible refine gate_builtin (b := .append) (xs := #[.tmp 29, .tmp 31]) rfl ?_); at_builtin; refine Kd.R_append (Kd.int .i64) (w0 := w) w.heap.size rfl (.tmp 29) (.tmp 31) 30 3 (.int .i64 0) 8 rfl Tryz.underlying30 info3 rfl (by decide) (by omega) u7 x7_1 (Int.tmod (rd l0 x8_1) a2) [.int .i64 (Int.tmod (rd l0 x8_1) a2)] (fun _ => True) (fun _ => False) rfl rfl ?aP (fun _ hk => hk.elim) ?aF ?aO ?aB ?aS ?aL ?_; (case aP => exact rfl); (case aB => exact bel_); (case aF => exact (fun _ _ => trivial)); (case aO => exact (vR_ HO_7.out)); (case aS => exact (below_size bel_)); (case aL => have := LMc8.out; omega); intro v166 w9 ho hb hg hat; rw [← Ny165.out] at ho; replace HB := Aside0.mk (hb); have HO167 := Aside0.mk (ho); clear HO_7; clear ho hb hg hat))
        go_roundg k1
        case measure => have := HK1.out; omega
        case rel => exact ⟨(y165), (wrap64 (x8_1 + 1)), eq_, H', ⟨by have := HK1.out; omega⟩, ⟨by refine vR_ ?_; exact HO167.out⟩, ⟨bel_⟩⟩
       ·
        rw [if_neg c8] at H
        exact absurd H (by simp)
     ·
      rw [if_neg c6] at H
      exact absurd H (by simp)
    ·
     rw [if_neg c5] at H
     have c5b0 : decide (x8_1 < a1) = false := decide_eq_false c5
     clear c5
     replace H := Option.bind_eq_some_iff.mp H
     obtain ⟨⟨t168, t169⟩, A100, H⟩ := H
     try dsimp only at H
     have A10 := Aside0.mk A100
     clear A100
     obtain rfl := Option.some.inj H
     obtain ⟨Ao11, co11, eo11⟩ := Kd.R_slice HO_7.out
     subst eo11
     go_wp2_with (first | ((with_reducible refine gate_callee (f := 53) rfl ?_); refine goesL_ (some 35) rfl rfl Tryz.func53 (by kernel_rfl) rfl #[.slice Ao11 x7_1.length co11] rfl ar_ ?_; (with_reducible refine (jigsawref02_Of.calls k1 _ _ x7_1 t168 t169 _ ?_ ?_ A10.out).mono ?_); exact ca_ ((Kd.R_reads' HO_7.out).2.2); exact (Kd.R_reads' HO_7.out).2.1; rintro e w12 ⟨v170, rfl, ho0, hb⟩; refine ⟨_, rfl, ?_⟩; have HO171 := Aside0.mk (Kd.R_lower (Kd.R_new' ho0 (Kd.R_lt (vR_ HO_7.out))) (below_size bel_)); replace HB := Aside0.mk (below_step bel_ hb); clear hb ho0))
     go_ret
     exact ⟨_, by first | rfl | (simp [errW_none, errW_some] <;> rfl) | (simp [*, errW_none, errW_some] <;> rfl), by refine vR_ ?_; exact Kd.R_mono HO171.out (fun _ hk => trivial), bel_⟩
   ·
    rw [if_neg c4] at H
    have c4b0 : decide (x8_1 < (l0.length : Int)) = false := decide_eq_false c4
    clear c4
    replace H := Option.bind_eq_some_iff.mp H
    obtain ⟨⟨t172, t173⟩, A130, H⟩ := H
    try dsimp only at H
    have A13 := Aside0.mk A130
    clear A130
    obtain rfl := Option.some.inj H
    obtain ⟨Ao14, co14, eo14⟩ := Kd.R_slice HO_7.out
    subst eo14
    go_wp2_with (first | ((with_reducible refine gate_callee (f := 53) rfl ?_); refine goesL_ (some 35) rfl rfl Tryz.func53 (by kernel_rfl) rfl #[.slice Ao14 x7_1.length co14] rfl ar_ ?_; (with_reducible refine (jigsawref02_Of.calls k1 _ _ x7_1 t172 t173 _ ?_ ?_ A13.out).mono ?_); exact ca_ ((Kd.R_reads' HO_7.out).2.2); exact (Kd.R_reads' HO_7.out).2.1; rintro e w15 ⟨v174, rfl, ho0, hb⟩; refine ⟨_, rfl, ?_⟩; have HO175 := Aside0.mk (Kd.R_lower (Kd.R_new' ho0 (Kd.R_lt (vR_ HO_7.out))) (below_size bel_)); replace HB := Aside0.mk (below_step bel_ hb); clear hb ho0))
    go_ret
    exact ⟨_, by first | rfl | (simp [errW_none, errW_some] <;> rfl) | (simp [*, errW_none, errW_some] <;> rfl), by refine vR_ ?_; exact Kd.R_mono HO175.out (fun _ hk => trivial), bel_⟩

end Go.Proofs.YtmhchlbbfpmdgaaGreatDoor.XClauseKeeps
