-- by xprint.py, a program of this session, over the kit's print
import Derived.Test.YtmhchlbbfpmdgaaGreatDoorXCKex0
import Derived.Test.YtmhchlbbfpmdgaaGreatDoorSq
namespace Go.Proofs.YtmhchlbbfpmdgaaGreatDoor.XClauseKeeps
open Go.RowKit Go.Proofs.YtmhchlbbfpmdgaaGreatDoor.Sq Go.Proofs.YtmhchlbbfpmdgaaGreatDoorW.PrintWords Go.Proofs.YtmhchlbbfpmdgaaGreatDoorW.PrintLast Go.Proofs.YtmhchlbbfpmdgaaGreatDoorW.PrintMore
attribute [local go_sem] max2_int min2_int max_two min_two max_three min_three max_four min_four   -- for this text's walks alone
set_option linter.unusedVariables false
set_option linter.unusedSimpArgs false

/-! ### jigsawref09_Product: function 34 -/
mutual
def jigsawref09_Product.l0 : Nat → List (List Int) → Int → Int → Int → Option ((List (List Int)))
 | 0, _, _, _, _ => none
 | k + 1, x0, x1, x5, x6 => if x6 < (x0.length : Int) then (if 0 ≤ x6 then (if (wrap64 (x5 * ((rd_L7 x0 x6).length : Int))) > x1 then (some ([] : List (List Int))) else (jigsawref09_Product.l0 k x0 x1 (wrap64 (x5 * ((rd_L7 x0 x6).length : Int))) (wrap64 (x6 + 1)))) else (none)) else (jigsawref09_Product.l1 k x0 x5 ([] : List (List Int)) 0)
def jigsawref09_Product.l1 : Nat → List (List Int) → Int → List (List Int) → Int → Option ((List (List Int)))
 | 0, _, _, _, _ => none
 | k + 1, x0, x5, x7, x8 => if x8 < x5 then (if 0 ≤ (x0.length : Int) then (if ((x0.length : Int) : Int).toNat ≤ 35184372088832 then (jigsawref09_Product.l2 k x0 x5 x7 x8 (List.replicate ((x0.length : Int) : Int).toNat 0) x8 (wrap64 ((x0.length : Int) - 1))) else (none)) else (none)) else (some x7)
def jigsawref09_Product.l2 : Nat → List (List Int) → Int → List (List Int) → Int → List Int → Int → Int → Option ((List (List Int)))
 | 0, _, _, _, _, _, _, _ => none
 | k + 1, x0, x5, x7, x8, x9, x10, x11 => if x11 ≥ 0 then (if 0 ≤ x11 then (if x11 < (x0.length : Int) then (if ((rd_L7 x0 x11).length : Int) = 0 then (none) else (if 0 ≤ (Int.tmod x10 ((rd_L7 x0 x11).length : Int)) then (if (Int.tmod x10 ((rd_L7 x0 x11).length : Int)) < ((rd_L7 x0 x11).length : Int) then (if x11 < (x9.length : Int) then (jigsawref09_Product.l2 k x0 x5 x7 x8 (x9.set (x11 : Int).toNat (rd (rd_L7 x0 x11) (Int.tmod x10 ((rd_L7 x0 x11).length : Int)))) (wrap64 (Int.tdiv x10 ((rd_L7 x0 x11).length : Int))) (wrap64 (x11 - 1))) else (none)) else (none)) else (none))) else (none)) else (none)) else (if x7.length < 5864062014805 then (jigsawref09_Product.l1 k x0 x5 (x7 ++ [x9]) (wrap64 (x8 + 1))) else (none))
end
def jigsawref09_Product.f (k : Nat) (l0 : List (List Int)) (a1 : Int) : Option ((List (List Int))) := jigsawref09_Product.l0 k l0 a1 1 0
theorem jigsawref09_Product.mono_l : ∀ k, (∀ y0 y1 y2 y3, LeO (jigsawref09_Product.l0 k y0 y1 y2 y3) (jigsawref09_Product.l0 (k + 1) y0 y1 y2 y3)) ∧ (∀ y0 y1 y2 y3, LeO (jigsawref09_Product.l1 k y0 y1 y2 y3) (jigsawref09_Product.l1 (k + 1) y0 y1 y2 y3)) ∧ (∀ y0 y1 y2 y3 y4 y5 y6, LeO (jigsawref09_Product.l2 k y0 y1 y2 y3 y4 y5 y6) (jigsawref09_Product.l2 (k + 1) y0 y1 y2 y3 y4 y5 y6))
 | 0 => ⟨fun _ _ _ _ r h => by simp [jigsawref09_Product.l0] at h, fun _ _ _ _ r h => by simp [jigsawref09_Product.l1] at h, fun _ _ _ _ _ _ _ r h => by simp [jigsawref09_Product.l2] at h⟩
 | k + 1 => by
  obtain ⟨ih0, ih1, ih2⟩ := jigsawref09_Product.mono_l k
  refine ⟨?_, ?_, ?_⟩
  ·
   intro y0 y1 y2 y3
   unfold jigsawref09_Product.l0
   exact leo_
  ·
   intro y0 y1 y2 y3
   unfold jigsawref09_Product.l1
   exact leo_
  ·
   intro y0 y1 y2 y3 y4 y5 y6
   unfold jigsawref09_Product.l2
   exact leo_
theorem jigsawref09_Product.mono : ∀ a0 a1 k, LeO (jigsawref09_Product.f k a0 a1) (jigsawref09_Product.f (k + 1) a0 a1) := by
 intro a0 a1 k
 obtain ⟨ih0, ih1, ih2⟩ := jigsawref09_Product.mono_l k
 unfold jigsawref09_Product.f
 exact leo_
def jigsawref09_Product.T17 : Bool × List (List Nat × List Nat) := (true, [([], []), ([], []), ([], []), ([], []), ([2, 3], [2, 3]), ([4], [4]), ([], []), ([], []), ([], []), ([7, 8], [7, 8]), ([9], [9]), ([10], [10]), ([6, 11], [6, 11]), ([5, 12], [5, 12]), ([13], [13]), ([0, 1, 0, 1, 2, 3, 4, 5, 6, 7, 8, 9, 10, 11, 12, 13, 14], [0, 1]), ([15, 14, 0, 1, 2, 3, 4, 5, 6, 7, 8, 9, 10, 11, 12, 13, 14], [14, 15])])
def jigsawref09_Product.B17 : List Nat := [0, 0, 0, 0, 12, 28, 0, 0, 0, 384, 896, 1920, 4032, 8188, 16380, 32767, 65535]
theorem jigsawref09_Product.tab17 : rtab .any (opsOf Tryz.f34 17) = jigsawref09_Product.T17 := by kernel_rfl
theorem jigsawref09_Product.bits17 : waitsOk jigsawref09_Product.T17.2 jigsawref09_Product.B17 = true := by kernel_rfl
set_option maxHeartbeats 8000000 in
set_option maxRecDepth 100000 in
theorem jigsawref09_Product.calls (k : Nat) (A0 : Option Addr) (c0 : Nat) (l0 : List (List Int)) (a1 : Int) (r : List (List Int)) (w : World) (hr0 : Kd.C (Kd.slice 3 (Kd.int .i64)) w A0 l0.length l0) (hc0 : l0.length ≤ c0) (h : jigsawref09_Product.f k l0 a1 = some r) :
  Calls Tryz.prog 34 #[.slice A0 l0.length c0, .int .i64 a1] w fun e w' => ∃ v0_ : Value, e = .returned (v0_) ∧ Kd.S (Kd.slice 3 (Kd.int .i64)) 30 w' w.heap.size (fun _ => True) v0_ r ∧ Below w.heap.size w w' := by
 have HR0 := Aside0.mk hr0
 have HC0 := Aside0.mk hc0
 clear hr0 hc0
 have HB := Aside0.mk (Below.refl w.heap.size w)
 have H : (jigsawref09_Product.l0 k l0 a1 1 0) = some r := h
 clear h
 have H' := Aside0.mk H
 clear H
 go_enter Tryz.func34, Tryz.ntmps34
 go_wp2
 go_loopg [5, 6] k (fun kq v5 v6 w' => ∃ (x5_1 : Int) (x6_1 : Int), v5 = .int .i64 x5_1 ∧ v6 = .int .i64 x6_1 ∧ Aside0 (jigsawref09_Product.l0 kq l0 a1 x5_1 x6_1 = some r) ∧ Aside0 (kq ≤ k) ∧ Aside0 (Below w.heap.size w w'))
 case atStart => exact ⟨(1), (0), eq_, eq_, H', ⟨Nat.le_refl _⟩, ⟨bel_⟩⟩
 case round =>
  clear H'
  try clear p2
  obtain ⟨x5_1, x6_1, rfl, rfl, HA, HK1, HB⟩ := hrel
  cases gk with
  | zero => exact absurd HA.out (by simp [jigsawref09_Product.l0])
  | succ k1 =>
   have H := HA.out
   clear HA
   simp only [jigsawref09_Product.l0] at H
   by_cases c3 : x6_1 < (l0.length : Int)
   ·
    rw [if_pos c3] at H
    have c3b0 : decide (x6_1 < (l0.length : Int)) = true := decide_eq_true c3
    clear c3
    by_cases c4 : 0 ≤ x6_1
    ·
     rw [if_pos c4] at H
     have c4b0 : decide (0 ≤ x6_1) = true := decide_eq_true c4
     clear c4
     by_cases c5 : (wrap64 (x5_1 * ((rd_L7 l0 x6_1).length : Int))) > a1
     ·
      rw [if_pos c5] at H
      have c5b0 : decide (a1 < (wrap64 (x5_1 * ((rd_L7 l0 x6_1).length : Int)))) = true := decide_eq_true c5
      clear c5
      obtain rfl := Option.some.inj H
      have p511 : 0 ≤ (x6_1 : Int) := dq_
      have q511 : x6_1 < (l0.length : Int) := dq_
      obtain ⟨ad511, A511_0, c511_0, e511, hx511_0, hl511_0, hi511_0⟩ := at_L7 HR0.out x6_1 p511 q511
      cases e511
      replace hx511_0 := (HB.out.cell (World.block_lt_of_cell? w _ hx511_0)).trans hx511_0
      have HC511_0 := Aside0.mk hl511_0
      clear hi511_0 hl511_0
      replace p511 := eq_true p511
      replace q511 := eq_true q511
      go_wp2
      go_ret
      exact ⟨_, by first | rfl | (simp [errW_none, errW_some] <;> rfl) | (simp [*, errW_none, errW_some] <;> rfl), by first | exact Kd.S_nil _ _ _ _ _ | exact Kd.N_nil _ _ _ _ _ | exact Kd.V_nil _ _ _ _ _ | exact Kd.Q_nil _ _ _ _ _ | exact Kd.R_nil _ _ _ _ _, bel_⟩
     ·
      rw [if_neg c5] at H
      have c5b0 : decide (a1 < (wrap64 (x5_1 * ((rd_L7 l0 x6_1).length : Int)))) = false := decide_eq_false c5
      clear c5
      have H' := Aside0.mk H
      clear H
      have p511 : 0 ≤ (x6_1 : Int) := dq_
      have q511 : x6_1 < (l0.length : Int) := dq_
      obtain ⟨ad511, A511_0, c511_0, e511, hx511_0, hl511_0, hi511_0⟩ := at_L7 HR0.out x6_1 p511 q511
      cases e511
      replace hx511_0 := (HB.out.cell (World.block_lt_of_cell? w _ hx511_0)).trans hx511_0
      have HC511_0 := Aside0.mk hl511_0
      clear hi511_0 hl511_0
      replace p511 := eq_true p511
      replace q511 := eq_true q511
      go_wp2
      go_roundg k1
      case measure => have := HK1.out; omega
      case rel => exact ⟨(wrap64 (x5_1 * ((rd_L7 l0 x6_1).length : Int))), (wrap64 (x6_1 + 1)), eq_, eq_, H', ⟨by have := HK1.out; omega⟩, ⟨bel_⟩⟩
    ·
     rw [if_neg c4] at H
     exact absurd H (by simp)
   ·
    rw [if_neg c3] at H
    have c3b0 : decide (x6_1 < (l0.length : Int)) = false := decide_eq_false c3
    clear c3
    have H' := Aside0.mk H
    clear H
    go_wp2
    go_loopg [7, 8] k1 (fun kq v7 v8 w' => ∃ (x7_2 : List (List Int)) (x8_2 : Int), v8 = .int .i64 x8_2 ∧ Aside0 (jigsawref09_Product.l1 kq l0 x5_1 x7_2 x8_2 = some r) ∧ Aside0 (kq ≤ k1) ∧ Aside0 (Kd.S (Kd.slice 3 (Kd.int .i64)) 30 w' w.heap.size (fun _ => True) v7 x7_2) ∧ Aside0 (Below w.heap.size w w'))
    case atStart => exact ⟨(([] : List (List Int))), (0), eq_, H', ⟨Nat.le_refl _⟩, ⟨nil_⟩, ⟨bel_⟩⟩
    case round =>
     clear H'
     try clear p2
     try clear c3
     try clear c3b0
     try clear c4
     try clear c4b0
     try clear c5
     try clear c5b0
     try clear p5
     try clear q5
     try clear hx5
     try clear hx511_0
     try clear p2
     try clear p511
     try clear q511
     obtain ⟨x7_2, x8_2, rfl, HA, HK2, HO_7, HB⟩ := hrel
     cases gk with
     | zero => exact absurd HA.out (by simp [jigsawref09_Product.l1])
     | succ k2 =>
      have H := HA.out
      clear HA
      simp only [jigsawref09_Product.l1] at H
      by_cases c6 : x8_2 < x5_1
      ·
       rw [if_pos c6] at H
       have c6b0 : decide (x8_2 < x5_1) = true := decide_eq_true c6
       clear c6
       by_cases c7 : 0 ≤ (l0.length : Int)
       ·
        rw [if_pos c7] at H
        have c7b0 := eq_true c7
        have c7b1 : decide (0 ≤ (l0.length : Int)) = true := decide_eq_true c7
        clear c7
        by_cases c8 : ((l0.length : Int) : Int).toNat ≤ 35184372088832
        ·
         rw [if_pos c8] at H
         have c8b0 := eq_true c8
         have c8b1 : decide (((l0.length : Int) : Int).toNat ≤ 35184372088832) = true := decide_eq_true c8
         clear c8
         obtain ⟨y512, hy512⟩ : ∃ y_ : List Int, y_ = (List.replicate ((l0.length : Int) : Int).toNat 0) := ⟨_, rfl⟩
         replace H : (jigsawref09_Product.l2 k2 l0 x5_1 x7_2 x8_2 y512 x8_2 (wrap64 ((l0.length : Int) - 1))) = some r := by first | (rw [hy512]; with_reducible exact H) | (have H2_ := (Option.bind_some _ _).symm.trans H; rw [hy512]; with_reducible exact H2_) | (have H2_ := (Option.bind_some _ _).symm.trans H; with_reducible exact H2_) | with_reducible exact H | (rw [hy512]; exact H) | exact H
         have Ny512 := Aside0.mk hy512
         clear hy512
         have H' := Aside0.mk H
         clear H
         go_wp2_with (first | ((with_reducible refine gate_dst (N := 35) rfl ?_); refine Kd.R_make (Kd.int .i64) _ 3 rfl (N := 35) rfl 30 _ _ rfl (l0.length : Int) rfl rfl Tryz.underlying30 (.int .i64 0) 8 info3 rfl (by decide) (by omega) 0 (ok := fun _ => True) (okp := fun _ => True) rfl (fun _ hk => hk) trivial (dq_) (Nat.le_trans (Nat.mul_le_mul_right _ (dq_ : (l0.length : Int).toNat ≤ 35184372088832)) (by omega)) (Below.refl _ _) (Nat.le_refl _) ?_; intro v513 w9 ho10 hb hg_ hnew_; clear hg_ hnew_; (first | rw [← Ny512.out] at ho10 | (simp only [Int.reduceToNat] at ho10; rw [← Ny512.out] at ho10)); replace HO_7 := Aside0.mk (Kd.S_elder' (vS_ HO_7.out) (Kd.R_base ho10) hb); have HO514 := Aside0.mk (Kd.R_lower ho10 (below_size bel_)); replace HB := Aside0.mk (below_step bel_ hb); clear hb ho10))
         go_loopg [10, 11] k2 (fun kq v10 v11 w' => ∃ (x9_3 : List Int) (x10_3 : Int) (x11_3 : Int), v10 = .int .i64 x10_3 ∧ v11 = .int .i64 x11_3 ∧ Aside0 (jigsawref09_Product.l2 kq l0 x5_1 x7_2 x8_2 x9_3 x10_3 x11_3 = some r) ∧ Aside0 (kq ≤ k2) ∧ Aside0 (Kd.S (Kd.slice 3 (Kd.int .i64)) 30 w' w.heap.size (fun k_ => some k_ ≠ (v513 : Value).ownBlock) u7 x7_2) ∧ Aside0 (Kd.R (Kd.int .i64) 3 w' w.heap.size (fun _ => True) v513 x9_3) ∧ Aside0 (Below w.heap.size w w'))
         case atStart => exact ⟨(y512), (x8_2), (wrap64 ((l0.length : Int) - 1)), eq_, eq_, H', ⟨Nat.le_refl _⟩, ⟨by refine vS_ ?_; exact Kd.S_mono HO_7.out (fun _ hk => hk.2)⟩, ⟨by refine vR_ ?_; exact HO514.out⟩, ⟨bel_⟩⟩
         case round =>
          clear H'
          try clear p2
          try clear c3
          try clear c3b0
          try clear c4
          try clear c4b0
          try clear c5
          try clear c5b0
          try clear p5
          try clear q5
          try clear hx5
          try clear c6
          try clear c6b0
          try clear p6
          try clear c7
          try clear c7b0
          try clear c7b1
          try clear c8
          try clear c8b0
          try clear c8b1
          try clear hx511_0
          try clear p2
          try clear p5
          try clear p511
          try clear q5
          try clear q511
          obtain ⟨x9_3, x10_3, x11_3, rfl, rfl, HA, HK3, HO_7, HO_9, HB⟩ := hrel
          cases gk with
          | zero => exact absurd HA.out (by simp [jigsawref09_Product.l2])
          | succ k3 =>
           have H := HA.out
           clear HA
           simp only [jigsawref09_Product.l2] at H
           by_cases c11 : x11_3 ≥ 0
           ·
            rw [if_pos c11] at H
            have c11b0 : decide (0 ≤ x11_3) = true := decide_eq_true c11
            clear c11
            by_cases c12 : 0 ≤ x11_3
            ·
             rw [if_pos c12] at H
             have c12b0 : decide (0 ≤ x11_3) = true := decide_eq_true c12
             clear c12
             by_cases c13 : x11_3 < (l0.length : Int)
             ·
              rw [if_pos c13] at H
              have c13b0 : decide (x11_3 < (l0.length : Int)) = true := decide_eq_true c13
              clear c13
              by_cases c14 : ((rd_L7 l0 x11_3).length : Int) = 0
              ·
               rw [if_pos c14] at H
               exact absurd H (by simp)
              ·
               rw [if_neg c14] at H
               have c14b0 : (((rd_L7 l0 x11_3).length : Int) == 0) = false := beq_eq_false_iff_ne.mpr c14
               have c14b1 : (((rd_L7 l0 x11_3).length : Int) != 0) = true := bne_iff_ne.mpr c14
               have c14b2 : ¬ ((rd_L7 l0 x11_3) = []) := fun h_ => c14 (by rw [h_]; rfl)
               obtain ⟨ji15, hji15⟩ : ∃ j_ : Int, (Int.tmod x10_3 ((rd_L7 l0 x11_3).length : Int)) = j_ := ⟨_, rfl⟩
               replace H : (if 0 ≤ (ji15) then (if (ji15) < ((rd_L7 l0 x11_3).length : Int) then (if x11_3 < (x9_3.length : Int) then (jigsawref09_Product.l2 k3 l0 x5_1 x7_2 x8_2 (x9_3.set (x11_3 : Int).toNat (rd (rd_L7 l0 x11_3) (ji15))) (wrap64 (Int.tdiv x10_3 ((rd_L7 l0 x11_3).length : Int))) (wrap64 (x11_3 - 1))) else (none)) else (none)) else (none)) = some r := by first | (rw [hji15] at H; exact H) | (simp only [hji15] at H ⊢; exact H)
               by_cases c16 : 0 ≤ (ji15)
               ·
                rw [if_pos c16] at H
                have c16b0 : decide (0 ≤ (ji15)) = true := decide_eq_true c16
                clear c16
                by_cases c17 : (ji15) < ((rd_L7 l0 x11_3).length : Int)
                ·
                 rw [if_pos c17] at H
                 have c17b0 : decide ((ji15) < ((rd_L7 l0 x11_3).length : Int)) = true := decide_eq_true c17
                 clear c17
                 by_cases c18 : x11_3 < (x9_3.length : Int)
                 ·
                  rw [if_pos c18] at H
                  have c18b0 : decide (x11_3 < (x9_3.length : Int)) = true := decide_eq_true c18
                  clear c18
                  obtain ⟨y518, hy518⟩ : ∃ y_ : List Int, y_ = (x9_3.set (x11_3 : Int).toNat (rd (rd_L7 l0 x11_3) (ji15))) := ⟨_, rfl⟩
                  replace H : (jigsawref09_Product.l2 k3 l0 x5_1 x7_2 x8_2 y518 (wrap64 (Int.tdiv x10_3 ((rd_L7 l0 x11_3).length : Int))) (wrap64 (x11_3 - 1))) = some r := by first | (rw [hy518]; with_reducible exact H) | (have H2_ := (Option.bind_some _ _).symm.trans H; rw [hy518]; with_reducible exact H2_) | (have H2_ := (Option.bind_some _ _).symm.trans H; with_reducible exact H2_) | with_reducible exact H | (rw [hy518]; exact H) | exact H
                  have Ny518 := Aside0.mk hy518
                  clear hy518
                  have H' := Aside0.mk H
                  clear H
                  try go_wp2
                  replace HO_7 := Aside0.mk (Kd.S_drew HO_7.out)
                  replace HO_9 := Aside0.mk (Kd.R_drew HO_9.out)
                  replace HB := Aside0.mk (below_drew1 HB.out)
                  have p515 : 0 ≤ (x11_3 : Int) := dq_
                  have q515 : x11_3 < (l0.length : Int) := dq_
                  obtain ⟨ad515, A515_0, c515_0, e515, hx515_0, hl515_0, hi515_0⟩ := at_L7 HR0.out x11_3 p515 q515
                  have hw515_0 := hx515_0
                  cases e515
                  replace hx515_0 := (HB.out.cell (World.block_lt_of_cell? w _ hx515_0)).trans hx515_0
                  have HR515_0 := Aside0.mk hi515_0
                  have HC515_0 := Aside0.mk hl515_0
                  clear hi515_0 hl515_0
                  replace p515 := eq_true p515
                  replace q515 := eq_true q515
                  have p516 : 0 ≤ (x11_3 : Int) := dq_
                  have q516 : x11_3 < (l0.length : Int) := dq_
                  obtain ⟨ad516, A516_0, c516_0, e516, hx516_0, hl516_0, hi516_0⟩ := at_L7 HR0.out x11_3 p516 q516
                  have hw516_0 := hx516_0
                  obtain rfl : ad515 = ad516 := (by injection e516)
                  replace hx516_0 := (HB.out.cell (World.block_lt_of_cell? w _ hx516_0)).trans hx516_0
                  have HC516_0 := Aside0.mk hl516_0
                  clear hi516_0 hl516_0
                  replace p516 := eq_true p516
                  replace q516 := eq_true q516
                  have ea_ := Option.some.inj (hx515_0.symm.trans hx516_0)
                  injection ea_ with ea_ en_ ec_
                  subst ea_
                  subst ec_
                  clear en_
                  have p517 : 0 ≤ ((ji15) : Int) := dq_
                  have q517 : (ji15) < ((rd_L7 l0 x11_3).length : Int) := dq_
                  obtain ⟨ad517, e517, hx517_0⟩ := Kd.at_int HR515_0.out (ji15) p517 q517
                  have hw517_0 := hx517_0
                  cases e517
                  replace hx517_0 := (HB.out.cell (World.block_lt_of_cell? w _ hx517_0)).trans hx517_0
                  replace p517 := eq_true p517
                  replace q517 := eq_true q517
                  have p19 : 0 ≤ (x11_3 : Int) := dq_
                  have q19 : (x11_3 : Int) < ((x9_3.length : Int) : Int) := dq_
                  obtain ⟨go19, co19, eo19, gb19, gl19, cl19, HG19⟩ := Kd.R_form HO_9.out (by omega)
                  (first | cases eo19 | (injection eo19 with ea_ en_ ec_; (first | subst ea_ | (injection ea_ with ea_; subst ea_)); subst ec_; clear en_))
                  have GB19 := Aside0.mk gb19
                  have GG19 := Aside0.mk HG19
                  clear gb19 gl19 HG19
                  obtain ⟨hx19_0, hf19_0⟩ := Kd.R_celln 0 HO_9.out (x11_3 : Int) p19 q19
                  replace p19 := eq_true p19
                  replace q19 := eq_true q19
                  have HP21 := Kd.R_putn HO_9.out (x11_3 : Int) (rd (rd_L7 l0 x11_3) (ji15))
                  rw [← Ny518.out] at HP21
                  have HQ21 := Aside0.mk HP21
                  clear HP21
                  refine start_ (n := 17) (S := fun w' => w'.cell? (ad515.add (x11_3).toNat) = some (.slice (some ad517) (rd_L7 l0 x11_3).length c515_0) ∧ w'.cell? (ad515.add (x11_3).toNat) = some (.slice (some ad517) (rd_L7 l0 x11_3).length c515_0) ∧ w'.cell? (ad517.add ((ji15)).toNat) = some (.int .i64 (rd (rd_L7 l0 x11_3) (ji15)))) (ds := [16]) #[false, false, false, false, false, false, false, false, false, false, false, false, false, false, false, false, false] (by kernel_rfl) rfl rfl ⟨((HB.out.cell (World.block_lt_of_cell? w _ hw515_0)).trans hw515_0), ((HB.out.cell (World.block_lt_of_cell? w _ hw516_0)).trans hw516_0), ((HB.out.cell (World.block_lt_of_cell? w _ hw517_0)).trans hw517_0)⟩ (fun hHeld => ?_); refine with_tabW jigsawref09_Product.tab17 jigsawref09_Product.bits17 (fun HT_ HW_ => ?_)
                  generalize wr.drew = w20 at HO_7 HO_9 HB GG19 HQ21 HR515_0 hf19_0 hx19_0 hx515_0 hx516_0 hx517_0 hHeld ⊢
                  refine pur_ (i := 0) (N := some 44) #[true, false, false, false, false, false, false, false, false, false, false, false, false, false, false, false, false] (any_of HT_.out (by kernel_rfl)) ?_
                  refine pur_ (i := 1) (N := some 45) #[true, true, false, false, false, false, false, false, false, false, false, false, false, false, false, false, false] (any_of HT_.out (by kernel_rfl)) ?_
                  refine pur_ (i := 2) (N := some 46) #[true, true, true, false, false, false, false, false, false, false, false, false, false, false, false, false, false] (any_of HT_.out (by kernel_rfl)) ?_
                  refine pur_ (i := 3) (N := some 47) #[true, true, true, true, false, false, false, false, false, false, false, false, false, false, false, false, false] (any_of HT_.out (by kernel_rfl)) ?_
                  refine pur_ (i := 4) (N := some 48) #[true, true, true, true, true, false, false, false, false, false, false, false, false, false, false, false, false] (any_of HT_.out (by kernel_rfl)) ?_
                  refine pur_ (i := 6) (N := some 50) #[true, true, true, true, true, false, true, false, false, false, false, false, false, false, false, false, false] (any_of HT_.out (by kernel_rfl)) ?_
                  refine pur_ (i := 7) (N := some 51) #[true, true, true, true, true, false, true, true, false, false, false, false, false, false, false, false, false] (any_of HT_.out (by kernel_rfl)) ?_
                  refine pur_ (i := 8) (N := some 52) #[true, true, true, true, true, false, true, true, true, false, false, false, false, false, false, false, false] (any_of HT_.out (by kernel_rfl)) ?_
                  refine pur_ (i := 9) (N := some 53) #[true, true, true, true, true, false, true, true, true, true, false, false, false, false, false, false, false] (any_of HT_.out (by kernel_rfl)) ?_
                  refine take_ (i := 5) (N := some 49) (v := ?_) (a' := ?_) #[true, true, true, true, true, true, true, true, true, true, false, false, false, false, false, false, false] rfl rfl (take_ofW HT_.out HW_.out (by kernel_rfl)) (fun _ _ _ h => h) (Or.inl ⟨by rfl, ?_⟩) hHeld ?_ ?_
                  rotate_left
                  ·
                   rintro w' ⟨s0, s1, s2⟩
                   go_simp
                   with_reducible rfl
                  rotate_left
                  ·
                   simp only [Act.put, List.setIfInBounds_toArray, List.set_cons_zero, List.set_cons_succ, i64_w, i32_w]
                   rfl
                  refine take_ (i := 10) (N := some 54) (v := ?_) (a' := ?_) #[true, true, true, true, true, true, true, true, true, true, true, false, false, false, false, false, false] rfl rfl (take_ofW HT_.out HW_.out (by kernel_rfl)) (fun _ _ _ h => h) (Or.inl ⟨by rfl, ?_⟩) hHeld ?_ ?_
                  rotate_left
                  ·
                   rintro w' ⟨s0, s1, s2⟩
                   go_simp
                   with_reducible rfl
                  rotate_left
                  ·
                   simp only [Act.put, List.setIfInBounds_toArray, List.set_cons_zero, List.set_cons_succ, i64_w, i32_w]
                   rfl
                  refine pur_ (i := 11) (N := some 55) #[true, true, true, true, true, true, true, true, true, true, true, true, false, false, false, false, false] (any_of HT_.out (by kernel_rfl)) ?_
                  refine pur_ (i := 12) (N := some 56) #[true, true, true, true, true, true, true, true, true, true, true, true, true, false, false, false, false] (any_of HT_.out (by kernel_rfl)) ?_
                  refine pur_ (i := 13) (N := some 57) #[true, true, true, true, true, true, true, true, true, true, true, true, true, true, false, false, false] (any_of HT_.out (by kernel_rfl)) ?_
                  refine take_ (i := 14) (N := some 58) (v := ?_) (a' := ?_) #[true, true, true, true, true, true, true, true, true, true, true, true, true, true, true, false, false] rfl rfl (take_ofW HT_.out HW_.out (by kernel_rfl)) (fun _ _ _ h => h) (Or.inl ⟨by rfl, ?_⟩) hHeld ?_ ?_
                  rotate_left
                  ·
                   rintro w' ⟨s0, s1, s2⟩
                   go_simp
                   with_reducible rfl
                  rotate_left
                  ·
                   simp only [Act.put, List.setIfInBounds_toArray, List.set_cons_zero, List.set_cons_succ, i64_w, i32_w]
                   rfl
                  refine pur_ (i := 15) (N := some 59) #[true, true, true, true, true, true, true, true, true, true, true, true, true, true, true, true, false] (any_of HT_.out (by kernel_rfl)) ?_
                  refine last_ (i := 16) (N := none) #[true, true, true, true, true, true, true, true, true, true, true, true, true, true, true, true, true] rfl rfl (one_of HT_.out (by kernel_rfl)) (by decide) (fun K hK => ?_)
                  refine skip_ (w1 := ?_) (by rfl) rfl ?_ ?_
                  rotate_left
                  ·
                   go_simp
                   rfl
                  refine hK.out _ _ ?_
                  clear hK K
                  refine done_ (done_of HT_.out (by kernel_rfl)) ?_
                  have p519 : 0 ≤ (x11_3 : Int) := dq_
                  have q519 : x11_3 < (l0.length : Int) := dq_
                  obtain ⟨ad519, A519_0, c519_0, e519, hx519_0, hl519_0, hi519_0⟩ := at_L7 HR0.out x11_3 p519 q519
                  obtain rfl : ad515 = ad519 := (by injection e519)
                  have hn519_0 : ad515.block ≠ go19 := Nat.ne_of_lt (Nat.lt_of_lt_of_le (by have := World.block_lt_of_cell? _ _ hx519_0; first | rwa [add_block] at this | exact this) GB19.out)
                  replace hx519_0 := (HB.out.cell (World.block_lt_of_cell? w _ hx519_0)).trans hx519_0
                  have HC519_0 := Aside0.mk hl519_0
                  clear hi519_0 hl519_0
                  replace hx519_0 := (cell_far (p := ⟨go19, (x11_3 : Int).toNat, none⟩) (by first | (rw [add_block]; exact hn519_0) | (show (Addr.add _ _).block ≠ _; rw [add_block]; exact hn519_0) | exact hn519_0) (.int .i64 (rd (rd_L7 l0 x11_3) (ji15)))).trans hx519_0
                  clear hn519_0
                  replace p519 := eq_true p519
                  replace q519 := eq_true q519
                  try go_wp2
                  go_roundg k3
                  case measure => have := HK1.out; have := HK2.out; have := HK3.out; omega
                  case rel => exact ⟨(y518), (wrap64 (Int.tdiv x10_3 ((rd_L7 l0 x11_3).length : Int))), (wrap64 (x11_3 - 1)), eq_, eq_, H', ⟨by have := HK1.out; have := HK2.out; have := HK3.out; omega⟩, ⟨by refine vS_ ?_; exact Kd.S_mono (Kd.S_far (p := ⟨go19, (x11_3 : Int).toNat, none⟩) (Kd.S_mono HO_7.out (fun k_ hk => (⟨hk, fun e_ => hk (by rw [e_]; rfl)⟩ : _ ∧ k_ ≠ go19))) (fun _ hk => hk.2) _) (fun _ hk => hk.1)⟩, ⟨by refine vR_ ?_; exact HQ21.out⟩, ⟨by repeat (first | (with_reducible first | exact HB.out | apply below_alloc | apply pw_below_drewN | apply below_drew1 | refine below_set ?_ GB19.out) | exact HB.out)⟩⟩
                 ·
                  rw [if_neg c18] at H
                  exact absurd H (by simp)
                ·
                 rw [if_neg c17] at H
                 exact absurd H (by simp)
               ·
                rw [if_neg c16] at H
                exact absurd H (by simp)
             ·
              rw [if_neg c13] at H
              exact absurd H (by simp)
            ·
             rw [if_neg c12] at H
             exact absurd H (by simp)
           ·
            rw [if_neg c11] at H
            have c11b0 : decide (0 ≤ x11_3) = false := decide_eq_false c11
            clear c11
            by_cases c22 : x7_2.length < 5864062014805
            ·
             rw [if_pos c22] at H
             have LMc22 := Aside0.mk c22
             clear c22
             obtain ⟨y520, hy520⟩ : ∃ y_ : List (List Int), y_ = (x7_2 ++ [x9_3]) := ⟨_, rfl⟩
             replace H : (jigsawref09_Product.l1 k3 l0 x5_1 y520 (wrap64 (x8_2 + 1))) = some r := by first | (rw [hy520]; with_reducible exact H) | (have H2_ := (Option.bind_some _ _).symm.trans H; rw [hy520]; with_reducible exact H2_) | (have H2_ := (Option.bind_some _ _).symm.trans H; with_reducible exact H2_) | with_reducible exact H | (rw [hy520]; exact H) | exact H
             have Ny520 := Aside0.mk hy520
             clear hy520
             have H' := Aside0.mk H
             clear H
             obtain ⟨Ao24, co24, eo24⟩ := Kd.R_slice HO_9.out
             subst eo24
             go_wp2_with (first | ((with_reducible refine gate_builtin (b := .append) (xs := #[.tmp 67, .tmp 69]) rfl ?_); at_builtin; refine Kd.S_append (Kd.slice 3 (Kd.int .i64)) (w0 := w) w.heap.size rfl (.tmp 67) (.tmp 69) 27 30 (.slice none 0 0) 24 rfl Tryz.underlying27 info30 rfl (by decide) (by omega) u7 x7_2 x9_3 [.slice Ao24 x9_3.length co24] (fun _ => True) (fun k_ => some k_ = (.slice Ao24 x9_3.length co24 : Value).ownBlock) rfl rfl ?aP (fun k_ hk_ => ((Kd.R_mono (ok' := fun k_ => ((fun _ => True)) k_ ∧ some k_ ≠ (u7 : Value).ownBlock) (Kd.R_apart' (HO_9.out) (Kd.S_typed HO_7.out) (by decide)) (fun k_ hk => ⟨trivial, hk.2⟩))).1 k_ hk_.symm) ?aF ?aO ?aB ?aS ?aL ?_; (case aP => exact Kd.M_row (Kd.R_mono (Kd.R_tight rfl (Kd.R_mono (ok' := fun k_ => ((fun _ => True)) k_ ∧ some k_ ≠ (u7 : Value).ownBlock) (Kd.R_apart' (HO_9.out) (Kd.S_typed HO_7.out) (by decide)) (fun k_ hk => ⟨trivial, hk.2⟩))) (fun _ h_ => h_))); (case aB => exact bel_); (case aF => exact (fun _ _ => trivial)); (case aO => exact (by refine vS_ ?_; exact Kd.S_mono HO_7.out (fun k_ hk => ⟨trivial, fun e_ => hk e_⟩))); (case aS => exact (below_size bel_)); (case aL => have := LMc22.out; omega); intro v521 w23 ho hb hg hat; rw [← Ny520.out] at ho; replace HB := Aside0.mk (hb); have HO522 := Aside0.mk (ho); clear HO_7 HO_9; clear ho hb hg hat))
             go_roundg k3
             case measure => have := HK1.out; have := HK2.out; have := HK3.out; omega
             case rel => exact ⟨(y520), (wrap64 (x8_2 + 1)), eq_, H', ⟨by have := HK1.out; have := HK2.out; have := HK3.out; omega⟩, ⟨by refine vS_ ?_; exact HO522.out⟩, ⟨bel_⟩⟩
            ·
             rw [if_neg c22] at H
             exact absurd H (by simp)
        ·
         rw [if_neg c8] at H
         exact absurd H (by simp)
       ·
        rw [if_neg c7] at H
        exact absurd H (by simp)
      ·
       rw [if_neg c6] at H
       have c6b0 : decide (x8_2 < x5_1) = false := decide_eq_false c6
       clear c6
       obtain rfl := Option.some.inj H
       go_wp2
       go_ret
       exact ⟨_, by first | rfl | (simp [errW_none, errW_some] <;> rfl) | (simp [*, errW_none, errW_some] <;> rfl), by refine vS_ ?_; exact HO_7.out, bel_⟩

end Go.Proofs.YtmhchlbbfpmdgaaGreatDoor.XClauseKeeps
