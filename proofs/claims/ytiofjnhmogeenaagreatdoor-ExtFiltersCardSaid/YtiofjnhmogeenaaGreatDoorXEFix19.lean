-- by xprint.py, a program of this session, over the kit's print
import Derived.Test.YtiofjnhmogeenaaGreatDoorXEFix0
import Derived.Test.YtiofjnhmogeenaaGreatDoorXEFix18
import Derived.Test.YtiofjnhmogeenaaGreatDoorSq
namespace Go.Proofs.YtiofjnhmogeenaaGreatDoor.XExtFilters
open Go.RowKit Go.Proofs.YtiofjnhmogeenaaGreatDoor.Sq Go.Proofs.YtiofjnhmogeenaaGreatDoorW.PrintWords Go.Proofs.YtiofjnhmogeenaaGreatDoorW.PrintLast Go.Proofs.YtiofjnhmogeenaaGreatDoorW.PrintMore
attribute [local go_sem] max2_int min2_int max_two min_two max_three min_three max_four min_four   -- for this text's walks alone
set_option linter.unusedVariables false
set_option linter.unusedSimpArgs false

/-! ### jigsawref12_abs: function 36 -/
mutual
def jigsawref12_abs.l0 : Nat → List (List Int) → List Bool → List Bool → Bool → Int → Option ((List (List Int)) × Bool)
 | 0, _, _, _, _, _ => none
 | k + 1, a, d, e, g, l => if 0 < (a.length : Int) then (if l < ((rd_L5 a 0).length : Int) then (jigsawref12_abs.l1 k a d e g l 0) else (if g = true then ((jigsawref11_Those.f k (rd_L5 a 0) d).bind fun b => (if 1 < (a.length : Int) then ((jigsawref11_Those.f k (rd_L5 a 1) e).bind fun c => (some ((([b, c] : List (List Int))), true))) else (none))) else (some (([] : List (List Int)), false)))) else (none)
def jigsawref12_abs.l1 : Nat → List (List Int) → List Bool → List Bool → Bool → Int → Int → Option ((List (List Int)) × Bool)
 | 0, _, _, _, _, _, _ => none
 | k + 1, a, d, e, f, b, c => if 1 < (a.length : Int) then (if c < ((rd_L5 a 1).length : Int) then (if 0 < (a.length : Int) then (if 0 ≤ b then (if b < ((rd_L5 a 0).length : Int) then (if (rd (rd_L5 a 0) b) < 0 then (if 0 ≤ c then (if (wrap64 (-(rd (rd_L5 a 0) b))) = (rd (rd_L5 a 1) c) then (if b < (d.length : Int) then (if c < (e.length : Int) then (jigsawref12_abs.l1 k a (d.set (b : Int).toNat true) (e.set (c : Int).toNat true) true b (wrap64 (c + 1))) else (none)) else (none)) else (jigsawref12_abs.l1 k a d e f b (wrap64 (c + 1)))) else (none)) else (if 0 ≤ c then (if (rd (rd_L5 a 0) b) = (rd (rd_L5 a 1) c) then (if b < (d.length : Int) then (if c < (e.length : Int) then (jigsawref12_abs.l1 k a (d.set (b : Int).toNat true) (e.set (c : Int).toNat true) true b (wrap64 (c + 1))) else (none)) else (none)) else (jigsawref12_abs.l1 k a d e f b (wrap64 (c + 1)))) else (none))) else (none)) else (none)) else (none)) else (jigsawref12_abs.l0 k a d e f (wrap64 (b + 1)))) else (none)
end
def jigsawref12_abs.f (k : Nat) (a : List (List Int)) : Option ((List (List Int)) × Bool) := if 0 < (a.length : Int) then (if 0 ≤ ((rd_L5 a 0).length : Int) then (if (((rd_L5 a 0).length : Int) : Int).toNat ≤ 281474976710656 then (if 1 < (a.length : Int) then (if 0 ≤ ((rd_L5 a 1).length : Int) then (if (((rd_L5 a 1).length : Int) : Int).toNat ≤ 281474976710656 then (jigsawref12_abs.l0 k a (List.replicate (((rd_L5 a 0).length : Int) : Int).toNat false) (List.replicate (((rd_L5 a 1).length : Int) : Int).toNat false) false 0) else (none)) else (none)) else (none)) else (none)) else (none)) else (none)
theorem jigsawref12_abs.mono_l : ∀ k, (∀ a b c d e, LeO (jigsawref12_abs.l0 k a b c d e) (jigsawref12_abs.l0 (k + 1) a b c d e)) ∧ (∀ a b c d e f, LeO (jigsawref12_abs.l1 k a b c d e f) (jigsawref12_abs.l1 (k + 1) a b c d e f))
 | 0 => ⟨fun _ _ _ _ _ r h => by simp [jigsawref12_abs.l0] at h, fun _ _ _ _ _ _ r h => by simp [jigsawref12_abs.l1] at h⟩
 | k + 1 => by
  obtain ⟨ih0, ih1⟩ := jigsawref12_abs.mono_l k
  refine ⟨?_, ?_⟩
  ·
   intro a b c d e
   unfold jigsawref12_abs.l0
   have m0 := @jigsawref11_Those.mono
   exact leo_
  ·
   intro a b c d e f
   unfold jigsawref12_abs.l1
   have m0 := @jigsawref11_Those.mono
   exact leo_
theorem jigsawref12_abs.mono : ∀ a k, LeO (jigsawref12_abs.f k a) (jigsawref12_abs.f (k + 1) a) := by
 intro a k
 obtain ⟨ih0, ih1⟩ := jigsawref12_abs.mono_l k
 unfold jigsawref12_abs.f
 have m0 := @jigsawref11_Those.mono
 exact leo_
set_option maxHeartbeats 8000000 in
set_option maxRecDepth 100000 in
theorem jigsawref12_abs.calls (k : Nat) (A0 : Option Addr) (c0 : Nat) (a : List (List Int)) (r1 : List (List Int)) (r2 : Bool) (w : World) (cg : Kd.C (Kd.slice 3 (Kd.int .i64)) w A0 a.length a) (ch : a.length ≤ c0) (h : jigsawref12_abs.f k a = some (r1, r2)) :
  Calls Tryz.prog 36 #[.slice A0 a.length c0] w fun e w' => ∃ ci : Value, e = .returned (.tuple #[ci, .bool r2]) ∧ Kd.N (Kd.slice 3 (Kd.int .i64)) 30 w' w.heap.size (fun g => (w.heap.size ≤ g)) ci r1 ∧ Below w.heap.size w w' := by
 have G := a_ cg
 have cT := a_ ch
 clear cg ch
 have HB := a_ (Below.refl w.heap.size w)
 unfold jigsawref12_abs.f at h
 have H := h
 clear h
 by_cases c2 : 0 < (a.length : Int)
 ·
  rw [ip_ c2] at H
  have c2b0 : decide (0 < (a.length : Int)) = true := dt_ c2
  have c2b1 : decide (0 < a.length) = true := dt_ (by omega)
  clear c2
  by_cases c3 : 0 ≤ ((rd_L5 a 0).length : Int)
  ·
   rw [ip_ c3] at H
   have c3b0 := et_ c3
   have c3b1 : decide (0 ≤ ((rd_L5 a 0).length : Int)) = true := dt_ c3
   clear c3
   by_cases c4 : (((rd_L5 a 0).length : Int) : Int).toNat ≤ 281474976710656
   ·
    rw [ip_ c4] at H
    have c4b0 := et_ c4
    have c4b1 : decide ((((rd_L5 a 0).length : Int) : Int).toNat ≤ 281474976710656) = true := dt_ c4
    clear c4
    obtain ⟨bi, ax⟩ : ∃ y_ : List Bool, y_ = (List.replicate (((rd_L5 a 0).length : Int) : Int).toNat false) := ⟨_, rfl⟩
    replace H : (if 1 < (a.length : Int) then (if 0 ≤ ((rd_L5 a 1).length : Int) then (if (((rd_L5 a 1).length : Int) : Int).toNat ≤ 281474976710656 then (jigsawref12_abs.l0 k a bi (List.replicate (((rd_L5 a 1).length : Int) : Int).toNat false) false 0) else (none)) else (none)) else (none)) = some (r1, r2) := by first | (rw [ax]; with_reducible exact H) | (have H2_ := (ob_ _ _).symm.trans H; rw [ax]; with_reducible exact H2_) | (have H2_ := (ob_ _ _).symm.trans H; with_reducible exact H2_) | with_reducible exact H | (rw [ax]; exact H) | exact H
    have bu := a_ ax
    clear ax
    by_cases c5 : 1 < (a.length : Int)
    ·
     rw [ip_ c5] at H
     have c5b0 : decide (1 < (a.length : Int)) = true := dt_ c5
     have c5b1 : decide (1 < a.length) = true := dt_ (by omega)
     clear c5
     by_cases c6 : 0 ≤ ((rd_L5 a 1).length : Int)
     ·
      rw [ip_ c6] at H
      have c6b0 := et_ c6
      have c6b1 : decide (0 ≤ ((rd_L5 a 1).length : Int)) = true := dt_ c6
      clear c6
      by_cases c7 : (((rd_L5 a 1).length : Int) : Int).toNat ≤ 281474976710656
      ·
       rw [ip_ c7] at H
       have c7b0 := et_ c7
       have c7b1 : decide ((((rd_L5 a 1).length : Int) : Int).toNat ≤ 281474976710656) = true := dt_ c7
       clear c7
       obtain ⟨bH, ay⟩ : ∃ y_ : List Bool, y_ = (List.replicate (((rd_L5 a 1).length : Int) : Int).toNat false) := ⟨_, rfl⟩
       replace H : (jigsawref12_abs.l0 k a bi bH false 0) = some (r1, r2) := by first | (rw [ay]; with_reducible exact H) | (have H2_ := (ob_ _ _).symm.trans H; rw [ay]; with_reducible exact H2_) | (have H2_ := (ob_ _ _).symm.trans H; with_reducible exact H2_) | with_reducible exact H | (rw [ay]; exact H) | exact H
       have bv := a_ ay
       clear ay
       have H' := a_ H
       clear H
       have p460 : 0 ≤ (0 : Int) := (by omega)
       have aT : 0 < (a.length : Int) := dq_
       obtain ⟨q, cw, c460_0, cj, al, a0, bz⟩ := at_L5 G.out 0 p460 aT
       cases cj
       have cI : (0 < a.length) = True := et_ (by omega)
       (try rw [show ((0 : Int)).toNat = 0 from rfl] at al)
       (try rw [Addr.add_zero'] at al)
       have ct := a_ a0
       clear bz a0
       replace p460 := et_ p460
       replace aT := et_ aT
       go_enter Tryz.func36, Tryz.ntmps36
       go_wp2_with (first | ((with_reducible refine gate_dst (N := 16) rfl ?_); refine Kd.R_make Kd.bool _ 4 rfl (N := 16) rfl 107 _ _ rfl ((rd_L5 a 0).length : Int) rfl rfl Tryz.underlying107 (.bool false) 1 info4 rfl (by decide) (by omega) false (ok := fun _ => True) (okp := fun _ => True) rfl (fun _ hk => hk) trivial (dq_) (Nat.le_trans (Nat.mul_le_mul_right _ (dq_ : ((rd_L5 a 0).length : Int).toNat ≤ 281474976710656)) (by omega)) (Below.refl _ _) (lr_ _) ?_; intro a8 w8 bh hb hg_ hnew_; clear hg_ hnew_; (first | rw [← bu.out] at bh | (simp only [Int.reduceToNat] at bh; rw [← bu.out] at bh)); have aQ := a_ (Kd.R_lower (Kd.R_newM (M := fun g => (w.heap.size ≤ g)) bh (bz_ bel_) (fun g h_ => h_)) (bz_ bel_)); replace HB := a_ (bp_ bel_ hb); clear hb bh; have p464 : 0 ≤ (1 : Int) := (by omega); have aU : 1 < (a.length : Int) := dq_; obtain ⟨b3, cx, c464_0, ck, J, a1, bA⟩ := at_L5 G.out 1 p464 aU; obtain rfl : q = b3 := (by injection ck); (try simp only [show (1 : Int).toNat = 1 from rfl, Nat.reduceMul, Nat.reduceEqDiff, Go.Addr.add, ↓reduceIte] at J); have cJ : (1 < a.length) = True := et_ (by omega); (try rw [show ((1 : Int)).toNat = 1 from rfl] at J); replace J := (HB.out.cell (wl_ w _ J)).trans J; have cu := a_ a1; clear bA a1; replace p464 := et_ p464; replace aU := et_ aU) | ((with_reducible refine gate_dst (N := 21) rfl ?_); refine Kd.R_make Kd.bool _ 4 rfl (N := 21) rfl 107 _ _ rfl ((rd_L5 a 1).length : Int) rfl rfl Tryz.underlying107 (.bool false) 1 info4 rfl (by decide) (by omega) false (ok := fun _ => True) (okp := fun _ => True) rfl (fun _ hk => hk) trivial (dq_) (Nat.le_trans (Nat.mul_le_mul_right _ (dq_ : ((rd_L5 a 1).length : Int).toNat ≤ 281474976710656)) (by omega)) (Below.refl _ _) (lr_ _) ?_; intro aG w10 aH hb hg_ hnew_; clear hg_ hnew_; (first | rw [← bv.out] at aH | (simp only [Int.reduceToNat] at aH; rw [← bv.out] at aH)); have b4 := a_ (Kd.R_lower (Kd.R_new' (Kd.R_newM (M := fun g => (w.heap.size ≤ g)) aH (bz_ bel_) (fun g h_ => h_)) (rl_ (vR_ aQ.out))) (bz_ bel_)); replace aQ := a_ (Kd.R_elder' (vR_ aQ.out) (rs_ aH) hb); replace HB := a_ (bp_ bel_ hb); clear hb aH))
       go_loopg [6, 7] k (fun kq v6 v7 w' => ∃ (K : List Bool) (O : List Bool) (aV : Bool) (d : Int), v6 = .bool aV ∧ v7 = .int .i64 d ∧ Aside0 (jigsawref12_abs.l0 kq a K O aV d = some (r1, r2)) ∧ Aside0 (kq ≤ k) ∧ Aside0 (Kd.R Kd.bool 4 w' w.heap.size (fun g => (w.heap.size ≤ g) ∧ some g ≠ (aG : Value).ownBlock) a8 K) ∧ Aside0 (Kd.R Kd.bool 4 w' w.heap.size (fun g => (w.heap.size ≤ g) ∧ some g ≠ (a8 : Value).ownBlock) aG O) ∧ Aside0 (Below w.heap.size w w'))
       case atStart => exact ⟨(bi), (bH), (false), (0), eq_, eq_, H', ⟨lr_ _⟩, ⟨by refine vR_ ?_; exact rm_ aQ.out (fun _ hk => ⟨hk.1.1, hk.2⟩)⟩, ⟨by refine vR_ ?_; exact rm_ b4.out (fun _ hk => ⟨hk.1.1, hk.2⟩)⟩, ⟨bel_⟩⟩
       case round =>
        clear H'
        try clear c2
        try clear c2b0
        try clear c2b1
        try clear p2
        try clear c3
        try clear c3b0
        try clear c3b1
        try clear c4
        try clear c4b0
        try clear c4b1
        try clear p4
        try clear q4
        try clear cz
        try clear cA
        try clear c5
        try clear c5b0
        try clear c5b1
        try clear c6
        try clear c6b0
        try clear c6b1
        try clear c7
        try clear c7b0
        try clear c7b1
        try clear al
        try clear J
        try clear p460
        try clear p464
        try clear aT
        try clear aU
        obtain ⟨K, O, aV, d, rfl, rfl, HA, an, HO_4, HO_5, HB⟩ := hrel
        cases gk with
        | zero => exact absurd HA.out (by simp [jigsawref12_abs.l0])
        | succ k1 =>
         have H := HA.out
         clear HA
         simp only [jigsawref12_abs.l0] at H
         by_cases c12 : 0 < (a.length : Int)
         ·
          rw [ip_ c12] at H
          have c12b0 : decide (0 < (a.length : Int)) = true := dt_ c12
          have c12b1 : decide (0 < a.length) = true := dt_ (by omega)
          clear c12
          by_cases c13 : d < ((rd_L5 a 0).length : Int)
          ·
           rw [ip_ c13] at H
           have c13b0 : decide (d < ((rd_L5 a 0).length : Int)) = true := dt_ c13
           clear c13
           have H' := a_ H
           clear H
           have p468 : 0 ≤ (0 : Int) := (by omega)
           have V : 0 < (a.length : Int) := dq_
           obtain ⟨az, aW, c468_0, aX, m, I, Y⟩ := at_L5 G.out 0 p468 V
           obtain rfl : q = az := (by injection aX)
           have bw : (0 < a.length) = True := et_ (by omega)
           (try rw [show ((0 : Int)).toNat = 0 from rfl] at m)
           (try rw [Addr.add_zero'] at m)
           replace m := (HB.out.cell (wl_ w _ m)).trans m
           have a2 := a_ I
           clear Y I
           replace p468 := et_ p468
           replace V := et_ V
           go_wp2
           go_loopg [6, 8] k1 (fun kq v6 v8 w' => ∃ (x : List Bool) (r : List Bool) (aI : Bool) (b : Int), v6 = .bool aI ∧ v8 = .int .i64 b ∧ Aside0 (jigsawref12_abs.l1 kq a x r aI d b = some (r1, r2)) ∧ Aside0 (kq ≤ k1) ∧ Aside0 (Kd.R Kd.bool 4 w' w.heap.size (fun g => (w.heap.size ≤ g) ∧ some g ≠ (aG : Value).ownBlock) a8 x) ∧ Aside0 (Kd.R Kd.bool 4 w' w.heap.size (fun g => (w.heap.size ≤ g) ∧ some g ≠ (a8 : Value).ownBlock) aG r) ∧ Aside0 (Below w.heap.size w w'))
           case atStart => exact ⟨(K), (O), (aV), (0), eq_, eq_, H', ⟨lr_ _⟩, ⟨by refine vR_ ?_; exact HO_4.out⟩, ⟨by refine vR_ ?_; exact HO_5.out⟩, ⟨bel_⟩⟩
           case round =>
            clear H'
            try clear c1
            try clear c2
            try clear c2b0
            try clear c2b1
            try clear p2
            try clear c3
            try clear c3b0
            try clear c3b1
            try clear c4
            try clear c4b0
            try clear c4b1
            try clear p4
            try clear q4
            try clear cz
            try clear cA
            try clear c5
            try clear c5b0
            try clear c5b1
            try clear c6
            try clear c6b0
            try clear c6b1
            try clear c7
            try clear c7b0
            try clear c7b1
            try clear c12
            try clear c12b0
            try clear c12b1
            try clear c13
            try clear c13b0
            try clear al
            try clear J
            try clear m
            try clear p2
            try clear p4
            try clear p460
            try clear p464
            try clear p468
            try clear q4
            try clear aT
            try clear aU
            try clear V
            obtain ⟨x, r, aI, b, rfl, rfl, HA, ao, HO_4, HO_5, HB⟩ := hrel
            cases gk with
            | zero => exact absurd HA.out (by simp [jigsawref12_abs.l1])
            | succ k2 =>
             have H := HA.out
             clear HA
             simp only [jigsawref12_abs.l1] at H
             by_cases c14 : 1 < (a.length : Int)
             ·
              rw [ip_ c14] at H
              have c14b0 : decide (1 < (a.length : Int)) = true := dt_ c14
              have c14b1 : decide (1 < a.length) = true := dt_ (by omega)
              clear c14
              by_cases c15 : b < ((rd_L5 a 1).length : Int)
              ·
               rw [ip_ c15] at H
               have c15b0 : decide (b < ((rd_L5 a 1).length : Int)) = true := dt_ c15
               clear c15
               by_cases c16 : 0 < (a.length : Int)
               ·
                rw [ip_ c16] at H
                have c16b0 : decide (0 < (a.length : Int)) = true := dt_ c16
                have c16b1 : decide (0 < a.length) = true := dt_ (by omega)
                clear c16
                by_cases c17 : 0 ≤ d
                ·
                 rw [ip_ c17] at H
                 have c17b0 : decide (0 ≤ d) = true := dt_ c17
                 clear c17
                 by_cases c18 : d < ((rd_L5 a 0).length : Int)
                 ·
                  rw [ip_ c18] at H
                  have c18b0 : decide (d < ((rd_L5 a 0).length : Int)) = true := dt_ c18
                  clear c18
                  by_cases c19 : (rd (rd_L5 a 0) d) < 0
                  ·
                   rw [ip_ c19] at H
                   have c19b0 : decide ((rd (rd_L5 a 0) d) < 0) = true := dt_ c19
                   clear c19
                   by_cases c20 : 0 ≤ b
                   ·
                    rw [ip_ c20] at H
                    have c20b0 : decide (0 ≤ b) = true := dt_ c20
                    clear c20
                    by_cases c21 : (wrap64 (-(rd (rd_L5 a 0) d))) = (rd (rd_L5 a 1) b)
                    ·
                     rw [ip_ c21] at H
                     have c21b0 : ((wrap64 (-(rd (rd_L5 a 0) d))) == (rd (rd_L5 a 1) b)) = true := beq_iff_eq.mpr c21
                     have c21b1 : ((wrap64 (-(rd (rd_L5 a 0) d))) != (rd (rd_L5 a 1) b)) = false := bn_.mpr c21
                     clear c21
                     by_cases c22 : d < (x.length : Int)
                     ·
                      rw [ip_ c22] at H
                      have c22b0 : decide (d < (x.length : Int)) = true := dt_ c22
                      clear c22
                      obtain ⟨a9, aA⟩ : ∃ y_ : List Bool, y_ = (x.set (d : Int).toNat true) := ⟨_, rfl⟩
                      replace H : (if b < (r.length : Int) then (jigsawref12_abs.l1 k2 a a9 (r.set (b : Int).toNat true) true d (wrap64 (b + 1))) else (none)) = some (r1, r2) := by first | (rw [aA]; with_reducible exact H) | (have H2_ := (ob_ _ _).symm.trans H; rw [aA]; with_reducible exact H2_) | (have H2_ := (ob_ _ _).symm.trans H; with_reducible exact H2_) | with_reducible exact H | (rw [aA]; exact H) | exact H
                      have b5 := a_ aA
                      clear aA
                      by_cases c24 : b < (r.length : Int)
                      ·
                       rw [ip_ c24] at H
                       have c24b0 : decide (b < (r.length : Int)) = true := dt_ c24
                       clear c24
                       obtain ⟨bj, aB⟩ : ∃ y_ : List Bool, y_ = (r.set (b : Int).toNat true) := ⟨_, rfl⟩
                       replace H : (jigsawref12_abs.l1 k2 a a9 bj true d (wrap64 (b + 1))) = some (r1, r2) := by first | (rw [aB]; with_reducible exact H) | (have H2_ := (ob_ _ _).symm.trans H; rw [aB]; with_reducible exact H2_) | (have H2_ := (ob_ _ _).symm.trans H; with_reducible exact H2_) | with_reducible exact H | (rw [aB]; exact H) | exact H
                       have b6 := a_ aB
                       clear aB
                       have H' := a_ H
                       clear H
                       have p469 : 0 ≤ (1 : Int) := (by omega)
                       have A : 1 < (a.length : Int) := dq_
                       obtain ⟨W, aC, c469_0, ae, c, o, B⟩ := at_L5 G.out 1 p469 A
                       obtain rfl : q = W := (by injection ae)
                       (try simp only [show (1 : Int).toNat = 1 from rfl, Nat.reduceMul, Nat.reduceEqDiff, Go.Addr.add, ↓reduceIte] at c)
                       have aR : (1 < a.length) = True := et_ (by omega)
                       (try rw [show ((1 : Int)).toNat = 1 from rfl] at c)
                       replace c := (HB.out.cell (wl_ w _ c)).trans c
                       have am := a_ o
                       clear B o
                       replace p469 := et_ p469
                       replace A := et_ A
                       have p470 : 0 ≤ (0 : Int) := (by omega)
                       have E : 0 < (a.length : Int) := dq_
                       obtain ⟨af, aY, c470_0, ap, l, y, z⟩ := at_L5 G.out 0 p470 E
                       obtain rfl : q = af := (by injection ap)
                       have ba : (0 < a.length) = True := et_ (by omega)
                       (try rw [show ((0 : Int)).toNat = 0 from rfl] at l)
                       (try rw [Addr.add_zero'] at l)
                       replace l := (HB.out.cell (wl_ w _ l)).trans l
                       have P := a_ z
                       have aJ := a_ y
                       clear z y
                       replace p470 := et_ p470
                       replace E := et_ E
                       have p471 : 0 ≤ (d : Int) := dq_
                       have F : d < ((rd_L5 a 0).length : Int) := dq_
                       obtain ⟨bb, aq, n⟩ := ai_ P.out d p471 F
                       cases aq
                       replace n := (HB.out.cell (wl_ w _ n)).trans n
                       replace p471 := et_ p471
                       replace F := et_ F
                       have p472 : 0 ≤ (1 : Int) := (by omega)
                       have ar : 1 < (a.length : Int) := dq_
                       obtain ⟨bc, bI, c472_0, bk, s, Z, aa⟩ := at_L5 G.out 1 p472 ar
                       obtain rfl : q = bc := (by injection bk)
                       (try simp only [show (1 : Int).toNat = 1 from rfl, Nat.reduceMul, Nat.reduceEqDiff, Go.Addr.add, ↓reduceIte] at s)
                       have b7 : (1 < a.length) = True := et_ (by omega)
                       (try rw [show ((1 : Int)).toNat = 1 from rfl] at s)
                       replace s := (HB.out.cell (wl_ w _ s)).trans s
                       have aK := a_ aa
                       have bB := a_ Z
                       clear aa Z
                       replace p472 := et_ p472
                       replace ar := et_ ar
                       have ea_ := si_ (c.symm.trans s)
                       injection ea_ with ea_ en_ ec_
                       subst ea_
                       subst ec_
                       clear en_
                       have p473 : 0 ≤ (b : Int) := dq_
                       have au : b < ((rd_L5 a 1).length : Int) := dq_
                       obtain ⟨b8, bl, Q⟩ := ai_ aK.out b p473 au
                       cases bl
                       replace Q := (HB.out.cell (wl_ w _ Q)).trans Q
                       replace p473 := et_ p473
                       replace au := et_ au
                       have p23 : 0 ≤ (d : Int) := dq_
                       have bJ : (d : Int) < ((x.length : Int) : Int) := dq_
                       obtain ⟨go23, bd, bK, bL, gl23, cl23, HG23⟩ := Kd.R_form HO_4.out (by omega)
                       (first | cases bK | (injection bK with ea_ en_ ec_; (first | subst ea_ | (injection ea_ with ea_; subst ea_)); subst ec_; clear en_))
                       have GB23 := a_ bL
                       have GG23 := a_ HG23
                       clear bL gl23 HG23
                       obtain ⟨cB, hf23_0⟩ := Kd.R_celln false HO_4.out (d : Int) p23 bJ
                       replace p23 := et_ p23
                       replace bJ := et_ bJ
                       have HP26 := Kd.R_putg HO_4.out (d : Int) true
                       go_wp2_with (first | ((with_reducible refine gate_store (t := 4) (p := 58) rfl ?_); refine store_event (t := 4) (p := 58) (v := ?vo_w27) (w1 := (wr.setCell ⟨go23, (d : Int).toNat, none⟩ (.bool true))) ?hg ?ho ?hn ?hr ?_; (case ho => rfl); (case hg => rfl); (case hn => rfl); (case hr => first | (go_simp; done) | (go_simp; rfl)); intro w27 hw; have hg : wr.grownBy w27 (some go23) := (by rw [hw]; exact HP26.2); have hp_ : Kd.R Kd.bool 4 w27 w.heap.size (fun g => (w.heap.size ≤ g) ∧ some g ≠ (aG : Value).ownBlock) (.slice (some ⟨go23, 0, none⟩) x.length bd) a9 := (by rw [hw, b5.out]; exact HP26.1); clear HP26; replace HO_4 := a_ (hp_); replace HO_5 := a_ (Kd.R_after (v := (.slice (some ⟨go23, 0, none⟩) x.length bd)) (v1 := (.slice (some ⟨go23, 0, none⟩) x.length bd)) (ok := (fun g => (w.heap.size ≤ g))) (vR_ HO_5.out) hg (.inl rfl)); replace HB := a_ ((by rw [hw]; exact below_set (HB.out) GB23.out : Below w.heap.size w w27)); clear hg hw hp_; have p25 : 0 ≤ (b : Int) := dq_; have bM : (b : Int) < ((r.length : Int) : Int) := dq_; obtain ⟨go25, bm, bN, bO, gl25, cl25, HG25⟩ := Kd.R_form HO_5.out (by omega); (first | cases bN | (injection bN with ea_ en_ ec_; (first | subst ea_ | (injection ea_ with ea_; subst ea_)); subst ec_; clear en_)); have GB25 := a_ bO; have GG25 := a_ HG25; clear bO gl25 HG25; obtain ⟨cC, hf25_0⟩ := Kd.R_celln false HO_5.out (b : Int) p25 bM; replace p25 := et_ p25; replace bM := et_ bM; obtain ⟨cK, hz28_⟩ := Kd.R_celln false HO_5.out (b : Int) (dq_) (dq_); have HP28 := Kd.R_putg HO_5.out (b : Int) true) | ((with_reducible refine gate_store (t := 4) (p := 61) rfl ?_); refine store_event (t := 4) (p := 61) (v := ?vo_w29) (w1 := (w27.setCell ⟨go25, (b : Int).toNat, none⟩ (.bool true))) ?hg ?ho ?hn ?hr ?_; (case ho => rfl); (case hg => rfl); (case hn => rfl); (case hr => first | (go_simp; done) | (go_simp; rfl)); intro w29 hw; have hg : w27.grownBy w29 (some go25) := (by rw [hw]; exact HP28.2); have hp_ : Kd.R Kd.bool 4 w29 w.heap.size (fun g => (w.heap.size ≤ g) ∧ some g ≠ (.slice (some ⟨go23, 0, none⟩) x.length bd : Value).ownBlock) (.slice (some ⟨go25, 0, none⟩) r.length bm) bj := (by rw [hw, b6.out]; exact HP28.1); clear HP28; replace HO_4 := a_ (Kd.R_after (v := (.slice (some ⟨go25, 0, none⟩) r.length bm)) (v1 := (.slice (some ⟨go25, 0, none⟩) r.length bm)) (ok := (fun g => (w.heap.size ≤ g))) (vR_ HO_4.out) hg (.inl rfl)); replace HO_5 := a_ (hp_); replace HB := a_ ((by rw [hw]; exact below_set (HB.out) GB25.out : Below w.heap.size w w29)); clear hg hw hp_))
                       go_roundg k2
                       case measure => have := an.out; have := ao.out; omega
                       case rel => exact ⟨(a9), (bj), (true), (wrap64 (b + 1)), eq_, eq_, H', ⟨by have := an.out; have := ao.out; omega⟩, ⟨by refine vR_ ?_; exact HO_4.out⟩, ⟨by refine vR_ ?_; exact HO_5.out⟩, ⟨bel_⟩⟩
                      ·
                       rw [ig_ c24] at H
                       exact absurd H (by simp)
                     ·
                      rw [ig_ c22] at H
                      exact absurd H (by simp)
                    ·
                     rw [ig_ c21] at H
                     have c21b0 : ((wrap64 (-(rd (rd_L5 a 0) d))) == (rd (rd_L5 a 1) b)) = false := be_.mpr c21
                     have c21b1 : ((wrap64 (-(rd (rd_L5 a 0) d))) != (rd (rd_L5 a 1) b)) = true := ni_.mpr c21
                     have H' := a_ H
                     clear H
                     have p469 : 0 ≤ (1 : Int) := (by omega)
                     have A : 1 < (a.length : Int) := dq_
                     obtain ⟨W, aC, c469_0, ae, c, o, B⟩ := at_L5 G.out 1 p469 A
                     obtain rfl : q = W := (by injection ae)
                     (try simp only [show (1 : Int).toNat = 1 from rfl, Nat.reduceMul, Nat.reduceEqDiff, Go.Addr.add, ↓reduceIte] at c)
                     have aR : (1 < a.length) = True := et_ (by omega)
                     (try rw [show ((1 : Int)).toNat = 1 from rfl] at c)
                     replace c := (HB.out.cell (wl_ w _ c)).trans c
                     have am := a_ o
                     clear B o
                     replace p469 := et_ p469
                     replace A := et_ A
                     have p470 : 0 ≤ (0 : Int) := (by omega)
                     have E : 0 < (a.length : Int) := dq_
                     obtain ⟨af, aY, c470_0, ap, l, y, z⟩ := at_L5 G.out 0 p470 E
                     obtain rfl : q = af := (by injection ap)
                     have ba : (0 < a.length) = True := et_ (by omega)
                     (try rw [show ((0 : Int)).toNat = 0 from rfl] at l)
                     (try rw [Addr.add_zero'] at l)
                     replace l := (HB.out.cell (wl_ w _ l)).trans l
                     have P := a_ z
                     have aJ := a_ y
                     clear z y
                     replace p470 := et_ p470
                     replace E := et_ E
                     have p471 : 0 ≤ (d : Int) := dq_
                     have F : d < ((rd_L5 a 0).length : Int) := dq_
                     obtain ⟨bb, aq, n⟩ := ai_ P.out d p471 F
                     cases aq
                     replace n := (HB.out.cell (wl_ w _ n)).trans n
                     replace p471 := et_ p471
                     replace F := et_ F
                     have p472 : 0 ≤ (1 : Int) := (by omega)
                     have ar : 1 < (a.length : Int) := dq_
                     obtain ⟨bc, bI, c472_0, bk, s, Z, aa⟩ := at_L5 G.out 1 p472 ar
                     obtain rfl : q = bc := (by injection bk)
                     (try simp only [show (1 : Int).toNat = 1 from rfl, Nat.reduceMul, Nat.reduceEqDiff, Go.Addr.add, ↓reduceIte] at s)
                     have b7 : (1 < a.length) = True := et_ (by omega)
                     (try rw [show ((1 : Int)).toNat = 1 from rfl] at s)
                     replace s := (HB.out.cell (wl_ w _ s)).trans s
                     have aK := a_ aa
                     have bB := a_ Z
                     clear aa Z
                     replace p472 := et_ p472
                     replace ar := et_ ar
                     have ea_ := si_ (c.symm.trans s)
                     injection ea_ with ea_ en_ ec_
                     subst ea_
                     subst ec_
                     clear en_
                     have p473 : 0 ≤ (b : Int) := dq_
                     have au : b < ((rd_L5 a 1).length : Int) := dq_
                     obtain ⟨b8, bl, Q⟩ := ai_ aK.out b p473 au
                     cases bl
                     replace Q := (HB.out.cell (wl_ w _ Q)).trans Q
                     replace p473 := et_ p473
                     replace au := et_ au
                     go_wp2
                     go_roundg k2
                     case measure => have := an.out; have := ao.out; omega
                     case rel => exact ⟨(x), (r), (aI), (wrap64 (b + 1)), eq_, eq_, H', ⟨by have := an.out; have := ao.out; omega⟩, ⟨by refine vR_ ?_; exact HO_4.out⟩, ⟨by refine vR_ ?_; exact HO_5.out⟩, ⟨bel_⟩⟩
                   ·
                    rw [ig_ c20] at H
                    exact absurd H (by simp)
                  ·
                   rw [ig_ c19] at H
                   have c19b0 : decide ((rd (rd_L5 a 0) d) < 0) = false := df_ c19
                   clear c19
                   by_cases c30 : 0 ≤ b
                   ·
                    rw [ip_ c30] at H
                    have c30b0 : decide (0 ≤ b) = true := dt_ c30
                    clear c30
                    by_cases c31 : (rd (rd_L5 a 0) d) = (rd (rd_L5 a 1) b)
                    ·
                     rw [ip_ c31] at H
                     have c31b0 : ((rd (rd_L5 a 0) d) == (rd (rd_L5 a 1) b)) = true := beq_iff_eq.mpr c31
                     have c31b1 : ((rd (rd_L5 a 0) d) != (rd (rd_L5 a 1) b)) = false := bn_.mpr c31
                     clear c31
                     by_cases c32 : d < (x.length : Int)
                     ·
                      rw [ip_ c32] at H
                      have c32b0 : decide (d < (x.length : Int)) = true := dt_ c32
                      clear c32
                      obtain ⟨be, aD⟩ : ∃ y_ : List Bool, y_ = (x.set (d : Int).toNat true) := ⟨_, rfl⟩
                      replace H : (if b < (r.length : Int) then (jigsawref12_abs.l1 k2 a be (r.set (b : Int).toNat true) true d (wrap64 (b + 1))) else (none)) = some (r1, r2) := by first | (rw [aD]; with_reducible exact H) | (have H2_ := (ob_ _ _).symm.trans H; rw [aD]; with_reducible exact H2_) | (have H2_ := (ob_ _ _).symm.trans H; with_reducible exact H2_) | with_reducible exact H | (rw [aD]; exact H) | exact H
                      have b9 := a_ aD
                      clear aD
                      by_cases c34 : b < (r.length : Int)
                      ·
                       rw [ip_ c34] at H
                       have c34b0 : decide (b < (r.length : Int)) = true := dt_ c34
                       clear c34
                       obtain ⟨bn, aE⟩ : ∃ y_ : List Bool, y_ = (r.set (b : Int).toNat true) := ⟨_, rfl⟩
                       replace H : (jigsawref12_abs.l1 k2 a be bn true d (wrap64 (b + 1))) = some (r1, r2) := by first | (rw [aE]; with_reducible exact H) | (have H2_ := (ob_ _ _).symm.trans H; rw [aE]; with_reducible exact H2_) | (have H2_ := (ob_ _ _).symm.trans H; with_reducible exact H2_) | with_reducible exact H | (rw [aE]; exact H) | exact H
                       have ca := a_ aE
                       clear aE
                       have H' := a_ H
                       clear H
                       have p469 : 0 ≤ (1 : Int) := (by omega)
                       have A : 1 < (a.length : Int) := dq_
                       obtain ⟨W, aC, c469_0, ae, c, o, B⟩ := at_L5 G.out 1 p469 A
                       obtain rfl : q = W := (by injection ae)
                       (try simp only [show (1 : Int).toNat = 1 from rfl, Nat.reduceMul, Nat.reduceEqDiff, Go.Addr.add, ↓reduceIte] at c)
                       have aR : (1 < a.length) = True := et_ (by omega)
                       (try rw [show ((1 : Int)).toNat = 1 from rfl] at c)
                       replace c := (HB.out.cell (wl_ w _ c)).trans c
                       have am := a_ o
                       clear B o
                       replace p469 := et_ p469
                       replace A := et_ A
                       have p470 : 0 ≤ (0 : Int) := (by omega)
                       have E : 0 < (a.length : Int) := dq_
                       obtain ⟨af, aY, c470_0, ap, l, y, z⟩ := at_L5 G.out 0 p470 E
                       obtain rfl : q = af := (by injection ap)
                       have ba : (0 < a.length) = True := et_ (by omega)
                       (try rw [show ((0 : Int)).toNat = 0 from rfl] at l)
                       (try rw [Addr.add_zero'] at l)
                       replace l := (HB.out.cell (wl_ w _ l)).trans l
                       have P := a_ z
                       have aJ := a_ y
                       clear z y
                       replace p470 := et_ p470
                       replace E := et_ E
                       have p471 : 0 ≤ (d : Int) := dq_
                       have F : d < ((rd_L5 a 0).length : Int) := dq_
                       obtain ⟨bb, aq, n⟩ := ai_ P.out d p471 F
                       cases aq
                       replace n := (HB.out.cell (wl_ w _ n)).trans n
                       replace p471 := et_ p471
                       replace F := et_ F
                       have p476 : 0 ≤ (1 : Int) := (by omega)
                       have av : 1 < (a.length : Int) := dq_
                       obtain ⟨bf, bP, c476_0, bo, u, ab, ac⟩ := at_L5 G.out 1 p476 av
                       obtain rfl : q = bf := (by injection bo)
                       (try simp only [show (1 : Int).toNat = 1 from rfl, Nat.reduceMul, Nat.reduceEqDiff, Go.Addr.add, ↓reduceIte] at u)
                       have cb : (1 < a.length) = True := et_ (by omega)
                       (try rw [show ((1 : Int)).toNat = 1 from rfl] at u)
                       replace u := (HB.out.cell (wl_ w _ u)).trans u
                       have aL := a_ ac
                       have bC := a_ ab
                       clear ac ab
                       replace p476 := et_ p476
                       replace av := et_ av
                       have ea_ := si_ (c.symm.trans u)
                       injection ea_ with ea_ en_ ec_
                       subst ea_
                       subst ec_
                       clear en_
                       have p477 : 0 ≤ (b : Int) := dq_
                       have aw : b < ((rd_L5 a 1).length : Int) := dq_
                       obtain ⟨cc, bp, U⟩ := ai_ aL.out b p477 aw
                       cases bp
                       replace U := (HB.out.cell (wl_ w _ U)).trans U
                       replace p477 := et_ p477
                       replace aw := et_ aw
                       have p33 : 0 ≤ (d : Int) := dq_
                       have bQ : (d : Int) < ((x.length : Int) : Int) := dq_
                       obtain ⟨go33, bg, bR, bS, gl33, cl33, HG33⟩ := Kd.R_form HO_4.out (by omega)
                       (first | cases bR | (injection bR with ea_ en_ ec_; (first | subst ea_ | (injection ea_ with ea_; subst ea_)); subst ec_; clear en_))
                       have GB33 := a_ bS
                       have GG33 := a_ HG33
                       clear bS gl33 HG33
                       obtain ⟨cD, hf33_0⟩ := Kd.R_celln false HO_4.out (d : Int) p33 bQ
                       replace p33 := et_ p33
                       replace bQ := et_ bQ
                       have HP36 := Kd.R_putg HO_4.out (d : Int) true
                       go_wp2_with (first | ((with_reducible refine gate_store (t := 4) (p := 58) rfl ?_); refine store_event (t := 4) (p := 58) (v := ?vo_w37) (w1 := (wr.setCell ⟨go33, (d : Int).toNat, none⟩ (.bool true))) ?hg ?ho ?hn ?hr ?_; (case ho => rfl); (case hg => rfl); (case hn => rfl); (case hr => first | (go_simp; done) | (go_simp; rfl)); intro w37 hw; have hg : wr.grownBy w37 (some go33) := (by rw [hw]; exact HP36.2); have hp_ : Kd.R Kd.bool 4 w37 w.heap.size (fun g => (w.heap.size ≤ g) ∧ some g ≠ (aG : Value).ownBlock) (.slice (some ⟨go33, 0, none⟩) x.length bg) be := (by rw [hw, b9.out]; exact HP36.1); clear HP36; replace HO_4 := a_ (hp_); replace HO_5 := a_ (Kd.R_after (v := (.slice (some ⟨go33, 0, none⟩) x.length bg)) (v1 := (.slice (some ⟨go33, 0, none⟩) x.length bg)) (ok := (fun g => (w.heap.size ≤ g))) (vR_ HO_5.out) hg (.inl rfl)); replace HB := a_ ((by rw [hw]; exact below_set (HB.out) GB33.out : Below w.heap.size w w37)); clear hg hw hp_; have p35 : 0 ≤ (b : Int) := dq_; have bT : (b : Int) < ((r.length : Int) : Int) := dq_; obtain ⟨go35, bq, bU, bV, gl35, cl35, HG35⟩ := Kd.R_form HO_5.out (by omega); (first | cases bU | (injection bU with ea_ en_ ec_; (first | subst ea_ | (injection ea_ with ea_; subst ea_)); subst ec_; clear en_)); have GB35 := a_ bV; have GG35 := a_ HG35; clear bV gl35 HG35; obtain ⟨cE, hf35_0⟩ := Kd.R_celln false HO_5.out (b : Int) p35 bT; replace p35 := et_ p35; replace bT := et_ bT; obtain ⟨cL, hz38_⟩ := Kd.R_celln false HO_5.out (b : Int) (dq_) (dq_); have HP38 := Kd.R_putg HO_5.out (b : Int) true) | ((with_reducible refine gate_store (t := 4) (p := 61) rfl ?_); refine store_event (t := 4) (p := 61) (v := ?vo_w39) (w1 := (w37.setCell ⟨go35, (b : Int).toNat, none⟩ (.bool true))) ?hg ?ho ?hn ?hr ?_; (case ho => rfl); (case hg => rfl); (case hn => rfl); (case hr => first | (go_simp; done) | (go_simp; rfl)); intro w39 hw; have hg : w37.grownBy w39 (some go35) := (by rw [hw]; exact HP38.2); have hp_ : Kd.R Kd.bool 4 w39 w.heap.size (fun g => (w.heap.size ≤ g) ∧ some g ≠ (.slice (some ⟨go33, 0, none⟩) x.length bg : Value).ownBlock) (.slice (some ⟨go35, 0, none⟩) r.length bq) bn := (by rw [hw, ca.out]; exact HP38.1); clear HP38; replace HO_4 := a_ (Kd.R_after (v := (.slice (some ⟨go35, 0, none⟩) r.length bq)) (v1 := (.slice (some ⟨go35, 0, none⟩) r.length bq)) (ok := (fun g => (w.heap.size ≤ g))) (vR_ HO_4.out) hg (.inl rfl)); replace HO_5 := a_ (hp_); replace HB := a_ ((by rw [hw]; exact below_set (HB.out) GB35.out : Below w.heap.size w w39)); clear hg hw hp_))
                       go_roundg k2
                       case measure => have := an.out; have := ao.out; omega
                       case rel => exact ⟨(be), (bn), (true), (wrap64 (b + 1)), eq_, eq_, H', ⟨by have := an.out; have := ao.out; omega⟩, ⟨by refine vR_ ?_; exact HO_4.out⟩, ⟨by refine vR_ ?_; exact HO_5.out⟩, ⟨bel_⟩⟩
                      ·
                       rw [ig_ c34] at H
                       exact absurd H (by simp)
                     ·
                      rw [ig_ c32] at H
                      exact absurd H (by simp)
                    ·
                     rw [ig_ c31] at H
                     have c31b0 : ((rd (rd_L5 a 0) d) == (rd (rd_L5 a 1) b)) = false := be_.mpr c31
                     have c31b1 : ((rd (rd_L5 a 0) d) != (rd (rd_L5 a 1) b)) = true := ni_.mpr c31
                     have H' := a_ H
                     clear H
                     have p469 : 0 ≤ (1 : Int) := (by omega)
                     have A : 1 < (a.length : Int) := dq_
                     obtain ⟨W, aC, c469_0, ae, c, o, B⟩ := at_L5 G.out 1 p469 A
                     obtain rfl : q = W := (by injection ae)
                     (try simp only [show (1 : Int).toNat = 1 from rfl, Nat.reduceMul, Nat.reduceEqDiff, Go.Addr.add, ↓reduceIte] at c)
                     have aR : (1 < a.length) = True := et_ (by omega)
                     (try rw [show ((1 : Int)).toNat = 1 from rfl] at c)
                     replace c := (HB.out.cell (wl_ w _ c)).trans c
                     have am := a_ o
                     clear B o
                     replace p469 := et_ p469
                     replace A := et_ A
                     have p470 : 0 ≤ (0 : Int) := (by omega)
                     have E : 0 < (a.length : Int) := dq_
                     obtain ⟨af, aY, c470_0, ap, l, y, z⟩ := at_L5 G.out 0 p470 E
                     obtain rfl : q = af := (by injection ap)
                     have ba : (0 < a.length) = True := et_ (by omega)
                     (try rw [show ((0 : Int)).toNat = 0 from rfl] at l)
                     (try rw [Addr.add_zero'] at l)
                     replace l := (HB.out.cell (wl_ w _ l)).trans l
                     have P := a_ z
                     have aJ := a_ y
                     clear z y
                     replace p470 := et_ p470
                     replace E := et_ E
                     have p471 : 0 ≤ (d : Int) := dq_
                     have F : d < ((rd_L5 a 0).length : Int) := dq_
                     obtain ⟨bb, aq, n⟩ := ai_ P.out d p471 F
                     cases aq
                     replace n := (HB.out.cell (wl_ w _ n)).trans n
                     replace p471 := et_ p471
                     replace F := et_ F
                     have p476 : 0 ≤ (1 : Int) := (by omega)
                     have av : 1 < (a.length : Int) := dq_
                     obtain ⟨bf, bP, c476_0, bo, u, ab, ac⟩ := at_L5 G.out 1 p476 av
                     obtain rfl : q = bf := (by injection bo)
                     (try simp only [show (1 : Int).toNat = 1 from rfl, Nat.reduceMul, Nat.reduceEqDiff, Go.Addr.add, ↓reduceIte] at u)
                     have cb : (1 < a.length) = True := et_ (by omega)
                     (try rw [show ((1 : Int)).toNat = 1 from rfl] at u)
                     replace u := (HB.out.cell (wl_ w _ u)).trans u
                     have aL := a_ ac
                     have bC := a_ ab
                     clear ac ab
                     replace p476 := et_ p476
                     replace av := et_ av
                     have ea_ := si_ (c.symm.trans u)
                     injection ea_ with ea_ en_ ec_
                     subst ea_
                     subst ec_
                     clear en_
                     have p477 : 0 ≤ (b : Int) := dq_
                     have aw : b < ((rd_L5 a 1).length : Int) := dq_
                     obtain ⟨cc, bp, U⟩ := ai_ aL.out b p477 aw
                     cases bp
                     replace U := (HB.out.cell (wl_ w _ U)).trans U
                     replace p477 := et_ p477
                     replace aw := et_ aw
                     go_wp2
                     go_roundg k2
                     case measure => have := an.out; have := ao.out; omega
                     case rel => exact ⟨(x), (r), (aI), (wrap64 (b + 1)), eq_, eq_, H', ⟨by have := an.out; have := ao.out; omega⟩, ⟨by refine vR_ ?_; exact HO_4.out⟩, ⟨by refine vR_ ?_; exact HO_5.out⟩, ⟨bel_⟩⟩
                   ·
                    rw [ig_ c30] at H
                    exact absurd H (by simp)
                 ·
                  rw [ig_ c18] at H
                  exact absurd H (by simp)
                ·
                 rw [ig_ c17] at H
                 exact absurd H (by simp)
               ·
                rw [ig_ c16] at H
                exact absurd H (by simp)
              ·
               rw [ig_ c15] at H
               have c15b0 : decide (b < ((rd_L5 a 1).length : Int)) = false := df_ c15
               clear c15
               have H' := a_ H
               clear H
               have p469 : 0 ≤ (1 : Int) := (by omega)
               have A : 1 < (a.length : Int) := dq_
               obtain ⟨W, aC, c469_0, ae, c, o, B⟩ := at_L5 G.out 1 p469 A
               obtain rfl : q = W := (by injection ae)
               (try simp only [show (1 : Int).toNat = 1 from rfl, Nat.reduceMul, Nat.reduceEqDiff, Go.Addr.add, ↓reduceIte] at c)
               have aR : (1 < a.length) = True := et_ (by omega)
               (try rw [show ((1 : Int)).toNat = 1 from rfl] at c)
               replace c := (HB.out.cell (wl_ w _ c)).trans c
               have am := a_ o
               clear B o
               replace p469 := et_ p469
               replace A := et_ A
               go_wp2
               go_roundg k2
               case measure => have := an.out; have := ao.out; omega
               case rel => exact ⟨(x), (r), (aI), (wrap64 (d + 1)), eq_, eq_, H', ⟨by have := an.out; have := ao.out; omega⟩, ⟨by refine vR_ ?_; exact HO_4.out⟩, ⟨by refine vR_ ?_; exact HO_5.out⟩, ⟨bel_⟩⟩
             ·
              rw [ig_ c14] at H
              exact absurd H (by simp)
          ·
           rw [ig_ c13] at H
           have c13b0 : decide (d < ((rd_L5 a 0).length : Int)) = false := df_ c13
           clear c13
           by_cases c40 : aV = true
           ·
            subst c40
            rw [ip_ rfl] at H
            replace H := bs_.mp H
            obtain ⟨aM, bW, H⟩ := H
            try dsimp only at H
            have cF := a_ bW
            clear bW
            by_cases c42 : 1 < (a.length : Int)
            ·
             rw [ip_ c42] at H
             have c42b0 : decide (1 < (a.length : Int)) = true := dt_ c42
             have c42b1 : decide (1 < a.length) = true := dt_ (by omega)
             clear c42
             replace H := bs_.mp H
             obtain ⟨aN, bX, H⟩ := H
             try dsimp only at H
             have cG := a_ bX
             clear bX
             obtain ⟨cm, aF⟩ : ∃ y_ : List (List Int), y_ = (([aM, aN] : List (List Int))) := ⟨_, rfl⟩
             replace H : (some (cm, true)) = some (r1, r2) := by first | (rw [aF]; with_reducible exact H) | (have H2_ := (ob_ _ _).symm.trans H; rw [aF]; with_reducible exact H2_) | (have H2_ := (ob_ _ _).symm.trans H; with_reducible exact H2_) | with_reducible exact H | (rw [aF]; exact H) | exact H
             have bx := a_ aF
             clear aF
             simp only [Option.some.injEq, Prod.mk.injEq] at H
             obtain ⟨rfl, rfl⟩ := H
             have p468 : 0 ≤ (0 : Int) := (by omega)
             have V : 0 < (a.length : Int) := dq_
             obtain ⟨az, aW, c468_0, aX, m, I, Y⟩ := at_L5 G.out 0 p468 V
             obtain rfl : q = az := (by injection aX)
             have bw : (0 < a.length) = True := et_ (by omega)
             (try rw [show ((0 : Int)).toNat = 0 from rfl] at m)
             (try rw [Addr.add_zero'] at m)
             replace m := (HB.out.cell (wl_ w _ m)).trans m
             have a2 := a_ I
             clear Y I
             replace p468 := et_ p468
             replace V := et_ V
             have p480 : 0 ≤ (0 : Int) := (by omega)
             have br : 0 < (a.length : Int) := dq_
             obtain ⟨cd, cH, c480_0, cn, X, a3, a4⟩ := at_L5 G.out 0 p480 br
             obtain rfl : q = cd := (by injection cn)
             have cM : (0 < a.length) = True := et_ (by omega)
             (try rw [show ((0 : Int)).toNat = 0 from rfl] at X)
             (try rw [Addr.add_zero'] at X)
             replace X := (HB.out.cell (wl_ w _ X)).trans X
             have bD := a_ a4
             have bE := a_ a3
             clear a4 a3
             replace p480 := et_ p480
             replace br := et_ br
             have ea_ := si_ (m.symm.trans X)
             injection ea_ with ea_ en_ ec_
             subst ea_
             subst ec_
             clear en_
             obtain ⟨ah, ai, co⟩ := Kd.R_slice HO_4.out
             subst co
             go_wp2_with (first | ((with_reducible refine gate_callee (f := 77) rfl ?_); refine goesL_ (some 68) rfl rfl Tryz.func77 (by kernel_rfl) rfl #[.slice aW (rd_L5 a 0).length c468_0, .slice ah K.length ai] rfl ar_ ?_; (with_reducible refine (jigsawref11_Those.calls k1 _ _ (rd_L5 a 0) _ _ K aM _ ?_ ?_ ?_ ?_ cF.out).mono ?_); exact ca_ ((cb_ bD.out HB.out)); exact bE.out; exact ca_ ((rr_ HO_4.out).2.2); exact (rr_ HO_4.out).2.1; rintro e w45 ⟨cQ, rfl, a5, hb⟩; refine ⟨_, rfl, ?_⟩; replace HO_4 := a_ (rb_ (vR_ HO_4.out) hb); replace HO_5 := a_ (rb_ (vR_ HO_5.out) hb); have ag := a_ (Kd.R_lower (Kd.R_newM (M := fun g => (w.heap.size ≤ g)) a5 (bz_ bel_) (fun g h_ => h_)) (bz_ bel_)); replace HB := a_ (bp_ bel_ hb); clear hb a5; have p484 : 0 ≤ (1 : Int) := (by omega); have bs : 1 < (a.length : Int) := dq_; obtain ⟨ce, bY, c484_0, cp, ad, a6, a7⟩ := at_L5 G.out 1 p484 bs; obtain rfl : q = ce := (by injection cp); (try simp only [show (1 : Int).toNat = 1 from rfl, Nat.reduceMul, Nat.reduceEqDiff, Go.Addr.add, ↓reduceIte] at ad); have cN : (1 < a.length) = True := et_ (by omega); (try rw [show ((1 : Int)).toNat = 1 from rfl] at ad); replace ad := (HB.out.cell (wl_ w _ ad)).trans ad; have bF := a_ a7; have bG := a_ a6; clear a7 a6; replace p484 := et_ p484; replace bs := et_ bs; obtain ⟨aj, ak, cq⟩ := Kd.R_slice HO_5.out; subst cq) | ((with_reducible refine gate_callee (f := 77) rfl ?_); refine goesL_ (some 73) rfl rfl Tryz.func77 (by kernel_rfl) rfl #[.slice bY (rd_L5 a 1).length c484_0, .slice aj O.length ak] rfl ar_ ?_; (with_reducible refine (jigsawref11_Those.calls k1 _ _ (rd_L5 a 1) _ _ O aN _ ?_ ?_ ?_ ?_ cG.out).mono ?_); exact ca_ ((cb_ bF.out HB.out)); exact bG.out; exact ca_ ((rr_ HO_5.out).2.2); exact (rr_ HO_5.out).2.1; rintro e w47 ⟨cR, rfl, a5, hb⟩; refine ⟨_, rfl, ?_⟩; replace HO_4 := a_ (rb_ (vR_ HO_4.out) hb); replace HO_5 := a_ (rb_ (vR_ HO_5.out) hb); have aS := a_ (Kd.R_lower (Kd.R_new' (Kd.R_newM (M := fun g => (w.heap.size ≤ g)) a5 (bz_ bel_) (fun g h_ => h_)) (rl_ (vR_ ag.out))) (bz_ bel_)); replace ag := a_ (Kd.R_elder' (vR_ ag.out) (rs_ a5) hb); replace HB := a_ (bp_ bel_ hb); clear hb a5; obtain ⟨bZ, b0, cr⟩ := Kd.R_slice ag.out; subst cr; obtain ⟨b1, b2, cs⟩ := Kd.R_slice aS.out; subst cs) | ((with_reducible refine gate_dst (N := 76) rfl ?_); refine Kd.N_lit (Kd.slice 3 (Kd.int .i64)) _ 30 ?hg (N' := 76) ?hd (xs := ([aM, aN] : List (List Int))) (inner := [.slice bZ aM.length b0, .slice b1 aN.length b2]) (ok := (fun g => (w.heap.size ≤ g) ∧ some g ≠ (.slice ah K.length ai : Value).ownBlock ∧ some g ≠ (.slice aj O.length ak : Value).ownBlock)) (okp := (fun g => (w.heap.size ≤ g) ∧ some g ≠ (.slice ah K.length ai : Value).ownBlock ∧ some g ≠ (.slice aj O.length ak : Value).ownBlock)) ?hr ?hp (fun _ hk => hk) ((show ∀ g, w47.heap.size ≤ g → (fun g => (w.heap.size ≤ g) ∧ some g ≠ (.slice ah K.length ai : Value).ownBlock ∧ some g ≠ (.slice aj O.length ak : Value).ownBlock) g from fun g hk => ⟨(Nat.le_trans (bz_ bel_) hk), fr_ (rl_ (vR_ HO_4.out)) g hk, fr_ (rl_ (vR_ HO_5.out)) g hk⟩) _ (lr_ _)) (Below.refl _ _) (lr_ _) (by simp) ?_; (case hd => rfl); (case hg => rfl); (case hr => first | (go_simp; done) | (go_simp; rfl)); (case hp => exact (Reps.one (show Kd.FK (Kd.slice 3 (Kd.int .i64)) _ _ aM [.slice bZ aM.length b0] from (Kd.FK_slice_mk (rr_ (rm_ (ok' := (fun g => (w.heap.size ≤ g) ∧ some g ≠ (.slice ah K.length ai : Value).ownBlock ∧ some g ≠ (.slice aj O.length ak : Value).ownBlock)) (Kd.R_apart' (Kd.R_apart' (ag.out) (Kd.R_typed HO_4.out) (by decide)) (Kd.R_typed HO_5.out) (by decide)) (fun g hk => ⟨hk.1.1.1.1, ⟨hk.1.2, hk.2⟩⟩))).2.1 (Kd.R_F (rm_ (ok' := (fun g => (w.heap.size ≤ g) ∧ some g ≠ (.slice ah K.length ai : Value).ownBlock ∧ some g ≠ (.slice aj O.length ak : Value).ownBlock)) (Kd.R_apart' (Kd.R_apart' (ag.out) (Kd.R_typed HO_4.out) (by decide)) (Kd.R_typed HO_5.out) (by decide)) (fun g hk => ⟨hk.1.1.1.1, ⟨hk.1.2, hk.2⟩⟩))))) (Reps.one (show Kd.FK (Kd.slice 3 (Kd.int .i64)) _ _ aN [.slice b1 aN.length b2] from (Kd.FK_slice_mk (rr_ (rm_ (ok' := (fun g => (w.heap.size ≤ g) ∧ some g ≠ (.slice ah K.length ai : Value).ownBlock ∧ some g ≠ (.slice aj O.length ak : Value).ownBlock)) (Kd.R_apart' (Kd.R_apart' (aS.out) (Kd.R_typed HO_4.out) (by decide)) (Kd.R_typed HO_5.out) (by decide)) (fun g hk => ⟨hk.1.1.1.1, ⟨hk.1.2, hk.2⟩⟩))).2.1 (Kd.R_F (rm_ (ok' := (fun g => (w.heap.size ≤ g) ∧ some g ≠ (.slice ah K.length ai : Value).ownBlock ∧ some g ≠ (.slice aj O.length ak : Value).ownBlock)) (Kd.R_apart' (Kd.R_apart' (aS.out) (Kd.R_typed HO_4.out) (by decide)) (Kd.R_typed HO_5.out) (by decide)) (fun g hk => ⟨hk.1.1.1.1, ⟨hk.1.2, hk.2⟩⟩))))) (Reps.none _ _)))); intro cS w50 aZ hb hg_ hnew_; clear hg_ hnew_; (first | rw [← bx.out] at aZ | (simp only [Int.reduceToNat] at aZ; rw [← bx.out] at aZ)); have cf := a_ (Kd.N_lower aZ (bz_ bel_)); replace HB := a_ (bp_ bel_ hb); clear ag aS; clear hb aZ))
             go_ret2
             exact ⟨_, by first | rfl | (simp [errW_none, errW_some] <;> rfl) | (simp [*, errW_none, errW_some] <;> rfl), by refine vN_ ?_; exact nm_ cf.out (fun _ hk => hk.1), bel_⟩
            ·
             rw [ig_ c42] at H
             exact absurd H (by simp)
           ·
            replace c40 := bf_.mpr c40
            subst c40
            have H1 : (some (([] : List (List Int)), false)) = some (r1, r2) := by rw [ig_ (show ¬ (false = true) by decide)] at H; exact H
            clear H
            have H := H1
            clear H1
            simp only [Option.some.injEq, Prod.mk.injEq] at H
            obtain ⟨rfl, rfl⟩ := H
            have p468 : 0 ≤ (0 : Int) := (by omega)
            have V : 0 < (a.length : Int) := dq_
            obtain ⟨az, aW, c468_0, aX, m, I, Y⟩ := at_L5 G.out 0 p468 V
            obtain rfl : q = az := (by injection aX)
            have bw : (0 < a.length) = True := et_ (by omega)
            (try rw [show ((0 : Int)).toNat = 0 from rfl] at m)
            (try rw [Addr.add_zero'] at m)
            replace m := (HB.out.cell (wl_ w _ m)).trans m
            have a2 := a_ I
            clear Y I
            replace p468 := et_ p468
            replace V := et_ V
            go_wp2
            go_ret2
            exact ⟨_, by first | rfl | (simp [errW_none, errW_some] <;> rfl) | (simp [*, errW_none, errW_some] <;> rfl), by first | exact Kd.S_nil _ _ _ _ _ | exact Kd.N_nil _ _ _ _ _ | exact Kd.V_nil _ _ _ _ _ | exact Kd.Q_nil _ _ _ _ _ | exact Kd.R_nil _ _ _ _ _, bel_⟩
         ·
          rw [ig_ c12] at H
          exact absurd H (by simp)
      ·
       rw [ig_ c7] at H
       exact absurd H (by simp)
     ·
      rw [ig_ c6] at H
      exact absurd H (by simp)
    ·
     rw [ig_ c5] at H
     exact absurd H (by simp)
   ·
    rw [ig_ c4] at H
    exact absurd H (by simp)
  ·
   rw [ig_ c3] at H
   exact absurd H (by simp)
 ·
  rw [ig_ c2] at H
  exact absurd H (by simp)

/-! ### jigsawref11_value: function 78 -/
def jigsawref11_value.f (a : Int) (b : Int) (c : Int) : Option (Int × Bool) := if a = 5 then (none) else (if a = 6 then (none) else (if a = 7 then (none) else (if a = 9 then (if b < c then (some (b, true)) else (some (c, true))) else (if b > c then (some (b, true)) else (some (c, true))))))
set_option maxHeartbeats 8000000 in
set_option maxRecDepth 100000 in
theorem jigsawref11_value.calls (a : Int) (b : Int) (c : Int) (d : Int) (g : Bool) (w : World) (h : jigsawref11_value.f a b c = some (d, g)) :
  Calls Tryz.prog 78 #[.int .i64 a, .int .i64 b, .int .i64 c] w fun e w' => e = .returned (.tuple #[.int .i64 d, .bool g]) ∧ Drawn0 w w' := by
 unfold jigsawref11_value.f at h
 have H := h
 clear h
 by_cases c4 : a = 5
 ·
  rw [ip_ c4] at H
  exact absurd H (by simp)
 ·
  rw [ig_ c4] at H
  have c4b0 : (a == 5) = false := be_.mpr c4
  have c4b1 : (a != 5) = true := ni_.mpr c4
  by_cases c5 : a = 6
  ·
   rw [ip_ c5] at H
   exact absurd H (by simp)
  ·
   rw [ig_ c5] at H
   have c5b0 : (a == 6) = false := be_.mpr c5
   have c5b1 : (a != 6) = true := ni_.mpr c5
   by_cases c6 : a = 7
   ·
    rw [ip_ c6] at H
    exact absurd H (by simp)
   ·
    rw [ig_ c6] at H
    have c6b0 : (a == 7) = false := be_.mpr c6
    have c6b1 : (a != 7) = true := ni_.mpr c6
    by_cases c7 : a = 9
    ·
     rw [ip_ c7] at H
     have c7b0 : (a == 9) = true := beq_iff_eq.mpr c7
     have c7b1 : (a != 9) = false := bn_.mpr c7
     clear c7
     by_cases c8 : b < c
     ·
      rw [ip_ c8] at H
      have c8b0 : decide (b < c) = true := dt_ c8
      clear c8
      simp only [Option.some.injEq, Prod.mk.injEq] at H
      obtain ⟨rfl, rfl⟩ := H
      go_enter Tryz.func78, Tryz.ntmps78
      go_wp2
      go_ret2
      exact ⟨by first | rfl | (simp; done) | (simp [*]; done), by repeat (first | exact d0_ _ | apply Drawn0.step)⟩
     ·
      rw [ig_ c8] at H
      have c8b0 : decide (b < c) = false := df_ c8
      clear c8
      simp only [Option.some.injEq, Prod.mk.injEq] at H
      obtain ⟨rfl, rfl⟩ := H
      go_enter Tryz.func78, Tryz.ntmps78
      go_wp2
      go_ret2
      exact ⟨by first | rfl | (simp; done) | (simp [*]; done), by repeat (first | exact d0_ _ | apply Drawn0.step)⟩
    ·
     rw [ig_ c7] at H
     have c7b0 : (a == 9) = false := be_.mpr c7
     have c7b1 : (a != 9) = true := ni_.mpr c7
     by_cases c9 : b > c
     ·
      rw [ip_ c9] at H
      have c9b0 : decide (c < b) = true := dt_ c9
      clear c9
      simp only [Option.some.injEq, Prod.mk.injEq] at H
      obtain ⟨rfl, rfl⟩ := H
      go_enter Tryz.func78, Tryz.ntmps78
      go_wp2
      go_ret2
      exact ⟨by first | rfl | (simp; done) | (simp [*]; done), by repeat (first | exact d0_ _ | apply Drawn0.step)⟩
     ·
      rw [ig_ c9] at H
      have c9b0 : decide (c < b) = false := df_ c9
      clear c9
      simp only [Option.some.injEq, Prod.mk.injEq] at H
      obtain ⟨rfl, rfl⟩ := H
      go_enter Tryz.func78, Tryz.ntmps78
      go_wp2
      go_ret2
      exact ⟨by first | rfl | (simp; done) | (simp [*]; done), by repeat (first | exact d0_ _ | apply Drawn0.step)⟩

end Go.Proofs.YtiofjnhmogeenaaGreatDoor.XExtFilters
