-- by xprint.py, a program of this session, over the kit's print
import Derived.Test.YtbhhbgoamomacaaGreatDoorXMFix0
import Derived.Test.YtbhhbgoamomacaaGreatDoorXMFix18
import Derived.Test.YtbhhbgoamomacaaGreatDoorSq
namespace Go.Proofs.YtbhhbgoamomacaaGreatDoor.XMulFilters
open Go.RowKit Go.Proofs.YtbhhbgoamomacaaGreatDoor.Sq Go.Proofs.YtbhhbgoamomacaaGreatDoorW.PrintWords Go.Proofs.YtbhhbgoamomacaaGreatDoorW.PrintLast Go.Proofs.YtbhhbgoamomacaaGreatDoorW.PrintMore
attribute [local go_sem] max2_int min2_int max_two min_two max_three min_three max_four min_four   -- for this text's walks alone
set_option linter.unusedVariables false
set_option linter.unusedSimpArgs false

/-! ### jigsawref11_Pairs: function 35 -/
mutual
def jigsawref11_Pairs.l0 : Nat → Int → List (List Int) → List Bool → List Bool → List Bool → Bool → Int → Option ((List (List Int)) × Bool)
 | 0, _, _, _, _, _, _, _ => none
 | k + 1, o, a, g, l, m, n, b => if 0 < (a.length : Int) then (if b < ((rd_L7 a 0).length : Int) then (jigsawref11_Pairs.l1 k o a g l m n b 0) else (if n = true then ((jigsawref11_Those.f k (rd_L7 a 0) g).bind fun c => (if 1 < (a.length : Int) then ((jigsawref11_Those.f k (rd_L7 a 1) l).bind fun d => (if 2 < (a.length : Int) then ((jigsawref11_Those.f k (rd_L7 a 2) m).bind fun e => (some ((([c, d, e] : List (List Int))), true))) else (none))) else (none))) else (some (([] : List (List Int)), false)))) else (none)
def jigsawref11_Pairs.l1 : Nat → Int → List (List Int) → List Bool → List Bool → List Bool → Bool → Int → Int → Option ((List (List Int)) × Bool)
 | 0, _, _, _, _, _, _, _, _ => none
 | k + 1, e, a, g, l, m, n, b, c => if 1 < (a.length : Int) then (if c < ((rd_L7 a 1).length : Int) then (if 0 < (a.length : Int) then (if 0 ≤ b then (if b < ((rd_L7 a 0).length : Int) then (if 0 ≤ c then ((jigsawref11_value.f k e (rd (rd_L7 a 0) b) (rd (rd_L7 a 1) c)).bind fun d => (jigsawref11_Pairs.l2 k e a g l m n b c d.1 d.2 0)) else (none)) else (none)) else (none)) else (none)) else (jigsawref11_Pairs.l0 k e a g l m n (wrap64 (b + 1)))) else (none)
def jigsawref11_Pairs.l2 : Nat → Int → List (List Int) → List Bool → List Bool → List Bool → Bool → Int → Int → Int → Bool → Int → Option ((List (List Int)) × Bool)
 | 0, _, _, _, _, _, _, _, _, _, _, _ => none
 | k + 1, g, c, l, m, n, o, d, e, f, a, b => if 2 < (c.length : Int) then (if b < ((rd_L7 c 2).length : Int) then (jigsawref11_Pairs.j3 k g c l m n o d e f a b a) else (jigsawref11_Pairs.j3 k g c l m n o d e f a b false)) else (none)
def jigsawref11_Pairs.j3 : Nat → Int → List (List Int) → List Bool → List Bool → List Bool → Bool → Int → Int → Int → Bool → Int → Bool → Option ((List (List Int)) × Bool)
 | 0, _, _, _, _, _, _, _, _, _, _, _, _ => none
 | k + 1, n, d, f, g, l, o, b, c, e, m, a, p => if p = true then (if 2 < (d.length : Int) then (if 0 ≤ a then (if a < ((rd_L7 d 2).length : Int) then (if (rd (rd_L7 d 2) a) = e then (if 0 ≤ b then (if b < (f.length : Int) then (if 0 ≤ c then (if c < (g.length : Int) then (if a < (l.length : Int) then (jigsawref11_Pairs.l2 k n d (f.set (b : Int).toNat true) (g.set (c : Int).toNat true) (l.set (a : Int).toNat true) true b c e m (wrap64 (a + 1))) else (none)) else (none)) else (none)) else (none)) else (none)) else (jigsawref11_Pairs.l2 k n d f g l o b c e m (wrap64 (a + 1)))) else (none)) else (none)) else (none)) else (jigsawref11_Pairs.l1 k n d f g l o b (wrap64 (c + 1)))
end
def jigsawref11_Pairs.f (k : Nat) (b : Int) (a : List (List Int)) : Option ((List (List Int)) × Bool) := if 0 < (a.length : Int) then (if 0 ≤ ((rd_L7 a 0).length : Int) then (if (((rd_L7 a 0).length : Int) : Int).toNat ≤ 281474976710656 then (if 1 < (a.length : Int) then (if 0 ≤ ((rd_L7 a 1).length : Int) then (if (((rd_L7 a 1).length : Int) : Int).toNat ≤ 281474976710656 then (if 2 < (a.length : Int) then (if 0 ≤ ((rd_L7 a 2).length : Int) then (if (((rd_L7 a 2).length : Int) : Int).toNat ≤ 281474976710656 then (jigsawref11_Pairs.l0 k b a (List.replicate (((rd_L7 a 0).length : Int) : Int).toNat false) (List.replicate (((rd_L7 a 1).length : Int) : Int).toNat false) (List.replicate (((rd_L7 a 2).length : Int) : Int).toNat false) false 0) else (none)) else (none)) else (none)) else (none)) else (none)) else (none)) else (none)) else (none)) else (none)
theorem jigsawref11_Pairs.mono_l : ∀ k, (∀ a b c d e f g, LeO (jigsawref11_Pairs.l0 k a b c d e f g) (jigsawref11_Pairs.l0 (k + 1) a b c d e f g)) ∧ (∀ a b c d e f g l, LeO (jigsawref11_Pairs.l1 k a b c d e f g l) (jigsawref11_Pairs.l1 (k + 1) a b c d e f g l)) ∧ (∀ a b c d e f g l n o m, LeO (jigsawref11_Pairs.l2 k a b c d e f g l n o m) (jigsawref11_Pairs.l2 (k + 1) a b c d e f g l n o m)) ∧ (∀ a b c d e f g l n o m p, LeO (jigsawref11_Pairs.j3 k a b c d e f g l n o m p) (jigsawref11_Pairs.j3 (k + 1) a b c d e f g l n o m p))
 | 0 => ⟨fun _ _ _ _ _ _ _ r h => by simp [jigsawref11_Pairs.l0] at h, fun _ _ _ _ _ _ _ _ r h => by simp [jigsawref11_Pairs.l1] at h, fun _ _ _ _ _ _ _ _ _ _ _ r h => by simp [jigsawref11_Pairs.l2] at h, fun _ _ _ _ _ _ _ _ _ _ _ _ r h => by simp [jigsawref11_Pairs.j3] at h⟩
 | k + 1 => by
  obtain ⟨ih0, ih1, ih2, ih3⟩ := jigsawref11_Pairs.mono_l k
  refine ⟨?_, ?_, ?_, ?_⟩
  ·
   intro a b c d e f g
   unfold jigsawref11_Pairs.l0
   have m0 := @jigsawref11_Those.mono
   have m1 := @jigsawref11_value.mono
   exact leo_
  ·
   intro a b c d e f g l
   unfold jigsawref11_Pairs.l1
   have m0 := @jigsawref11_Those.mono
   have m1 := @jigsawref11_value.mono
   exact leo_
  ·
   intro a b c d e f g l n o m
   unfold jigsawref11_Pairs.l2
   have m0 := @jigsawref11_Those.mono
   have m1 := @jigsawref11_value.mono
   exact leo_
  ·
   intro a b c d e f g l n o m p
   unfold jigsawref11_Pairs.j3
   have m0 := @jigsawref11_Those.mono
   have m1 := @jigsawref11_value.mono
   exact leo_
theorem jigsawref11_Pairs.mono : ∀ a b k, LeO (jigsawref11_Pairs.f k a b) (jigsawref11_Pairs.f (k + 1) a b) := by
 intro a b k
 obtain ⟨ih0, ih1, ih2, ih3⟩ := jigsawref11_Pairs.mono_l k
 unfold jigsawref11_Pairs.f
 have m0 := @jigsawref11_Those.mono
 have m1 := @jigsawref11_value.mono
 exact leo_
set_option maxHeartbeats 8000000 in
set_option maxRecDepth 100000 in
theorem jigsawref11_Pairs.calls (k : Nat) (a0 : Int) (A1 : Option Addr) (c1 : Nat) (b : List (List Int)) (r1 : List (List Int)) (r2 : Bool) (w : World) (dq : Kd.C (Kd.slice 3 (Kd.int .i64)) w A1 b.length b) (dr : b.length ≤ c1) (h : jigsawref11_Pairs.f k a0 b = some (r1, r2)) :
  Calls Tryz.prog 35 #[.int .i64 a0, .slice A1 b.length c1] w fun e w' => ∃ ds : Value, e = .returned (.tuple #[ds, .bool r2]) ∧ Kd.N (Kd.slice 3 (Kd.int .i64)) 30 w' w.heap.size (fun a => (w.heap.size ≤ a)) ds r1 ∧ Below w.heap.size w w' := by
 have ad := a_ dq
 have dU := a_ dr
 clear dq dr
 have HB := a_ (Below.refl w.heap.size w)
 unfold jigsawref11_Pairs.f at h
 have H := h
 clear h
 by_cases c3 : 0 < (b.length : Int)
 ·
  rw [ip_ c3] at H
  have c3b0 : decide (0 < (b.length : Int)) = true := dt_ c3
  have c3b1 : decide (0 < b.length) = true := dt_ (by omega)
  clear c3
  by_cases c4 : 0 ≤ ((rd_L7 b 0).length : Int)
  ·
   rw [ip_ c4] at H
   have c4b0 := et_ c4
   have c4b1 : decide (0 ≤ ((rd_L7 b 0).length : Int)) = true := dt_ c4
   clear c4
   by_cases c5 : (((rd_L7 b 0).length : Int) : Int).toNat ≤ 281474976710656
   ·
    rw [ip_ c5] at H
    have c5b0 := et_ c5
    have c5b1 : decide ((((rd_L7 b 0).length : Int) : Int).toNat ≤ 281474976710656) = true := dt_ c5
    clear c5
    obtain ⟨ch, bo⟩ : ∃ y_ : List Bool, y_ = (List.replicate (((rd_L7 b 0).length : Int) : Int).toNat false) := ⟨_, rfl⟩
    replace H : (if 1 < (b.length : Int) then (if 0 ≤ ((rd_L7 b 1).length : Int) then (if (((rd_L7 b 1).length : Int) : Int).toNat ≤ 281474976710656 then (if 2 < (b.length : Int) then (if 0 ≤ ((rd_L7 b 2).length : Int) then (if (((rd_L7 b 2).length : Int) : Int).toNat ≤ 281474976710656 then (jigsawref11_Pairs.l0 k a0 b ch (List.replicate (((rd_L7 b 1).length : Int) : Int).toNat false) (List.replicate (((rd_L7 b 2).length : Int) : Int).toNat false) false 0) else (none)) else (none)) else (none)) else (none)) else (none)) else (none)) = some (r1, r2) := by first | (rw [bo]; with_reducible exact H) | (have H2_ := (ob_ _ _).symm.trans H; rw [bo]; with_reducible exact H2_) | (have H2_ := (ob_ _ _).symm.trans H; with_reducible exact H2_) | with_reducible exact H | (rw [bo]; exact H) | exact H
    have ba := a_ bo
    clear bo
    by_cases c6 : 1 < (b.length : Int)
    ·
     rw [ip_ c6] at H
     have c6b0 : decide (1 < (b.length : Int)) = true := dt_ c6
     have c6b1 : decide (1 < b.length) = true := dt_ (by omega)
     clear c6
     by_cases c7 : 0 ≤ ((rd_L7 b 1).length : Int)
     ·
      rw [ip_ c7] at H
      have c7b0 := et_ c7
      have c7b1 : decide (0 ≤ ((rd_L7 b 1).length : Int)) = true := dt_ c7
      clear c7
      by_cases c8 : (((rd_L7 b 1).length : Int) : Int).toNat ≤ 281474976710656
      ·
       rw [ip_ c8] at H
       have c8b0 := et_ c8
       have c8b1 : decide ((((rd_L7 b 1).length : Int) : Int).toNat ≤ 281474976710656) = true := dt_ c8
       clear c8
       obtain ⟨cx, bp⟩ : ∃ y_ : List Bool, y_ = (List.replicate (((rd_L7 b 1).length : Int) : Int).toNat false) := ⟨_, rfl⟩
       replace H : (if 2 < (b.length : Int) then (if 0 ≤ ((rd_L7 b 2).length : Int) then (if (((rd_L7 b 2).length : Int) : Int).toNat ≤ 281474976710656 then (jigsawref11_Pairs.l0 k a0 b ch cx (List.replicate (((rd_L7 b 2).length : Int) : Int).toNat false) false 0) else (none)) else (none)) else (none)) = some (r1, r2) := by first | (rw [bp]; with_reducible exact H) | (have H2_ := (ob_ _ _).symm.trans H; rw [bp]; with_reducible exact H2_) | (have H2_ := (ob_ _ _).symm.trans H; with_reducible exact H2_) | with_reducible exact H | (rw [bp]; exact H) | exact H
       have bb := a_ bp
       clear bp
       by_cases c9 : 2 < (b.length : Int)
       ·
        rw [ip_ c9] at H
        have c9b0 : decide (2 < (b.length : Int)) = true := dt_ c9
        have c9b1 : decide (2 < b.length) = true := dt_ (by omega)
        clear c9
        by_cases c10 : 0 ≤ ((rd_L7 b 2).length : Int)
        ·
         rw [ip_ c10] at H
         have c10b0 := et_ c10
         have c10b1 : decide (0 ≤ ((rd_L7 b 2).length : Int)) = true := dt_ c10
         clear c10
         by_cases c11 : (((rd_L7 b 2).length : Int) : Int).toNat ≤ 281474976710656
         ·
          rw [ip_ c11] at H
          have c11b0 := et_ c11
          have c11b1 : decide ((((rd_L7 b 2).length : Int) : Int).toNat ≤ 281474976710656) = true := dt_ c11
          clear c11
          obtain ⟨cQ, bq⟩ : ∃ y_ : List Bool, y_ = (List.replicate (((rd_L7 b 2).length : Int) : Int).toNat false) := ⟨_, rfl⟩
          replace H : (jigsawref11_Pairs.l0 k a0 b ch cx cQ false 0) = some (r1, r2) := by first | (rw [bq]; with_reducible exact H) | (have H2_ := (ob_ _ _).symm.trans H; rw [bq]; with_reducible exact H2_) | (have H2_ := (ob_ _ _).symm.trans H; with_reducible exact H2_) | with_reducible exact H | (rw [bq]; exact H) | exact H
          have bc := a_ bq
          clear bq
          have H' := a_ H
          clear H
          have p453 : 0 ≤ (0 : Int) := (by omega)
          have bj : 0 < (b.length : Int) := dq_
          obtain ⟨F, dF, c453_0, dt, aD, b7, cJ⟩ := at_L7 ad.out 0 p453 bj
          cases dt
          have dO : (0 < b.length) = True := et_ (by omega)
          (try rw [show ((0 : Int)).toNat = 0 from rfl] at aD)
          (try rw [Addr.add_zero'] at aD)
          have dB := a_ b7
          clear cJ b7
          replace p453 := et_ p453
          replace bj := et_ bj
          go_enter Tryz.func35, Tryz.ntmps35
          go_wp2_with (first | ((with_reducible refine gate_dst (N := 22) rfl ?_); refine Kd.R_make Kd.bool _ 4 rfl (N := 22) rfl 110 _ _ rfl ((rd_L7 b 0).length : Int) rfl rfl Tryz.underlying110 (.bool false) 1 info4 rfl (by decide) (by omega) false (ok := fun _ => True) (okp := fun _ => True) rfl (fun _ hk => hk) trivial (dq_) (Nat.le_trans (Nat.mul_le_mul_right _ (dq_ : ((rd_L7 b 0).length : Int).toNat ≤ 281474976710656)) (by omega)) (Below.refl _ _) (lr_ _) ?_; intro ay w12 af hb hg_ hnew_; clear hg_ hnew_; (first | rw [← ba.out] at af | (simp only [Int.reduceToNat] at af; rw [← ba.out] at af)); have V := a_ (Kd.R_lower (Kd.R_newM (M := fun a => (w.heap.size ≤ a)) af (bz_ bel_) (fun a h_ => h_)) (bz_ bel_)); replace HB := hq_ hb; clear hb af; have p457 : 0 ≤ (1 : Int) := (by omega); have am : 1 < (b.length : Int) := dq_; obtain ⟨br, cq, c457_0, bN, q, ao, aH⟩ := at_L7 ad.out 1 p457 am; obtain rfl : F = br := (by injection bN); (try simp only [show (1 : Int).toNat = 1 from rfl, Nat.reduceMul, Nat.reduceEqDiff, Go.Addr.add, ↓reduceIte] at q); have cE : (1 < b.length) = True := et_ (by omega); (try rw [show ((1 : Int)).toNat = 1 from rfl] at q); replace q := (HB.out.cell (wl_ w _ q)).trans q; have b8 := a_ ao; clear aH ao; replace p457 := et_ p457; replace am := et_ am) | ((with_reducible refine gate_dst (N := 27) rfl ?_); refine Kd.R_make Kd.bool _ 4 rfl (N := 27) rfl 110 _ _ rfl ((rd_L7 b 1).length : Int) rfl rfl Tryz.underlying110 (.bool false) 1 info4 rfl (by decide) (by omega) false (ok := fun _ => True) (okp := fun _ => True) rfl (fun _ hk => hk) trivial (dq_) (Nat.le_trans (Nat.mul_le_mul_right _ (dq_ : ((rd_L7 b 1).length : Int).toNat ≤ 281474976710656)) (by omega)) (Below.refl _ _) (lr_ _) ?_; intro aa w14 ab hb hg_ hnew_; clear hg_ hnew_; (first | rw [← bb.out] at ab | (simp only [Int.reduceToNat] at ab; rw [← bb.out] at ab)); have al := a_ (Kd.R_lower (Kd.R_new' (Kd.R_newM (M := fun a => (w.heap.size ≤ a)) ab (bz_ bel_) (fun a h_ => h_)) (rl_ (vR_ V.out))) (bz_ bel_)); replace V := a_ (Kd.R_elder' (vR_ V.out) (rs_ ab) hb); replace HB := hq_ hb; clear hb ab; have p461 : 0 ≤ (2 : Int) := (by omega); have an : 2 < (b.length : Int) := dq_; obtain ⟨bs, cr, c461_0, bO, r, ap, aI⟩ := at_L7 ad.out 2 p461 an; obtain rfl : F = bs := (by injection bO); (try simp only [show (2 : Int).toNat = 2 from rfl, Nat.reduceMul, Nat.reduceEqDiff, Go.Addr.add, ↓reduceIte] at r); have cF : (2 < b.length) = True := et_ (by omega); (try rw [show ((2 : Int)).toNat = 2 from rfl] at r); replace r := (HB.out.cell (wl_ w _ r)).trans r; have b9 := a_ ap; clear aI ap; replace p461 := et_ p461; replace an := et_ an) | ((with_reducible refine gate_dst (N := 32) rfl ?_); refine Kd.R_make Kd.bool _ 4 rfl (N := 32) rfl 110 _ _ rfl ((rd_L7 b 2).length : Int) rfl rfl Tryz.underlying110 (.bool false) 1 info4 rfl (by decide) (by omega) false (ok := fun _ => True) (okp := fun _ => True) rfl (fun _ hk => hk) trivial (dq_) (Nat.le_trans (Nat.mul_le_mul_right _ (dq_ : ((rd_L7 b 2).length : Int).toNat ≤ 281474976710656)) (by omega)) (Below.refl _ _) (lr_ _) ?_; intro A w16 Y hb hg_ hnew_; clear hg_ hnew_; (first | rw [← bc.out] at Y | (simp only [Int.reduceToNat] at Y; rw [← bc.out] at Y)); have ci := a_ (Kd.R_lower (Kd.R_new' (Kd.R_new' (Kd.R_newM (M := fun a => (w.heap.size ≤ a)) Y (bz_ bel_) (fun a h_ => h_)) (rl_ (vR_ V.out))) (rl_ (vR_ al.out))) (bz_ bel_)); replace V := a_ (Kd.R_elder' (vR_ V.out) (rs_ Y) hb); replace al := a_ (Kd.R_elder' (vR_ al.out) (rs_ Y) hb); replace HB := hq_ hb; clear hb Y))
          repeat (go_quiet (first | ((with_reducible refine gate_dst (N := 22) rfl ?_); refine Kd.R_make Kd.bool _ 4 rfl (N := 22) rfl 110 _ _ rfl ((rd_L7 b 0).length : Int) rfl rfl Tryz.underlying110 (.bool false) 1 info4 rfl (by decide) (by omega) false (ok := fun _ => True) (okp := fun _ => True) rfl (fun _ hk => hk) trivial (dq_) (Nat.le_trans (Nat.mul_le_mul_right _ (dq_ : ((rd_L7 b 0).length : Int).toNat ≤ 281474976710656)) (by omega)) (Below.refl _ _) (lr_ _) ?_; intro ay w12 af hb hg_ hnew_; clear hg_ hnew_; (first | rw [← ba.out] at af | (simp only [Int.reduceToNat] at af; rw [← ba.out] at af)); have V := a_ (Kd.R_lower (Kd.R_newM (M := fun a => (w.heap.size ≤ a)) af (bz_ bel_) (fun a h_ => h_)) (bz_ bel_)); replace HB := hq_ hb; clear hb af; have p457 : 0 ≤ (1 : Int) := (by omega); have am : 1 < (b.length : Int) := dq_; obtain ⟨br, cq, c457_0, bN, q, ao, aH⟩ := at_L7 ad.out 1 p457 am; obtain rfl : F = br := (by injection bN); (try simp only [show (1 : Int).toNat = 1 from rfl, Nat.reduceMul, Nat.reduceEqDiff, Go.Addr.add, ↓reduceIte] at q); have cE : (1 < b.length) = True := et_ (by omega); (try rw [show ((1 : Int)).toNat = 1 from rfl] at q); replace q := (HB.out.cell (wl_ w _ q)).trans q; have b8 := a_ ao; clear aH ao; replace p457 := et_ p457; replace am := et_ am) | ((with_reducible refine gate_dst (N := 27) rfl ?_); refine Kd.R_make Kd.bool _ 4 rfl (N := 27) rfl 110 _ _ rfl ((rd_L7 b 1).length : Int) rfl rfl Tryz.underlying110 (.bool false) 1 info4 rfl (by decide) (by omega) false (ok := fun _ => True) (okp := fun _ => True) rfl (fun _ hk => hk) trivial (dq_) (Nat.le_trans (Nat.mul_le_mul_right _ (dq_ : ((rd_L7 b 1).length : Int).toNat ≤ 281474976710656)) (by omega)) (Below.refl _ _) (lr_ _) ?_; intro aa w14 ab hb hg_ hnew_; clear hg_ hnew_; (first | rw [← bb.out] at ab | (simp only [Int.reduceToNat] at ab; rw [← bb.out] at ab)); have al := a_ (Kd.R_lower (Kd.R_new' (Kd.R_newM (M := fun a => (w.heap.size ≤ a)) ab (bz_ bel_) (fun a h_ => h_)) (rl_ (vR_ V.out))) (bz_ bel_)); replace V := a_ (Kd.R_elder' (vR_ V.out) (rs_ ab) hb); replace HB := hq_ hb; clear hb ab; have p461 : 0 ≤ (2 : Int) := (by omega); have an : 2 < (b.length : Int) := dq_; obtain ⟨bs, cr, c461_0, bO, r, ap, aI⟩ := at_L7 ad.out 2 p461 an; obtain rfl : F = bs := (by injection bO); (try simp only [show (2 : Int).toNat = 2 from rfl, Nat.reduceMul, Nat.reduceEqDiff, Go.Addr.add, ↓reduceIte] at r); have cF : (2 < b.length) = True := et_ (by omega); (try rw [show ((2 : Int)).toNat = 2 from rfl] at r); replace r := (HB.out.cell (wl_ w _ r)).trans r; have b9 := a_ ap; clear aI ap; replace p461 := et_ p461; replace an := et_ an) | ((with_reducible refine gate_dst (N := 32) rfl ?_); refine Kd.R_make Kd.bool _ 4 rfl (N := 32) rfl 110 _ _ rfl ((rd_L7 b 2).length : Int) rfl rfl Tryz.underlying110 (.bool false) 1 info4 rfl (by decide) (by omega) false (ok := fun _ => True) (okp := fun _ => True) rfl (fun _ hk => hk) trivial (dq_) (Nat.le_trans (Nat.mul_le_mul_right _ (dq_ : ((rd_L7 b 2).length : Int).toNat ≤ 281474976710656)) (by omega)) (Below.refl _ _) (lr_ _) ?_; intro A w16 Y hb hg_ hnew_; clear hg_ hnew_; (first | rw [← bc.out] at Y | (simp only [Int.reduceToNat] at Y; rw [← bc.out] at Y)); have ci := a_ (Kd.R_lower (Kd.R_new' (Kd.R_new' (Kd.R_newM (M := fun a => (w.heap.size ≤ a)) Y (bz_ bel_) (fun a h_ => h_)) (rl_ (vR_ V.out))) (rl_ (vR_ al.out))) (bz_ bel_)); replace V := a_ (Kd.R_elder' (vR_ V.out) (rs_ Y) hb); replace al := a_ (Kd.R_elder' (vR_ al.out) (rs_ Y) hb); replace HB := hq_ hb; clear hb Y)); try go_wp2_with (first | ((with_reducible refine gate_dst (N := 22) rfl ?_); refine Kd.R_make Kd.bool _ 4 rfl (N := 22) rfl 110 _ _ rfl ((rd_L7 b 0).length : Int) rfl rfl Tryz.underlying110 (.bool false) 1 info4 rfl (by decide) (by omega) false (ok := fun _ => True) (okp := fun _ => True) rfl (fun _ hk => hk) trivial (dq_) (Nat.le_trans (Nat.mul_le_mul_right _ (dq_ : ((rd_L7 b 0).length : Int).toNat ≤ 281474976710656)) (by omega)) (Below.refl _ _) (lr_ _) ?_; intro ay w12 af hb hg_ hnew_; clear hg_ hnew_; (first | rw [← ba.out] at af | (simp only [Int.reduceToNat] at af; rw [← ba.out] at af)); have V := a_ (Kd.R_lower (Kd.R_newM (M := fun a => (w.heap.size ≤ a)) af (bz_ bel_) (fun a h_ => h_)) (bz_ bel_)); replace HB := hq_ hb; clear hb af; have p457 : 0 ≤ (1 : Int) := (by omega); have am : 1 < (b.length : Int) := dq_; obtain ⟨br, cq, c457_0, bN, q, ao, aH⟩ := at_L7 ad.out 1 p457 am; obtain rfl : F = br := (by injection bN); (try simp only [show (1 : Int).toNat = 1 from rfl, Nat.reduceMul, Nat.reduceEqDiff, Go.Addr.add, ↓reduceIte] at q); have cE : (1 < b.length) = True := et_ (by omega); (try rw [show ((1 : Int)).toNat = 1 from rfl] at q); replace q := (HB.out.cell (wl_ w _ q)).trans q; have b8 := a_ ao; clear aH ao; replace p457 := et_ p457; replace am := et_ am) | ((with_reducible refine gate_dst (N := 27) rfl ?_); refine Kd.R_make Kd.bool _ 4 rfl (N := 27) rfl 110 _ _ rfl ((rd_L7 b 1).length : Int) rfl rfl Tryz.underlying110 (.bool false) 1 info4 rfl (by decide) (by omega) false (ok := fun _ => True) (okp := fun _ => True) rfl (fun _ hk => hk) trivial (dq_) (Nat.le_trans (Nat.mul_le_mul_right _ (dq_ : ((rd_L7 b 1).length : Int).toNat ≤ 281474976710656)) (by omega)) (Below.refl _ _) (lr_ _) ?_; intro aa w14 ab hb hg_ hnew_; clear hg_ hnew_; (first | rw [← bb.out] at ab | (simp only [Int.reduceToNat] at ab; rw [← bb.out] at ab)); have al := a_ (Kd.R_lower (Kd.R_new' (Kd.R_newM (M := fun a => (w.heap.size ≤ a)) ab (bz_ bel_) (fun a h_ => h_)) (rl_ (vR_ V.out))) (bz_ bel_)); replace V := a_ (Kd.R_elder' (vR_ V.out) (rs_ ab) hb); replace HB := hq_ hb; clear hb ab; have p461 : 0 ≤ (2 : Int) := (by omega); have an : 2 < (b.length : Int) := dq_; obtain ⟨bs, cr, c461_0, bO, r, ap, aI⟩ := at_L7 ad.out 2 p461 an; obtain rfl : F = bs := (by injection bO); (try simp only [show (2 : Int).toNat = 2 from rfl, Nat.reduceMul, Nat.reduceEqDiff, Go.Addr.add, ↓reduceIte] at r); have cF : (2 < b.length) = True := et_ (by omega); (try rw [show ((2 : Int)).toNat = 2 from rfl] at r); replace r := (HB.out.cell (wl_ w _ r)).trans r; have b9 := a_ ap; clear aI ap; replace p461 := et_ p461; replace an := et_ an) | ((with_reducible refine gate_dst (N := 32) rfl ?_); refine Kd.R_make Kd.bool _ 4 rfl (N := 32) rfl 110 _ _ rfl ((rd_L7 b 2).length : Int) rfl rfl Tryz.underlying110 (.bool false) 1 info4 rfl (by decide) (by omega) false (ok := fun _ => True) (okp := fun _ => True) rfl (fun _ hk => hk) trivial (dq_) (Nat.le_trans (Nat.mul_le_mul_right _ (dq_ : ((rd_L7 b 2).length : Int).toNat ≤ 281474976710656)) (by omega)) (Below.refl _ _) (lr_ _) ?_; intro A w16 Y hb hg_ hnew_; clear hg_ hnew_; (first | rw [← bc.out] at Y | (simp only [Int.reduceToNat] at Y; rw [← bc.out] at Y)); have ci := a_ (Kd.R_lower (Kd.R_new' (Kd.R_new' (Kd.R_newM (M := fun a => (w.heap.size ≤ a)) Y (bz_ bel_) (fun a h_ => h_)) (rl_ (vR_ V.out))) (rl_ (vR_ al.out))) (bz_ bel_)); replace V := a_ (Kd.R_elder' (vR_ V.out) (rs_ Y) hb); replace al := a_ (Kd.R_elder' (vR_ al.out) (rs_ Y) hb); replace HB := hq_ hb; clear hb Y)))
          go_loopg [9, 10] k (fun kq v9 dG w' => ∃ (u : List Bool) (x : List Bool) (y : List Bool) (bP : Bool) (l : Int), v9 = .bool bP ∧ dG = .int .i64 l ∧ Aside0 (jigsawref11_Pairs.l0 kq a0 b u x y bP l = some (r1, r2)) ∧ Aside0 (kq ≤ k) ∧ Aside0 (Kd.R Kd.bool 4 w' w.heap.size (fun a => (w.heap.size ≤ a) ∧ some a ≠ (aa : Value).ownBlock ∧ some a ≠ (A : Value).ownBlock) ay u) ∧ Aside0 (Kd.R Kd.bool 4 w' w.heap.size (fun a => (w.heap.size ≤ a) ∧ some a ≠ (ay : Value).ownBlock ∧ some a ≠ (A : Value).ownBlock) aa x) ∧ Aside0 (Kd.R Kd.bool 4 w' w.heap.size (fun a => (w.heap.size ≤ a) ∧ some a ≠ (ay : Value).ownBlock ∧ some a ≠ (aa : Value).ownBlock) A y) ∧ Aside0 (Below w.heap.size w w'))
          case atStart => exact ⟨(ch), (cx), (cQ), (false), (0), eq_, eq_, H', ⟨lr_ _⟩, ⟨by refine vR_ ?_; exact rm_ V.out (fun _ hk => ⟨hk.1.1.1, ⟨hk.1.2, hk.2⟩⟩)⟩, ⟨by refine vR_ ?_; exact rm_ al.out (fun _ hk => ⟨hk.1.1.1, ⟨hk.1.2, hk.2⟩⟩)⟩, ⟨by refine vR_ ?_; exact rm_ ci.out (fun _ hk => ⟨hk.1.1.1, ⟨hk.1.2, hk.2⟩⟩)⟩, ⟨bel_⟩⟩
          case round =>
           clear H'
           try clear c1
           try clear p2
           try clear c3
           try clear c3b0
           try clear c3b1
           try clear c4
           try clear c4b0
           try clear c4b1
           try clear p4
           try clear q4
           try clear cS
           try clear cT
           try clear c5
           try clear c5b0
           try clear c5b1
           try clear c6
           try clear c6b0
           try clear c6b1
           try clear c7
           try clear c7b0
           try clear c7b1
           try clear c8
           try clear c8b0
           try clear c8b1
           try clear c9
           try clear c9b0
           try clear c9b1
           try clear c10
           try clear c10b0
           try clear c10b1
           try clear c11
           try clear c11b0
           try clear c11b1
           try clear aD
           try clear q
           try clear r
           try clear p453
           try clear p457
           try clear p461
           try clear bj
           try clear am
           try clear an
           obtain ⟨u, x, y, bP, l, rfl, rfl, HA, bf, HO_6, HO_7, HO_8, HB⟩ := hrel
           cases gk with
           | zero => exact absurd HA.out (by simp [jigsawref11_Pairs.l0])
           | succ k1 =>
            have H := HA.out
            clear HA
            simp only [jigsawref11_Pairs.l0] at H
            by_cases c18 : 0 < (b.length : Int)
            ·
             rw [ip_ c18] at H
             have c18b0 : decide (0 < (b.length : Int)) = true := dt_ c18
             have c18b1 : decide (0 < b.length) = true := dt_ (by omega)
             clear c18
             by_cases c19 : l < ((rd_L7 b 0).length : Int)
             ·
              rw [ip_ c19] at H
              have c19b0 : decide (l < ((rd_L7 b 0).length : Int)) = true := dt_ c19
              clear c19
              have H' := a_ H
              clear H
              have p465 : 0 ≤ (0 : Int) := (by omega)
              have az : 0 < (b.length : Int) := dq_
              obtain ⟨bu, cs, c465_0, bQ, s, aq, aJ⟩ := at_L7 ad.out 0 p465 az
              obtain rfl : F = bu := (by injection bQ)
              have cG : (0 < b.length) = True := et_ (by omega)
              (try rw [show ((0 : Int)).toNat = 0 from rfl] at s)
              (try rw [Addr.add_zero'] at s)
              replace s := (HB.out.cell (wl_ w _ s)).trans s
              have ca := a_ aq
              clear aJ aq
              replace p465 := et_ p465
              replace az := et_ az
              go_wp2
              repeat (go_quiet (fail); try go_wp2)
              go_loopg [9, 11] k1 (fun kq v9 dH w' => ∃ (bR : List Bool) (bS : List Bool) (bT : List Bool) (bU : Bool) (d : Int), v9 = .bool bU ∧ dH = .int .i64 d ∧ Aside0 (jigsawref11_Pairs.l1 kq a0 b bR bS bT bU l d = some (r1, r2)) ∧ Aside0 (kq ≤ k1) ∧ Aside0 (Kd.R Kd.bool 4 w' w.heap.size (fun a => (w.heap.size ≤ a) ∧ some a ≠ (aa : Value).ownBlock ∧ some a ≠ (A : Value).ownBlock) ay bR) ∧ Aside0 (Kd.R Kd.bool 4 w' w.heap.size (fun a => (w.heap.size ≤ a) ∧ some a ≠ (ay : Value).ownBlock ∧ some a ≠ (A : Value).ownBlock) aa bS) ∧ Aside0 (Kd.R Kd.bool 4 w' w.heap.size (fun a => (w.heap.size ≤ a) ∧ some a ≠ (ay : Value).ownBlock ∧ some a ≠ (aa : Value).ownBlock) A bT) ∧ Aside0 (Below w.heap.size w w'))
              case atStart => exact ⟨(u), (x), (y), (bP), (0), eq_, eq_, H', ⟨lr_ _⟩, ⟨vR_ HO_6.out⟩, ⟨vR_ HO_7.out⟩, ⟨vR_ HO_8.out⟩, ⟨bel_⟩⟩
              case round =>
               clear H'
               try clear c1
               try clear p2
               try clear c3
               try clear c3b0
               try clear c3b1
               try clear c4
               try clear c4b0
               try clear c4b1
               try clear p4
               try clear q4
               try clear cS
               try clear cT
               try clear c5
               try clear c5b0
               try clear c5b1
               try clear c6
               try clear c6b0
               try clear c6b1
               try clear c7
               try clear c7b0
               try clear c7b1
               try clear c8
               try clear c8b0
               try clear c8b1
               try clear c9
               try clear c9b0
               try clear c9b1
               try clear c10
               try clear c10b0
               try clear c10b1
               try clear c11
               try clear c11b0
               try clear c11b1
               try clear c18
               try clear c18b0
               try clear c18b1
               try clear c19
               try clear c19b0
               try clear aD
               try clear q
               try clear r
               try clear s
               try clear p2
               try clear p4
               try clear p453
               try clear p457
               try clear p461
               try clear p465
               try clear q4
               try clear bj
               try clear am
               try clear an
               try clear az
               obtain ⟨bR, bS, bT, bU, d, rfl, rfl, HA, bg, HO_6, HO_7, HO_8, HB⟩ := hrel
               cases gk with
               | zero => exact absurd HA.out (by simp [jigsawref11_Pairs.l1])
               | succ k2 =>
                have H := HA.out
                clear HA
                simp only [jigsawref11_Pairs.l1] at H
                by_cases c20 : 1 < (b.length : Int)
                ·
                 rw [ip_ c20] at H
                 have c20b0 : decide (1 < (b.length : Int)) = true := dt_ c20
                 have c20b1 : decide (1 < b.length) = true := dt_ (by omega)
                 clear c20
                 by_cases c21 : d < ((rd_L7 b 1).length : Int)
                 ·
                  rw [ip_ c21] at H
                  have c21b0 : decide (d < ((rd_L7 b 1).length : Int)) = true := dt_ c21
                  clear c21
                  by_cases c22 : 0 < (b.length : Int)
                  ·
                   rw [ip_ c22] at H
                   have c22b0 : decide (0 < (b.length : Int)) = true := dt_ c22
                   have c22b1 : decide (0 < b.length) = true := dt_ (by omega)
                   clear c22
                   by_cases c23 : 0 ≤ l
                   ·
                    rw [ip_ c23] at H
                    have c23b0 : decide (0 ≤ l) = true := dt_ c23
                    clear c23
                    by_cases c24 : l < ((rd_L7 b 0).length : Int)
                    ·
                     rw [ip_ c24] at H
                     have c24b0 : decide (l < ((rd_L7 b 0).length : Int)) = true := dt_ c24
                     clear c24
                     by_cases c25 : 0 ≤ d
                     ·
                      rw [ip_ c25] at H
                      have c25b0 : decide (0 ≤ d) = true := dt_ c25
                      clear c25
                      replace H := bs_.mp H
                      obtain ⟨⟨aA, aU⟩, cU, H⟩ := H
                      try dsimp only at H
                      have cV := a_ cU
                      clear cU
                      have H' := a_ H
                      clear H
                      have p466 : 0 ≤ (1 : Int) := (by omega)
                      have aV : 1 < (b.length : Int) := dq_
                      obtain ⟨cj, cW, c466_0, cy, X, aK, bF⟩ := at_L7 ad.out 1 p466 aV
                      obtain rfl : F = cj := (by injection cy)
                      (try simp only [show (1 : Int).toNat = 1 from rfl, Nat.reduceMul, Nat.reduceEqDiff, Go.Addr.add, ↓reduceIte] at X)
                      have di : (1 < b.length) = True := et_ (by omega)
                      (try rw [show ((1 : Int)).toNat = 1 from rfl] at X)
                      replace X := (HB.out.cell (wl_ w _ X)).trans X
                      have cL := a_ aK
                      clear bF aK
                      replace p466 := et_ p466
                      replace aV := et_ aV
                      have p467 : 0 ≤ (0 : Int) := (by omega)
                      have bV : 0 < (b.length : Int) := dq_
                      obtain ⟨dj, dI, c467_0, du, aB, cb, cc⟩ := at_L7 ad.out 0 p467 bV
                      obtain rfl : F = dj := (by injection du)
                      have dP : (0 < b.length) = True := et_ (by omega)
                      (try rw [show ((0 : Int)).toNat = 0 from rfl] at aB)
                      (try rw [Addr.add_zero'] at aB)
                      replace aB := (HB.out.cell (wl_ w _ aB)).trans aB
                      have cM := a_ cc
                      have dC := a_ cb
                      clear cc cb
                      replace p467 := et_ p467
                      replace bV := et_ bV
                      have p468 : 0 ≤ (l : Int) := dq_
                      have bW : l < ((rd_L7 b 0).length : Int) := dq_
                      obtain ⟨dQ, dv, aL⟩ := ai_ cM.out l p468 bW
                      cases dv
                      replace aL := (HB.out.cell (wl_ w _ aL)).trans aL
                      replace p468 := et_ p468
                      replace bW := et_ bW
                      have p469 : 0 ≤ (1 : Int) := (by omega)
                      have bX : 1 < (b.length : Int) := dq_
                      obtain ⟨dk, dJ, c469_0, dw, ar, cd, ce⟩ := at_L7 ad.out 1 p469 bX
                      obtain rfl : F = dk := (by injection dw)
                      (try simp only [show (1 : Int).toNat = 1 from rfl, Nat.reduceMul, Nat.reduceEqDiff, Go.Addr.add, ↓reduceIte] at ar)
                      have dR : (1 < b.length) = True := et_ (by omega)
                      (try rw [show ((1 : Int)).toNat = 1 from rfl] at ar)
                      replace ar := (HB.out.cell (wl_ w _ ar)).trans ar
                      have cN := a_ ce
                      have dD := a_ cd
                      clear ce cd
                      replace p469 := et_ p469
                      replace bX := et_ bX
                      have ea_ := si_ (X.symm.trans ar)
                      injection ea_ with ea_ en_ ec_
                      subst ea_
                      subst ec_
                      clear en_
                      have p470 : 0 ≤ (d : Int) := dq_
                      have bY : d < ((rd_L7 b 1).length : Int) := dq_
                      obtain ⟨dS, dx, aM⟩ := ai_ cN.out d p470 bY
                      cases dx
                      replace aM := (HB.out.cell (wl_ w _ aM)).trans aM
                      replace p470 := et_ p470
                      replace bY := et_ bY
                      go_wp2_with (first | (go_at_call 76; (with_reducible refine (jigsawref11_value.calls k2 a0 (rd (rd_L7 b 0) l) (rd (rd_L7 b 1) d) aA aU _ cV.out).mono ?_); rintro e w' ⟨rfl, ⟨nd, rfl⟩⟩; (try first | exact ⟨rfl, _, World.drewN_drewN _ _ _⟩ | exact ⟨rfl, _, Eq.trans (World.drewN_drewN _ _ _) (congrArg (World.drewN _) (Nat.add_assoc _ _ _))⟩)))
                      repeat (go_quiet (first | (go_at_call 76; (with_reducible refine (jigsawref11_value.calls k2 a0 (rd (rd_L7 b 0) l) (rd (rd_L7 b 1) d) aA aU _ cV.out).mono ?_); rintro e w' ⟨rfl, ⟨nd, rfl⟩⟩; (try first | exact ⟨rfl, _, World.drewN_drewN _ _ _⟩ | exact ⟨rfl, _, Eq.trans (World.drewN_drewN _ _ _) (congrArg (World.drewN _) (Nat.add_assoc _ _ _))⟩))); try go_wp2_with (first | (go_at_call 76; (with_reducible refine (jigsawref11_value.calls k2 a0 (rd (rd_L7 b 0) l) (rd (rd_L7 b 1) d) aA aU _ cV.out).mono ?_); rintro e w' ⟨rfl, ⟨nd, rfl⟩⟩; (try first | exact ⟨rfl, _, World.drewN_drewN _ _ _⟩ | exact ⟨rfl, _, Eq.trans (World.drewN_drewN _ _ _) (congrArg (World.drewN _) (Nat.add_assoc _ _ _))⟩))))
                      go_loopg [9, 14] k2 (fun kq v9 dK w' => ∃ (g : List Bool) (m : List Bool) (z : List Bool) (bk : Bool) (c : Int), v9 = .bool bk ∧ dK = .int .i64 c ∧ Aside0 (jigsawref11_Pairs.l2 kq a0 b g m z bk l d aA aU c = some (r1, r2)) ∧ Aside0 (kq ≤ k2) ∧ Aside0 (Kd.R Kd.bool 4 w' w.heap.size (fun a => (w.heap.size ≤ a) ∧ some a ≠ (aa : Value).ownBlock ∧ some a ≠ (A : Value).ownBlock) ay g) ∧ Aside0 (Kd.R Kd.bool 4 w' w.heap.size (fun a => (w.heap.size ≤ a) ∧ some a ≠ (ay : Value).ownBlock ∧ some a ≠ (A : Value).ownBlock) aa m) ∧ Aside0 (Kd.R Kd.bool 4 w' w.heap.size (fun a => (w.heap.size ≤ a) ∧ some a ≠ (ay : Value).ownBlock ∧ some a ≠ (aa : Value).ownBlock) A z) ∧ Aside0 (Below w.heap.size w w'))
                      case atStart => exact ⟨(bR), (bS), (bT), (bU), (0), eq_, eq_, H', ⟨lr_ _⟩, ⟨vR_ HO_6.out⟩, ⟨vR_ HO_7.out⟩, ⟨vR_ HO_8.out⟩, ⟨bel_⟩⟩
                      case round =>
                       clear H'
                       try clear c1
                       try clear c2
                       try clear p2
                       try clear c3
                       try clear c3b0
                       try clear c3b1
                       try clear c4
                       try clear c4b0
                       try clear c4b1
                       try clear p4
                       try clear q4
                       try clear cS
                       try clear cT
                       try clear c5
                       try clear c5b0
                       try clear c5b1
                       try clear c6
                       try clear c6b0
                       try clear c6b1
                       try clear c7
                       try clear c7b0
                       try clear c7b1
                       try clear c8
                       try clear c8b0
                       try clear c8b1
                       try clear c9
                       try clear c9b0
                       try clear c9b1
                       try clear c10
                       try clear c10b0
                       try clear c10b1
                       try clear c11
                       try clear c11b0
                       try clear c11b1
                       try clear c18
                       try clear c18b0
                       try clear c18b1
                       try clear c19
                       try clear c19b0
                       try clear c20
                       try clear c20b0
                       try clear c20b1
                       try clear c21
                       try clear c21b0
                       try clear c22
                       try clear c22b0
                       try clear c22b1
                       try clear c23
                       try clear c23b0
                       try clear c24
                       try clear c24b0
                       try clear c25
                       try clear c25b0
                       try clear aD
                       try clear q
                       try clear r
                       try clear s
                       try clear X
                       try clear aB
                       try clear aL
                       try clear ar
                       try clear aM
                       try clear p2
                       try clear p4
                       try clear p453
                       try clear p457
                       try clear p461
                       try clear p465
                       try clear p466
                       try clear p467
                       try clear p468
                       try clear p469
                       try clear p470
                       try clear q4
                       try clear bj
                       try clear am
                       try clear an
                       try clear az
                       try clear aV
                       try clear bV
                       try clear bW
                       try clear bX
                       try clear bY
                       obtain ⟨g, m, z, bk, c, rfl, rfl, HA, bM, HO_6, HO_7, HO_8, HB⟩ := hrel
                       cases gk with
                       | zero => exact absurd HA.out (by simp [jigsawref11_Pairs.l2])
                       | succ k3 =>
                        have H := HA.out
                        clear HA
                        simp only [jigsawref11_Pairs.l2] at H
                        have cz := a_ H
                        clear H
                        go_upto_region 13 with (fail)
                        repeat (go_quiet (fail); go_upto_region 13 with (fail))
                        go_cut [74] (fun dL wc => ∃ (kq : Nat) (bv : Bool), dL = .bool bv ∧ Aside0 (jigsawref11_Pairs.j3 kq a0 b g m z bk l d aA aU c bv = some (r1, r2)) ∧ Aside0 (kq ≤ k3) ∧ Aside0 (Kd.R Kd.bool 4 wc w.heap.size (fun a => (w.heap.size ≤ a) ∧ some a ≠ (aa : Value).ownBlock ∧ some a ≠ (A : Value).ownBlock) ay g) ∧ Aside0 (Kd.R Kd.bool 4 wc w.heap.size (fun a => (w.heap.size ≤ a) ∧ some a ≠ (ay : Value).ownBlock ∧ some a ≠ (A : Value).ownBlock) aa m) ∧ Aside0 (Kd.R Kd.bool 4 wc w.heap.size (fun a => (w.heap.size ≤ a) ∧ some a ≠ (ay : Value).ownBlock ∧ some a ≠ (aa : Value).ownBlock) A z) ∧ Aside0 (Below w.heap.size w wc))
                        case first =>
                         have H := cz.out
                         clear cz
                         by_cases c28 : 2 < (b.length : Int)
                         ·
                          rw [ip_ c28] at H
                          have c28b0 : decide (2 < (b.length : Int)) = true := dt_ c28
                          have c28b1 : decide (2 < b.length) = true := dt_ (by omega)
                          clear c28
                          (first | rw [c28b0] | (simp only [i64_w, i32_w]; rw [c28b0]) | skip)
                          by_cases c29 : c < ((rd_L7 b 2).length : Int)
                          ·
                           rw [ip_ c29] at H
                           have c29b0 : decide (c < ((rd_L7 b 2).length : Int)) = true := dt_ c29
                           clear c29
                           have H' := a_ H
                           clear H
                           have p473 : 0 ≤ (2 : Int) := (by omega)
                           have aW : 2 < (b.length : Int) := dq_
                           obtain ⟨ck, cX, c473_0, cA, Z, aN, bG⟩ := at_L7 ad.out 2 p473 aW
                           obtain rfl : F = ck := (by injection cA)
                           (try simp only [show (2 : Int).toNat = 2 from rfl, Nat.reduceMul, Nat.reduceEqDiff, Go.Addr.add, ↓reduceIte] at Z)
                           have dl : (2 < b.length) = True := et_ (by omega)
                           (try rw [show ((2 : Int)).toNat = 2 from rfl] at Z)
                           replace Z := (HB.out.cell (wl_ w _ Z)).trans Z
                           have cO := a_ aN
                           clear bG aN
                           replace p473 := et_ p473
                           replace aW := et_ aW
                           go_wp2
                           repeat (go_quiet (fail); try go_wp2)
                           go_meet
                           case rel => exact ⟨_, (aU), eq_, H', ⟨by have := bf.out; have := bg.out; have := bM.out; first | omega | exact lr_ _⟩, ⟨vR_ HO_6.out⟩, ⟨vR_ HO_7.out⟩, ⟨vR_ HO_8.out⟩, ⟨bel_⟩⟩
                          ·
                           rw [ig_ c29] at H
                           have c29b0 : decide (c < ((rd_L7 b 2).length : Int)) = false := df_ c29
                           clear c29
                           have H' := a_ H
                           clear H
                           have p473 : 0 ≤ (2 : Int) := (by omega)
                           have aW : 2 < (b.length : Int) := dq_
                           obtain ⟨ck, cX, c473_0, cA, Z, aN, bG⟩ := at_L7 ad.out 2 p473 aW
                           obtain rfl : F = ck := (by injection cA)
                           (try simp only [show (2 : Int).toNat = 2 from rfl, Nat.reduceMul, Nat.reduceEqDiff, Go.Addr.add, ↓reduceIte] at Z)
                           have dl : (2 < b.length) = True := et_ (by omega)
                           (try rw [show ((2 : Int)).toNat = 2 from rfl] at Z)
                           replace Z := (HB.out.cell (wl_ w _ Z)).trans Z
                           have cO := a_ aN
                           clear bG aN
                           replace p473 := et_ p473
                           replace aW := et_ aW
                           go_wp2
                           repeat (go_quiet (fail); try go_wp2)
                           go_meet
                           case rel => exact ⟨_, (false), eq_, H', ⟨by have := bf.out; have := bg.out; have := bM.out; first | omega | exact lr_ _⟩, ⟨vR_ HO_6.out⟩, ⟨vR_ HO_7.out⟩, ⟨vR_ HO_8.out⟩, ⟨bel_⟩⟩
                         ·
                          rw [ig_ c28] at H
                          exact absurd H (by simp)
                        case rest =>
                         clear cz
                         try clear c1
                         try clear c2
                         try clear p2
                         try clear c3
                         try clear c3b0
                         try clear c3b1
                         try clear c4
                         try clear c4b0
                         try clear c4b1
                         try clear p4
                         try clear q4
                         try clear cS
                         try clear cT
                         try clear c5
                         try clear c5b0
                         try clear c5b1
                         try clear c6
                         try clear c6b0
                         try clear c6b1
                         try clear c7
                         try clear c7b0
                         try clear c7b1
                         try clear c8
                         try clear c8b0
                         try clear c8b1
                         try clear c9
                         try clear c9b0
                         try clear c9b1
                         try clear c10
                         try clear c10b0
                         try clear c10b1
                         try clear c11
                         try clear c11b0
                         try clear c11b1
                         try clear c18
                         try clear c18b0
                         try clear c18b1
                         try clear c19
                         try clear c19b0
                         try clear c20
                         try clear c20b0
                         try clear c20b1
                         try clear c21
                         try clear c21b0
                         try clear c22
                         try clear c22b0
                         try clear c22b1
                         try clear c23
                         try clear c23b0
                         try clear c24
                         try clear c24b0
                         try clear c25
                         try clear c25b0
                         try clear c28
                         try clear c28b0
                         try clear c28b1
                         try clear c29
                         try clear c29b0
                         try clear aD
                         try clear q
                         try clear r
                         try clear s
                         try clear X
                         try clear aB
                         try clear aL
                         try clear ar
                         try clear aM
                         try clear Z
                         try clear p2
                         try clear p4
                         try clear p453
                         try clear p457
                         try clear p461
                         try clear p465
                         try clear p466
                         try clear p467
                         try clear p468
                         try clear p469
                         try clear p470
                         try clear p473
                         try clear q4
                         try clear bj
                         try clear am
                         try clear an
                         try clear az
                         try clear aV
                         try clear bV
                         try clear bW
                         try clear bX
                         try clear bY
                         try clear aW
                         obtain ⟨kq, bv, rfl, HA, bH, HO_6, HO_7, HO_8, HB⟩ := hcut
                         cases kq with
                         | zero => exact absurd HA.out (by simp [jigsawref11_Pairs.j3])
                         | succ kj26 =>
                          have H := HA.out
                          clear HA
                          simp only [jigsawref11_Pairs.j3] at H
                          by_cases c30 : bv = true
                          ·
                           subst c30
                           rw [ip_ rfl] at H
                           by_cases c31 : 2 < (b.length : Int)
                           ·
                            rw [ip_ c31] at H
                            have c31b0 : decide (2 < (b.length : Int)) = true := dt_ c31
                            have c31b1 : decide (2 < b.length) = true := dt_ (by omega)
                            clear c31
                            by_cases c32 : 0 ≤ c
                            ·
                             rw [ip_ c32] at H
                             have c32b0 : decide (0 ≤ c) = true := dt_ c32
                             clear c32
                             by_cases c33 : c < ((rd_L7 b 2).length : Int)
                             ·
                              rw [ip_ c33] at H
                              have c33b0 : decide (c < ((rd_L7 b 2).length : Int)) = true := dt_ c33
                              clear c33
                              by_cases c34 : (rd (rd_L7 b 2) c) = aA
                              ·
                               rw [ip_ c34] at H
                               have c34b0 : ((rd (rd_L7 b 2) c) == aA) = true := beq_iff_eq.mpr c34
                               have c34b1 : ((rd (rd_L7 b 2) c) != aA) = false := bn_.mpr c34
                               clear c34
                               by_cases c35 : 0 ≤ l
                               ·
                                rw [ip_ c35] at H
                                have c35b0 : decide (0 ≤ l) = true := dt_ c35
                                clear c35
                                by_cases c36 : l < (g.length : Int)
                                ·
                                 rw [ip_ c36] at H
                                 have c36b0 : decide (l < (g.length : Int)) = true := dt_ c36
                                 clear c36
                                 obtain ⟨bl, bw⟩ : ∃ y_ : List Bool, y_ = (g.set (l : Int).toNat true) := ⟨_, rfl⟩
                                 replace H : (if 0 ≤ d then (if d < (m.length : Int) then (if c < (z.length : Int) then (jigsawref11_Pairs.l2 kj26 a0 b bl (m.set (d : Int).toNat true) (z.set (c : Int).toNat true) true l d aA aU (wrap64 (c + 1))) else (none)) else (none)) else (none)) = some (r1, r2) := by first | (rw [bw]; with_reducible exact H) | (have H2_ := (ob_ _ _).symm.trans H; rw [bw]; with_reducible exact H2_) | (have H2_ := (ob_ _ _).symm.trans H; with_reducible exact H2_) | with_reducible exact H | (rw [bw]; exact H) | exact H
                                 have cl := a_ bw
                                 clear bw
                                 by_cases c38 : 0 ≤ d
                                 ·
                                  rw [ip_ c38] at H
                                  have c38b0 : decide (0 ≤ d) = true := dt_ c38
                                  clear c38
                                  by_cases c39 : d < (m.length : Int)
                                  ·
                                   rw [ip_ c39] at H
                                   have c39b0 : decide (d < (m.length : Int)) = true := dt_ c39
                                   clear c39
                                   obtain ⟨bI, bx⟩ : ∃ y_ : List Bool, y_ = (m.set (d : Int).toNat true) := ⟨_, rfl⟩
                                   replace H : (if c < (z.length : Int) then (jigsawref11_Pairs.l2 kj26 a0 b bl bI (z.set (c : Int).toNat true) true l d aA aU (wrap64 (c + 1))) else (none)) = some (r1, r2) := by first | (rw [bx]; with_reducible exact H) | (have H2_ := (ob_ _ _).symm.trans H; rw [bx]; with_reducible exact H2_) | (have H2_ := (ob_ _ _).symm.trans H; with_reducible exact H2_) | with_reducible exact H | (rw [bx]; exact H) | exact H
                                   have cm := a_ bx
                                   clear bx
                                   by_cases c41 : c < (z.length : Int)
                                   ·
                                    rw [ip_ c41] at H
                                    have c41b0 : decide (c < (z.length : Int)) = true := dt_ c41
                                    clear c41
                                    obtain ⟨bZ, bz⟩ : ∃ y_ : List Bool, y_ = (z.set (c : Int).toNat true) := ⟨_, rfl⟩
                                    replace H : (jigsawref11_Pairs.l2 kj26 a0 b bl bI bZ true l d aA aU (wrap64 (c + 1))) = some (r1, r2) := by first | (rw [bz]; with_reducible exact H) | (have H2_ := (ob_ _ _).symm.trans H; rw [bz]; with_reducible exact H2_) | (have H2_ := (ob_ _ _).symm.trans H; with_reducible exact H2_) | with_reducible exact H | (rw [bz]; exact H) | exact H
                                    have cn := a_ bz
                                    clear bz
                                    have H' := a_ H
                                    clear H
                                    have p474 : 0 ≤ (2 : Int) := (by omega)
                                    have bm : 2 < (b.length : Int) := dq_
                                    obtain ⟨co, cY, c474_0, cB, ac, aO, aP⟩ := at_L7 ad.out 2 p474 bm
                                    obtain rfl : F = co := (by injection cB)
                                    (try simp only [show (2 : Int).toNat = 2 from rfl, Nat.reduceMul, Nat.reduceEqDiff, Go.Addr.add, ↓reduceIte] at ac)
                                    have dm : (2 < b.length) = True := et_ (by omega)
                                    (try rw [show ((2 : Int)).toNat = 2 from rfl] at ac)
                                    replace ac := (HB.out.cell (wl_ w _ ac)).trans ac
                                    have bJ := a_ aP
                                    have cP := a_ aO
                                    clear aP aO
                                    replace p474 := et_ p474
                                    replace bm := et_ bm
                                    have p475 : 0 ≤ (c : Int) := dq_
                                    have bn : c < ((rd_L7 b 2).length : Int) := dq_
                                    obtain ⟨dn, cC, aC⟩ := ai_ bJ.out c p475 bn
                                    cases cC
                                    replace aC := (HB.out.cell (wl_ w _ aC)).trans aC
                                    replace p475 := et_ p475
                                    replace bn := et_ bn
                                    have p37 : 0 ≤ (l : Int) := dq_
                                    have cZ : (l : Int) < ((g.length : Int) : Int) := dq_
                                    obtain ⟨go37, o, c0, da, gl37, cl37, HG37⟩ := Kd.R_form HO_6.out (by omega)
                                    (first | cases c0 | (injection c0 with ea_ en_ ec_; (first | subst ea_ | (injection ea_ with ea_; subst ea_)); subst ec_; clear en_))
                                    have GB37 := a_ da
                                    have GG37 := a_ HG37
                                    clear da gl37 HG37
                                    obtain ⟨dM, hf37_0⟩ := Kd.R_celln false HO_6.out (l : Int) p37 cZ
                                    replace p37 := et_ p37
                                    replace cZ := et_ cZ
                                    have HP43 := Kd.R_putg HO_6.out (l : Int) true
                                    go_wp2_with (first | ((with_reducible refine gate_store (t := 4) (p := 87) rfl ?_); (try (rw [drewN_self wc]; generalize hq_ : World.drewN wc _ = wc; replace HO_6 := a_ (Kd.R_at hq_ HO_6.out); replace HO_7 := a_ (Kd.R_at hq_ HO_7.out); replace HO_8 := a_ (Kd.R_at hq_ HO_8.out); replace HB := a_ (below_at hq_ HB.out); clear hq_; (try (have HP43 := Kd.R_putg HO_6.out (l : Int) true)))); refine store_event (t := 4) (p := 87) (v := ?vo_w44) (w1 := (wc.setCell ⟨go37, (l : Int).toNat, none⟩ (.bool true))) ?hg ?ho ?hn ?hr ?_; (case ho => rfl); (case hg => rfl); (case hn => rfl); (case hr => first | (go_simp; done) | (go_simp; rfl)); intro w44 hw; have hg : wc.grownBy w44 (some go37) := (by rw [hw]; exact HP43.2); have hp_ : Kd.R Kd.bool 4 w44 w.heap.size (fun a => (w.heap.size ≤ a) ∧ some a ≠ (aa : Value).ownBlock ∧ some a ≠ (A : Value).ownBlock) (.slice (some ⟨go37, 0, none⟩) g.length o) bl := (by rw [hw, cl.out]; exact HP43.1); clear HP43; replace HO_6 := a_ (hp_); replace HO_7 := a_ (Kd.R_after (v := (.slice (some ⟨go37, 0, none⟩) g.length o)) (v1 := (.slice (some ⟨go37, 0, none⟩) g.length o)) (ok := (fun a => (w.heap.size ≤ a) ∧ some a ≠ (A : Value).ownBlock)) (by refine vR_ ?_; exact rm_ HO_7.out (fun _ hk => ⟨⟨hk.1, hk.2.2⟩, hk.2.1⟩)) hg (.inl rfl)); replace HO_8 := a_ (Kd.R_after (v := (.slice (some ⟨go37, 0, none⟩) g.length o)) (v1 := (.slice (some ⟨go37, 0, none⟩) g.length o)) (ok := (fun a => (w.heap.size ≤ a) ∧ some a ≠ (aa : Value).ownBlock)) (by refine vR_ ?_; exact rm_ HO_8.out (fun _ hk => ⟨⟨hk.1, hk.2.2⟩, hk.2.1⟩)) hg (.inl rfl)); replace HB := a_ ((by rw [hw]; exact below_set (HB.out) GB37.out : Below w.heap.size w w44)); clear hg hw hp_; have p40 : 0 ≤ (d : Int) := dq_; have aX : (d : Int) < ((m.length : Int) : Int) := dq_; obtain ⟨go40, G, aY, aZ, gl40, cl40, HG40⟩ := Kd.R_form HO_7.out (by omega); (first | cases aY | (injection aY with ea_ en_ ec_; (first | subst ea_ | (injection ea_ with ea_; subst ea_)); subst ec_; clear en_)); have GB40 := a_ aZ; have GG40 := a_ HG40; clear aZ gl40 HG40; obtain ⟨ct, hf40_0⟩ := Kd.R_celln false HO_7.out (d : Int) p40 aX; replace p40 := et_ p40; replace aX := et_ aX; have n_ := a_ (rm_ (ok' := (fun a => (w.heap.size ≤ a) ∧ some a ≠ (.slice (some ⟨go37, 0, none⟩) g.length o : Value).ownBlock ∧ some a ≠ (A : Value).ownBlock)) HO_7.out (fun a hk => ⟨hk.1.1, ⟨hk.2, hk.1.2⟩⟩)); clear HO_7; have HO_7 := n_; clear n_; obtain ⟨bA, hz45_⟩ := Kd.R_celln false HO_7.out (d : Int) (dq_) (dq_); have HP45 := Kd.R_putg HO_7.out (d : Int) true) | ((with_reducible refine gate_store (t := 4) (p := 90) rfl ?_); (try (rw [drewN_self w44]; generalize hq_ : World.drewN w44 _ = w44; replace HO_6 := a_ (Kd.R_at hq_ HO_6.out); replace HO_7 := a_ (Kd.R_at hq_ HO_7.out); replace HO_8 := a_ (Kd.R_at hq_ HO_8.out); replace HB := a_ (below_at hq_ HB.out); clear hq_; (try (have n_ := a_ (rm_ (ok' := (fun a => (w.heap.size ≤ a) ∧ some a ≠ (.slice (some ⟨go37, 0, none⟩) g.length o : Value).ownBlock ∧ some a ≠ (A : Value).ownBlock)) HO_7.out (fun a hk => ⟨hk.1.1, ⟨hk.2, hk.1.2⟩⟩)); clear HO_7; have HO_7 := n_; clear n_)); (try (obtain ⟨bA, hz45_⟩ := Kd.R_celln false HO_7.out (d : Int) (dq_) (dq_))); (try (have HP45 := Kd.R_putg HO_7.out (d : Int) true)))); refine store_event (t := 4) (p := 90) (v := ?vo_w46) (w1 := (w44.setCell ⟨go40, (d : Int).toNat, none⟩ (.bool true))) ?hg ?ho ?hn ?hr ?_; (case ho => rfl); (case hg => rfl); (case hn => rfl); (case hr => first | (go_simp; done) | (go_simp; rfl)); intro w46 hw; have hg : w44.grownBy w46 (some go40) := (by rw [hw]; exact HP45.2); have hp_ : Kd.R Kd.bool 4 w46 w.heap.size (fun a => (w.heap.size ≤ a) ∧ some a ≠ (.slice (some ⟨go37, 0, none⟩) g.length o : Value).ownBlock ∧ some a ≠ (A : Value).ownBlock) (.slice (some ⟨go40, 0, none⟩) m.length G) bI := (by rw [hw, cm.out]; exact HP45.1); clear HP45; replace HO_6 := a_ (Kd.R_after (v := (.slice (some ⟨go40, 0, none⟩) m.length G)) (v1 := (.slice (some ⟨go40, 0, none⟩) m.length G)) (ok := (fun a => (w.heap.size ≤ a) ∧ some a ≠ (A : Value).ownBlock)) (by refine vR_ ?_; exact rm_ HO_6.out (fun _ hk => ⟨⟨hk.1, hk.2.2⟩, hk.2.1⟩)) hg (.inl rfl)); replace HO_7 := a_ (hp_); replace HO_8 := a_ (Kd.R_after (v := (.slice (some ⟨go40, 0, none⟩) m.length G)) (v1 := (.slice (some ⟨go40, 0, none⟩) m.length G)) (ok := (fun a => (w.heap.size ≤ a) ∧ some a ≠ (.slice (some ⟨go37, 0, none⟩) g.length o : Value).ownBlock)) (by refine vR_ ?_; exact rm_ HO_8.out (fun _ hk => ⟨⟨hk.1.1, hk.2⟩, hk.1.2⟩)) hg (.inl rfl)); replace HB := a_ ((by rw [hw]; exact below_set (HB.out) GB40.out : Below w.heap.size w w46)); clear hg hw hp_; have p42 : 0 ≤ (c : Int) := dq_; have a1 : (c : Int) < ((z.length : Int) : Int) := dq_; obtain ⟨go42, ag, a2, a3, gl42, cl42, HG42⟩ := Kd.R_form HO_8.out (by omega); (first | cases a2 | (injection a2 with ea_ en_ ec_; (first | subst ea_ | (injection ea_ with ea_; subst ea_)); subst ec_; clear en_)); have GB42 := a_ a3; have GG42 := a_ HG42; clear a3 gl42 HG42; obtain ⟨cu, hf42_0⟩ := Kd.R_celln false HO_8.out (c : Int) p42 a1; replace p42 := et_ p42; replace a1 := et_ a1; have n_ := a_ (rm_ (ok' := (fun a => (w.heap.size ≤ a) ∧ some a ≠ (.slice (some ⟨go37, 0, none⟩) g.length o : Value).ownBlock ∧ some a ≠ (.slice (some ⟨go40, 0, none⟩) m.length G : Value).ownBlock)) HO_8.out (fun a hk => ⟨hk.1.1, ⟨hk.1.2, hk.2⟩⟩)); clear HO_8; have HO_8 := n_; clear n_; obtain ⟨bB, hz47_⟩ := Kd.R_celln false HO_8.out (c : Int) (dq_) (dq_); have HP47 := Kd.R_putg HO_8.out (c : Int) true) | ((with_reducible refine gate_store (t := 4) (p := 93) rfl ?_); (try (rw [drewN_self w46]; generalize hq_ : World.drewN w46 _ = w46; replace HO_6 := a_ (Kd.R_at hq_ HO_6.out); replace HO_7 := a_ (Kd.R_at hq_ HO_7.out); replace HO_8 := a_ (Kd.R_at hq_ HO_8.out); replace HB := a_ (below_at hq_ HB.out); clear hq_; (try (have n_ := a_ (rm_ (ok' := (fun a => (w.heap.size ≤ a) ∧ some a ≠ (.slice (some ⟨go37, 0, none⟩) g.length o : Value).ownBlock ∧ some a ≠ (.slice (some ⟨go40, 0, none⟩) m.length G : Value).ownBlock)) HO_8.out (fun a hk => ⟨hk.1.1, ⟨hk.1.2, hk.2⟩⟩)); clear HO_8; have HO_8 := n_; clear n_)); (try (obtain ⟨bB, hz47_⟩ := Kd.R_celln false HO_8.out (c : Int) (dq_) (dq_))); (try (have HP47 := Kd.R_putg HO_8.out (c : Int) true)))); refine store_event (t := 4) (p := 93) (v := ?vo_w48) (w1 := (w46.setCell ⟨go42, (c : Int).toNat, none⟩ (.bool true))) ?hg ?ho ?hn ?hr ?_; (case ho => rfl); (case hg => rfl); (case hn => rfl); (case hr => first | (go_simp; done) | (go_simp; rfl)); intro w48 hw; have hg : w46.grownBy w48 (some go42) := (by rw [hw]; exact HP47.2); have hp_ : Kd.R Kd.bool 4 w48 w.heap.size (fun a => (w.heap.size ≤ a) ∧ some a ≠ (.slice (some ⟨go37, 0, none⟩) g.length o : Value).ownBlock ∧ some a ≠ (.slice (some ⟨go40, 0, none⟩) m.length G : Value).ownBlock) (.slice (some ⟨go42, 0, none⟩) z.length ag) bZ := (by rw [hw, cn.out]; exact HP47.1); clear HP47; replace HO_6 := a_ (Kd.R_after (v := (.slice (some ⟨go42, 0, none⟩) z.length ag)) (v1 := (.slice (some ⟨go42, 0, none⟩) z.length ag)) (ok := (fun a => (w.heap.size ≤ a) ∧ some a ≠ (.slice (some ⟨go40, 0, none⟩) m.length G : Value).ownBlock)) (by refine vR_ ?_; exact rm_ HO_6.out (fun _ hk => ⟨⟨hk.1.1, hk.2⟩, hk.1.2⟩)) hg (.inl rfl)); replace HO_7 := a_ (Kd.R_after (v := (.slice (some ⟨go42, 0, none⟩) z.length ag)) (v1 := (.slice (some ⟨go42, 0, none⟩) z.length ag)) (ok := (fun a => (w.heap.size ≤ a) ∧ some a ≠ (.slice (some ⟨go37, 0, none⟩) g.length o : Value).ownBlock)) (by refine vR_ ?_; exact rm_ HO_7.out (fun _ hk => ⟨⟨hk.1, hk.2.1⟩, hk.2.2⟩)) hg (.inl rfl)); replace HO_8 := a_ (hp_); replace HB := a_ ((by rw [hw]; exact below_set (HB.out) GB42.out : Below w.heap.size w w48)); clear hg hw hp_))
                                    repeat (go_quiet (first | ((with_reducible refine gate_store (t := 4) (p := 87) rfl ?_); (try (rw [drewN_self wc]; generalize hq_ : World.drewN wc _ = wc; replace HO_6 := a_ (Kd.R_at hq_ HO_6.out); replace HO_7 := a_ (Kd.R_at hq_ HO_7.out); replace HO_8 := a_ (Kd.R_at hq_ HO_8.out); replace HB := a_ (below_at hq_ HB.out); clear hq_; (try (have HP43 := Kd.R_putg HO_6.out (l : Int) true)))); refine store_event (t := 4) (p := 87) (v := ?vo_w44) (w1 := (wc.setCell ⟨go37, (l : Int).toNat, none⟩ (.bool true))) ?hg ?ho ?hn ?hr ?_; (case ho => rfl); (case hg => rfl); (case hn => rfl); (case hr => first | (go_simp; done) | (go_simp; rfl)); intro w44 hw; have hg : wc.grownBy w44 (some go37) := (by rw [hw]; exact HP43.2); have hp_ : Kd.R Kd.bool 4 w44 w.heap.size (fun a => (w.heap.size ≤ a) ∧ some a ≠ (aa : Value).ownBlock ∧ some a ≠ (A : Value).ownBlock) (.slice (some ⟨go37, 0, none⟩) g.length o) bl := (by rw [hw, cl.out]; exact HP43.1); clear HP43; replace HO_6 := a_ (hp_); replace HO_7 := a_ (Kd.R_after (v := (.slice (some ⟨go37, 0, none⟩) g.length o)) (v1 := (.slice (some ⟨go37, 0, none⟩) g.length o)) (ok := (fun a => (w.heap.size ≤ a) ∧ some a ≠ (A : Value).ownBlock)) (by refine vR_ ?_; exact rm_ HO_7.out (fun _ hk => ⟨⟨hk.1, hk.2.2⟩, hk.2.1⟩)) hg (.inl rfl)); replace HO_8 := a_ (Kd.R_after (v := (.slice (some ⟨go37, 0, none⟩) g.length o)) (v1 := (.slice (some ⟨go37, 0, none⟩) g.length o)) (ok := (fun a => (w.heap.size ≤ a) ∧ some a ≠ (aa : Value).ownBlock)) (by refine vR_ ?_; exact rm_ HO_8.out (fun _ hk => ⟨⟨hk.1, hk.2.2⟩, hk.2.1⟩)) hg (.inl rfl)); replace HB := a_ ((by rw [hw]; exact below_set (HB.out) GB37.out : Below w.heap.size w w44)); clear hg hw hp_; have p40 : 0 ≤ (d : Int) := dq_; have aX : (d : Int) < ((m.length : Int) : Int) := dq_; obtain ⟨go40, G, aY, aZ, gl40, cl40, HG40⟩ := Kd.R_form HO_7.out (by omega); (first | cases aY | (injection aY with ea_ en_ ec_; (first | subst ea_ | (injection ea_ with ea_; subst ea_)); subst ec_; clear en_)); have GB40 := a_ aZ; have GG40 := a_ HG40; clear aZ gl40 HG40; obtain ⟨ct, hf40_0⟩ := Kd.R_celln false HO_7.out (d : Int) p40 aX; replace p40 := et_ p40; replace aX := et_ aX; have n_ := a_ (rm_ (ok' := (fun a => (w.heap.size ≤ a) ∧ some a ≠ (.slice (some ⟨go37, 0, none⟩) g.length o : Value).ownBlock ∧ some a ≠ (A : Value).ownBlock)) HO_7.out (fun a hk => ⟨hk.1.1, ⟨hk.2, hk.1.2⟩⟩)); clear HO_7; have HO_7 := n_; clear n_; obtain ⟨bA, hz45_⟩ := Kd.R_celln false HO_7.out (d : Int) (dq_) (dq_); have HP45 := Kd.R_putg HO_7.out (d : Int) true) | ((with_reducible refine gate_store (t := 4) (p := 90) rfl ?_); (try (rw [drewN_self w44]; generalize hq_ : World.drewN w44 _ = w44; replace HO_6 := a_ (Kd.R_at hq_ HO_6.out); replace HO_7 := a_ (Kd.R_at hq_ HO_7.out); replace HO_8 := a_ (Kd.R_at hq_ HO_8.out); replace HB := a_ (below_at hq_ HB.out); clear hq_; (try (have n_ := a_ (rm_ (ok' := (fun a => (w.heap.size ≤ a) ∧ some a ≠ (.slice (some ⟨go37, 0, none⟩) g.length o : Value).ownBlock ∧ some a ≠ (A : Value).ownBlock)) HO_7.out (fun a hk => ⟨hk.1.1, ⟨hk.2, hk.1.2⟩⟩)); clear HO_7; have HO_7 := n_; clear n_)); (try (obtain ⟨bA, hz45_⟩ := Kd.R_celln false HO_7.out (d : Int) (dq_) (dq_))); (try (have HP45 := Kd.R_putg HO_7.out (d : Int) true)))); refine store_event (t := 4) (p := 90) (v := ?vo_w46) (w1 := (w44.setCell ⟨go40, (d : Int).toNat, none⟩ (.bool true))) ?hg ?ho ?hn ?hr ?_; (case ho => rfl); (case hg => rfl); (case hn => rfl); (case hr => first | (go_simp; done) | (go_simp; rfl)); intro w46 hw; have hg : w44.grownBy w46 (some go40) := (by rw [hw]; exact HP45.2); have hp_ : Kd.R Kd.bool 4 w46 w.heap.size (fun a => (w.heap.size ≤ a) ∧ some a ≠ (.slice (some ⟨go37, 0, none⟩) g.length o : Value).ownBlock ∧ some a ≠ (A : Value).ownBlock) (.slice (some ⟨go40, 0, none⟩) m.length G) bI := (by rw [hw, cm.out]; exact HP45.1); clear HP45; replace HO_6 := a_ (Kd.R_after (v := (.slice (some ⟨go40, 0, none⟩) m.length G)) (v1 := (.slice (some ⟨go40, 0, none⟩) m.length G)) (ok := (fun a => (w.heap.size ≤ a) ∧ some a ≠ (A : Value).ownBlock)) (by refine vR_ ?_; exact rm_ HO_6.out (fun _ hk => ⟨⟨hk.1, hk.2.2⟩, hk.2.1⟩)) hg (.inl rfl)); replace HO_7 := a_ (hp_); replace HO_8 := a_ (Kd.R_after (v := (.slice (some ⟨go40, 0, none⟩) m.length G)) (v1 := (.slice (some ⟨go40, 0, none⟩) m.length G)) (ok := (fun a => (w.heap.size ≤ a) ∧ some a ≠ (.slice (some ⟨go37, 0, none⟩) g.length o : Value).ownBlock)) (by refine vR_ ?_; exact rm_ HO_8.out (fun _ hk => ⟨⟨hk.1.1, hk.2⟩, hk.1.2⟩)) hg (.inl rfl)); replace HB := a_ ((by rw [hw]; exact below_set (HB.out) GB40.out : Below w.heap.size w w46)); clear hg hw hp_; have p42 : 0 ≤ (c : Int) := dq_; have a1 : (c : Int) < ((z.length : Int) : Int) := dq_; obtain ⟨go42, ag, a2, a3, gl42, cl42, HG42⟩ := Kd.R_form HO_8.out (by omega); (first | cases a2 | (injection a2 with ea_ en_ ec_; (first | subst ea_ | (injection ea_ with ea_; subst ea_)); subst ec_; clear en_)); have GB42 := a_ a3; have GG42 := a_ HG42; clear a3 gl42 HG42; obtain ⟨cu, hf42_0⟩ := Kd.R_celln false HO_8.out (c : Int) p42 a1; replace p42 := et_ p42; replace a1 := et_ a1; have n_ := a_ (rm_ (ok' := (fun a => (w.heap.size ≤ a) ∧ some a ≠ (.slice (some ⟨go37, 0, none⟩) g.length o : Value).ownBlock ∧ some a ≠ (.slice (some ⟨go40, 0, none⟩) m.length G : Value).ownBlock)) HO_8.out (fun a hk => ⟨hk.1.1, ⟨hk.1.2, hk.2⟩⟩)); clear HO_8; have HO_8 := n_; clear n_; obtain ⟨bB, hz47_⟩ := Kd.R_celln false HO_8.out (c : Int) (dq_) (dq_); have HP47 := Kd.R_putg HO_8.out (c : Int) true) | ((with_reducible refine gate_store (t := 4) (p := 93) rfl ?_); (try (rw [drewN_self w46]; generalize hq_ : World.drewN w46 _ = w46; replace HO_6 := a_ (Kd.R_at hq_ HO_6.out); replace HO_7 := a_ (Kd.R_at hq_ HO_7.out); replace HO_8 := a_ (Kd.R_at hq_ HO_8.out); replace HB := a_ (below_at hq_ HB.out); clear hq_; (try (have n_ := a_ (rm_ (ok' := (fun a => (w.heap.size ≤ a) ∧ some a ≠ (.slice (some ⟨go37, 0, none⟩) g.length o : Value).ownBlock ∧ some a ≠ (.slice (some ⟨go40, 0, none⟩) m.length G : Value).ownBlock)) HO_8.out (fun a hk => ⟨hk.1.1, ⟨hk.1.2, hk.2⟩⟩)); clear HO_8; have HO_8 := n_; clear n_)); (try (obtain ⟨bB, hz47_⟩ := Kd.R_celln false HO_8.out (c : Int) (dq_) (dq_))); (try (have HP47 := Kd.R_putg HO_8.out (c : Int) true)))); refine store_event (t := 4) (p := 93) (v := ?vo_w48) (w1 := (w46.setCell ⟨go42, (c : Int).toNat, none⟩ (.bool true))) ?hg ?ho ?hn ?hr ?_; (case ho => rfl); (case hg => rfl); (case hn => rfl); (case hr => first | (go_simp; done) | (go_simp; rfl)); intro w48 hw; have hg : w46.grownBy w48 (some go42) := (by rw [hw]; exact HP47.2); have hp_ : Kd.R Kd.bool 4 w48 w.heap.size (fun a => (w.heap.size ≤ a) ∧ some a ≠ (.slice (some ⟨go37, 0, none⟩) g.length o : Value).ownBlock ∧ some a ≠ (.slice (some ⟨go40, 0, none⟩) m.length G : Value).ownBlock) (.slice (some ⟨go42, 0, none⟩) z.length ag) bZ := (by rw [hw, cn.out]; exact HP47.1); clear HP47; replace HO_6 := a_ (Kd.R_after (v := (.slice (some ⟨go42, 0, none⟩) z.length ag)) (v1 := (.slice (some ⟨go42, 0, none⟩) z.length ag)) (ok := (fun a => (w.heap.size ≤ a) ∧ some a ≠ (.slice (some ⟨go40, 0, none⟩) m.length G : Value).ownBlock)) (by refine vR_ ?_; exact rm_ HO_6.out (fun _ hk => ⟨⟨hk.1.1, hk.2⟩, hk.1.2⟩)) hg (.inl rfl)); replace HO_7 := a_ (Kd.R_after (v := (.slice (some ⟨go42, 0, none⟩) z.length ag)) (v1 := (.slice (some ⟨go42, 0, none⟩) z.length ag)) (ok := (fun a => (w.heap.size ≤ a) ∧ some a ≠ (.slice (some ⟨go37, 0, none⟩) g.length o : Value).ownBlock)) (by refine vR_ ?_; exact rm_ HO_7.out (fun _ hk => ⟨⟨hk.1, hk.2.1⟩, hk.2.2⟩)) hg (.inl rfl)); replace HO_8 := a_ (hp_); replace HB := a_ ((by rw [hw]; exact below_set (HB.out) GB42.out : Below w.heap.size w w48)); clear hg hw hp_)); try go_wp2_with (first | ((with_reducible refine gate_store (t := 4) (p := 87) rfl ?_); (try (rw [drewN_self wc]; generalize hq_ : World.drewN wc _ = wc; replace HO_6 := a_ (Kd.R_at hq_ HO_6.out); replace HO_7 := a_ (Kd.R_at hq_ HO_7.out); replace HO_8 := a_ (Kd.R_at hq_ HO_8.out); replace HB := a_ (below_at hq_ HB.out); clear hq_; (try (have HP43 := Kd.R_putg HO_6.out (l : Int) true)))); refine store_event (t := 4) (p := 87) (v := ?vo_w44) (w1 := (wc.setCell ⟨go37, (l : Int).toNat, none⟩ (.bool true))) ?hg ?ho ?hn ?hr ?_; (case ho => rfl); (case hg => rfl); (case hn => rfl); (case hr => first | (go_simp; done) | (go_simp; rfl)); intro w44 hw; have hg : wc.grownBy w44 (some go37) := (by rw [hw]; exact HP43.2); have hp_ : Kd.R Kd.bool 4 w44 w.heap.size (fun a => (w.heap.size ≤ a) ∧ some a ≠ (aa : Value).ownBlock ∧ some a ≠ (A : Value).ownBlock) (.slice (some ⟨go37, 0, none⟩) g.length o) bl := (by rw [hw, cl.out]; exact HP43.1); clear HP43; replace HO_6 := a_ (hp_); replace HO_7 := a_ (Kd.R_after (v := (.slice (some ⟨go37, 0, none⟩) g.length o)) (v1 := (.slice (some ⟨go37, 0, none⟩) g.length o)) (ok := (fun a => (w.heap.size ≤ a) ∧ some a ≠ (A : Value).ownBlock)) (by refine vR_ ?_; exact rm_ HO_7.out (fun _ hk => ⟨⟨hk.1, hk.2.2⟩, hk.2.1⟩)) hg (.inl rfl)); replace HO_8 := a_ (Kd.R_after (v := (.slice (some ⟨go37, 0, none⟩) g.length o)) (v1 := (.slice (some ⟨go37, 0, none⟩) g.length o)) (ok := (fun a => (w.heap.size ≤ a) ∧ some a ≠ (aa : Value).ownBlock)) (by refine vR_ ?_; exact rm_ HO_8.out (fun _ hk => ⟨⟨hk.1, hk.2.2⟩, hk.2.1⟩)) hg (.inl rfl)); replace HB := a_ ((by rw [hw]; exact below_set (HB.out) GB37.out : Below w.heap.size w w44)); clear hg hw hp_; have p40 : 0 ≤ (d : Int) := dq_; have aX : (d : Int) < ((m.length : Int) : Int) := dq_; obtain ⟨go40, G, aY, aZ, gl40, cl40, HG40⟩ := Kd.R_form HO_7.out (by omega); (first | cases aY | (injection aY with ea_ en_ ec_; (first | subst ea_ | (injection ea_ with ea_; subst ea_)); subst ec_; clear en_)); have GB40 := a_ aZ; have GG40 := a_ HG40; clear aZ gl40 HG40; obtain ⟨ct, hf40_0⟩ := Kd.R_celln false HO_7.out (d : Int) p40 aX; replace p40 := et_ p40; replace aX := et_ aX; have n_ := a_ (rm_ (ok' := (fun a => (w.heap.size ≤ a) ∧ some a ≠ (.slice (some ⟨go37, 0, none⟩) g.length o : Value).ownBlock ∧ some a ≠ (A : Value).ownBlock)) HO_7.out (fun a hk => ⟨hk.1.1, ⟨hk.2, hk.1.2⟩⟩)); clear HO_7; have HO_7 := n_; clear n_; obtain ⟨bA, hz45_⟩ := Kd.R_celln false HO_7.out (d : Int) (dq_) (dq_); have HP45 := Kd.R_putg HO_7.out (d : Int) true) | ((with_reducible refine gate_store (t := 4) (p := 90) rfl ?_); (try (rw [drewN_self w44]; generalize hq_ : World.drewN w44 _ = w44; replace HO_6 := a_ (Kd.R_at hq_ HO_6.out); replace HO_7 := a_ (Kd.R_at hq_ HO_7.out); replace HO_8 := a_ (Kd.R_at hq_ HO_8.out); replace HB := a_ (below_at hq_ HB.out); clear hq_; (try (have n_ := a_ (rm_ (ok' := (fun a => (w.heap.size ≤ a) ∧ some a ≠ (.slice (some ⟨go37, 0, none⟩) g.length o : Value).ownBlock ∧ some a ≠ (A : Value).ownBlock)) HO_7.out (fun a hk => ⟨hk.1.1, ⟨hk.2, hk.1.2⟩⟩)); clear HO_7; have HO_7 := n_; clear n_)); (try (obtain ⟨bA, hz45_⟩ := Kd.R_celln false HO_7.out (d : Int) (dq_) (dq_))); (try (have HP45 := Kd.R_putg HO_7.out (d : Int) true)))); refine store_event (t := 4) (p := 90) (v := ?vo_w46) (w1 := (w44.setCell ⟨go40, (d : Int).toNat, none⟩ (.bool true))) ?hg ?ho ?hn ?hr ?_; (case ho => rfl); (case hg => rfl); (case hn => rfl); (case hr => first | (go_simp; done) | (go_simp; rfl)); intro w46 hw; have hg : w44.grownBy w46 (some go40) := (by rw [hw]; exact HP45.2); have hp_ : Kd.R Kd.bool 4 w46 w.heap.size (fun a => (w.heap.size ≤ a) ∧ some a ≠ (.slice (some ⟨go37, 0, none⟩) g.length o : Value).ownBlock ∧ some a ≠ (A : Value).ownBlock) (.slice (some ⟨go40, 0, none⟩) m.length G) bI := (by rw [hw, cm.out]; exact HP45.1); clear HP45; replace HO_6 := a_ (Kd.R_after (v := (.slice (some ⟨go40, 0, none⟩) m.length G)) (v1 := (.slice (some ⟨go40, 0, none⟩) m.length G)) (ok := (fun a => (w.heap.size ≤ a) ∧ some a ≠ (A : Value).ownBlock)) (by refine vR_ ?_; exact rm_ HO_6.out (fun _ hk => ⟨⟨hk.1, hk.2.2⟩, hk.2.1⟩)) hg (.inl rfl)); replace HO_7 := a_ (hp_); replace HO_8 := a_ (Kd.R_after (v := (.slice (some ⟨go40, 0, none⟩) m.length G)) (v1 := (.slice (some ⟨go40, 0, none⟩) m.length G)) (ok := (fun a => (w.heap.size ≤ a) ∧ some a ≠ (.slice (some ⟨go37, 0, none⟩) g.length o : Value).ownBlock)) (by refine vR_ ?_; exact rm_ HO_8.out (fun _ hk => ⟨⟨hk.1.1, hk.2⟩, hk.1.2⟩)) hg (.inl rfl)); replace HB := a_ ((by rw [hw]; exact below_set (HB.out) GB40.out : Below w.heap.size w w46)); clear hg hw hp_; have p42 : 0 ≤ (c : Int) := dq_; have a1 : (c : Int) < ((z.length : Int) : Int) := dq_; obtain ⟨go42, ag, a2, a3, gl42, cl42, HG42⟩ := Kd.R_form HO_8.out (by omega); (first | cases a2 | (injection a2 with ea_ en_ ec_; (first | subst ea_ | (injection ea_ with ea_; subst ea_)); subst ec_; clear en_)); have GB42 := a_ a3; have GG42 := a_ HG42; clear a3 gl42 HG42; obtain ⟨cu, hf42_0⟩ := Kd.R_celln false HO_8.out (c : Int) p42 a1; replace p42 := et_ p42; replace a1 := et_ a1; have n_ := a_ (rm_ (ok' := (fun a => (w.heap.size ≤ a) ∧ some a ≠ (.slice (some ⟨go37, 0, none⟩) g.length o : Value).ownBlock ∧ some a ≠ (.slice (some ⟨go40, 0, none⟩) m.length G : Value).ownBlock)) HO_8.out (fun a hk => ⟨hk.1.1, ⟨hk.1.2, hk.2⟩⟩)); clear HO_8; have HO_8 := n_; clear n_; obtain ⟨bB, hz47_⟩ := Kd.R_celln false HO_8.out (c : Int) (dq_) (dq_); have HP47 := Kd.R_putg HO_8.out (c : Int) true) | ((with_reducible refine gate_store (t := 4) (p := 93) rfl ?_); (try (rw [drewN_self w46]; generalize hq_ : World.drewN w46 _ = w46; replace HO_6 := a_ (Kd.R_at hq_ HO_6.out); replace HO_7 := a_ (Kd.R_at hq_ HO_7.out); replace HO_8 := a_ (Kd.R_at hq_ HO_8.out); replace HB := a_ (below_at hq_ HB.out); clear hq_; (try (have n_ := a_ (rm_ (ok' := (fun a => (w.heap.size ≤ a) ∧ some a ≠ (.slice (some ⟨go37, 0, none⟩) g.length o : Value).ownBlock ∧ some a ≠ (.slice (some ⟨go40, 0, none⟩) m.length G : Value).ownBlock)) HO_8.out (fun a hk => ⟨hk.1.1, ⟨hk.1.2, hk.2⟩⟩)); clear HO_8; have HO_8 := n_; clear n_)); (try (obtain ⟨bB, hz47_⟩ := Kd.R_celln false HO_8.out (c : Int) (dq_) (dq_))); (try (have HP47 := Kd.R_putg HO_8.out (c : Int) true)))); refine store_event (t := 4) (p := 93) (v := ?vo_w48) (w1 := (w46.setCell ⟨go42, (c : Int).toNat, none⟩ (.bool true))) ?hg ?ho ?hn ?hr ?_; (case ho => rfl); (case hg => rfl); (case hn => rfl); (case hr => first | (go_simp; done) | (go_simp; rfl)); intro w48 hw; have hg : w46.grownBy w48 (some go42) := (by rw [hw]; exact HP47.2); have hp_ : Kd.R Kd.bool 4 w48 w.heap.size (fun a => (w.heap.size ≤ a) ∧ some a ≠ (.slice (some ⟨go37, 0, none⟩) g.length o : Value).ownBlock ∧ some a ≠ (.slice (some ⟨go40, 0, none⟩) m.length G : Value).ownBlock) (.slice (some ⟨go42, 0, none⟩) z.length ag) bZ := (by rw [hw, cn.out]; exact HP47.1); clear HP47; replace HO_6 := a_ (Kd.R_after (v := (.slice (some ⟨go42, 0, none⟩) z.length ag)) (v1 := (.slice (some ⟨go42, 0, none⟩) z.length ag)) (ok := (fun a => (w.heap.size ≤ a) ∧ some a ≠ (.slice (some ⟨go40, 0, none⟩) m.length G : Value).ownBlock)) (by refine vR_ ?_; exact rm_ HO_6.out (fun _ hk => ⟨⟨hk.1.1, hk.2⟩, hk.1.2⟩)) hg (.inl rfl)); replace HO_7 := a_ (Kd.R_after (v := (.slice (some ⟨go42, 0, none⟩) z.length ag)) (v1 := (.slice (some ⟨go42, 0, none⟩) z.length ag)) (ok := (fun a => (w.heap.size ≤ a) ∧ some a ≠ (.slice (some ⟨go37, 0, none⟩) g.length o : Value).ownBlock)) (by refine vR_ ?_; exact rm_ HO_7.out (fun _ hk => ⟨⟨hk.1, hk.2.1⟩, hk.2.2⟩)) hg (.inl rfl)); replace HO_8 := a_ (hp_); replace HB := a_ ((by rw [hw]; exact below_set (HB.out) GB42.out : Below w.heap.size w w48)); clear hg hw hp_)))
                                    go_roundg kj26
                                    case measure => have := bf.out; have := bg.out; have := bM.out; have := bH.out; omega
                                    case rel => exact ⟨(bl), (bI), (bZ), (true), (wrap64 (c + 1)), eq_, eq_, H', ⟨by have := bf.out; have := bg.out; have := bM.out; have := bH.out; omega⟩, ⟨by refine vR_ ?_; exact rm_ HO_6.out (fun _ hk => ⟨hk.1.1, ⟨hk.1.2, hk.2⟩⟩)⟩, ⟨by refine vR_ ?_; exact rm_ HO_7.out (fun _ hk => ⟨hk.1.1, ⟨hk.1.2, hk.2⟩⟩)⟩, ⟨vR_ HO_8.out⟩, ⟨bel_⟩⟩
                                   ·
                                    rw [ig_ c41] at H
                                    exact absurd H (by simp)
                                  ·
                                   rw [ig_ c39] at H
                                   exact absurd H (by simp)
                                 ·
                                  rw [ig_ c38] at H
                                  exact absurd H (by simp)
                                ·
                                 rw [ig_ c36] at H
                                 exact absurd H (by simp)
                               ·
                                rw [ig_ c35] at H
                                exact absurd H (by simp)
                              ·
                               rw [ig_ c34] at H
                               have c34b0 : ((rd (rd_L7 b 2) c) == aA) = false := be_.mpr c34
                               have c34b1 : ((rd (rd_L7 b 2) c) != aA) = true := ni_.mpr c34
                               have H' := a_ H
                               clear H
                               have p474 : 0 ≤ (2 : Int) := (by omega)
                               have bm : 2 < (b.length : Int) := dq_
                               obtain ⟨co, cY, c474_0, cB, ac, aO, aP⟩ := at_L7 ad.out 2 p474 bm
                               obtain rfl : F = co := (by injection cB)
                               (try simp only [show (2 : Int).toNat = 2 from rfl, Nat.reduceMul, Nat.reduceEqDiff, Go.Addr.add, ↓reduceIte] at ac)
                               have dm : (2 < b.length) = True := et_ (by omega)
                               (try rw [show ((2 : Int)).toNat = 2 from rfl] at ac)
                               replace ac := (HB.out.cell (wl_ w _ ac)).trans ac
                               have bJ := a_ aP
                               have cP := a_ aO
                               clear aP aO
                               replace p474 := et_ p474
                               replace bm := et_ bm
                               have p475 : 0 ≤ (c : Int) := dq_
                               have bn : c < ((rd_L7 b 2).length : Int) := dq_
                               obtain ⟨dn, cC, aC⟩ := ai_ bJ.out c p475 bn
                               cases cC
                               replace aC := (HB.out.cell (wl_ w _ aC)).trans aC
                               replace p475 := et_ p475
                               replace bn := et_ bn
                               go_wp2
                               repeat (go_quiet (fail); try go_wp2)
                               go_roundg kj26
                               case measure => have := bf.out; have := bg.out; have := bM.out; have := bH.out; omega
                               case rel => exact ⟨(g), (m), (z), (bk), (wrap64 (c + 1)), eq_, eq_, H', ⟨by have := bf.out; have := bg.out; have := bM.out; have := bH.out; omega⟩, ⟨vR_ HO_6.out⟩, ⟨vR_ HO_7.out⟩, ⟨vR_ HO_8.out⟩, ⟨bel_⟩⟩
                             ·
                              rw [ig_ c33] at H
                              exact absurd H (by simp)
                            ·
                             rw [ig_ c32] at H
                             exact absurd H (by simp)
                           ·
                            rw [ig_ c31] at H
                            exact absurd H (by simp)
                          ·
                           replace c30 := bf_.mpr c30
                           subst c30
                           have H1 : (jigsawref11_Pairs.l1 kj26 a0 b g m z bk l (wrap64 (d + 1))) = some (r1, r2) := by rw [ig_ (show ¬ (false = true) by decide)] at H; exact H
                           clear H
                           have H := H1
                           clear H1
                           have H' := a_ H
                           clear H
                           go_wp2
                           repeat (go_quiet (fail); try go_wp2)
                           go_roundg kj26
                           case measure => have := bf.out; have := bg.out; have := bM.out; have := bH.out; omega
                           case rel => exact ⟨(g), (m), (z), (bk), (wrap64 (d + 1)), eq_, eq_, H', ⟨by have := bf.out; have := bg.out; have := bM.out; have := bH.out; omega⟩, ⟨vR_ HO_6.out⟩, ⟨vR_ HO_7.out⟩, ⟨vR_ HO_8.out⟩, ⟨bel_⟩⟩
                     ·
                      rw [ig_ c25] at H
                      exact absurd H (by simp)
                    ·
                     rw [ig_ c24] at H
                     exact absurd H (by simp)
                   ·
                    rw [ig_ c23] at H
                    exact absurd H (by simp)
                  ·
                   rw [ig_ c22] at H
                   exact absurd H (by simp)
                 ·
                  rw [ig_ c21] at H
                  have c21b0 : decide (d < ((rd_L7 b 1).length : Int)) = false := df_ c21
                  clear c21
                  have H' := a_ H
                  clear H
                  have p466 : 0 ≤ (1 : Int) := (by omega)
                  have aV : 1 < (b.length : Int) := dq_
                  obtain ⟨cj, cW, c466_0, cy, X, aK, bF⟩ := at_L7 ad.out 1 p466 aV
                  obtain rfl : F = cj := (by injection cy)
                  (try simp only [show (1 : Int).toNat = 1 from rfl, Nat.reduceMul, Nat.reduceEqDiff, Go.Addr.add, ↓reduceIte] at X)
                  have di : (1 < b.length) = True := et_ (by omega)
                  (try rw [show ((1 : Int)).toNat = 1 from rfl] at X)
                  replace X := (HB.out.cell (wl_ w _ X)).trans X
                  have cL := a_ aK
                  clear bF aK
                  replace p466 := et_ p466
                  replace aV := et_ aV
                  go_wp2
                  repeat (go_quiet (fail); try go_wp2)
                  go_roundg k2
                  case measure => have := bf.out; have := bg.out; omega
                  case rel => exact ⟨(bR), (bS), (bT), (bU), (wrap64 (l + 1)), eq_, eq_, H', ⟨by have := bf.out; have := bg.out; omega⟩, ⟨vR_ HO_6.out⟩, ⟨vR_ HO_7.out⟩, ⟨vR_ HO_8.out⟩, ⟨bel_⟩⟩
                ·
                 rw [ig_ c20] at H
                 exact absurd H (by simp)
             ·
              rw [ig_ c19] at H
              have c19b0 : decide (l < ((rd_L7 b 0).length : Int)) = false := df_ c19
              clear c19
              by_cases c49 : bP = true
              ·
               subst c49
               rw [ip_ rfl] at H
               replace H := bo_ H
               obtain ⟨ai, db, H⟩ := H
               try dsimp only at H
               by_cases c51 : 1 < (b.length : Int)
               ·
                rw [ip_ c51] at H
                have c51b0 : decide (1 < (b.length : Int)) = true := dt_ c51
                have c51b1 : decide (1 < b.length) = true := dt_ (by omega)
                clear c51
                replace H := bo_ H
                obtain ⟨aj, dc, H⟩ := H
                try dsimp only at H
                by_cases c53 : 2 < (b.length : Int)
                ·
                 rw [ip_ c53] at H
                 have c53b0 : decide (2 < (b.length : Int)) = true := dt_ c53
                 have c53b1 : decide (2 < b.length) = true := dt_ (by omega)
                 clear c53
                 replace H := bo_ H
                 obtain ⟨ak, dd, H⟩ := H
                 try dsimp only at H
                 obtain ⟨dy, bC⟩ : ∃ y_ : List (List Int), y_ = (([ai, aj, ak] : List (List Int))) := ⟨_, rfl⟩
                 replace H : (some (dy, true)) = some (r1, r2) := by first | (rw [bC]; with_reducible exact H) | (have H2_ := (ob_ _ _).symm.trans H; rw [bC]; with_reducible exact H2_) | (have H2_ := (ob_ _ _).symm.trans H; with_reducible exact H2_) | with_reducible exact H | (rw [bC]; exact H) | exact H
                 have bd := a_ bC
                 clear bC
                 simp only [Option.some.injEq, Prod.mk.injEq] at H
                 obtain ⟨rfl, rfl⟩ := H
                 have p465 : 0 ≤ (0 : Int) := (by omega)
                 have az : 0 < (b.length : Int) := dq_
                 obtain ⟨bu, cs, c465_0, bQ, s, aq, aJ⟩ := at_L7 ad.out 0 p465 az
                 obtain rfl : F = bu := (by injection bQ)
                 have cG : (0 < b.length) = True := et_ (by omega)
                 (try rw [show ((0 : Int)).toNat = 0 from rfl] at s)
                 (try rw [Addr.add_zero'] at s)
                 replace s := (HB.out.cell (wl_ w _ s)).trans s
                 have ca := a_ aq
                 clear aJ aq
                 replace p465 := et_ p465
                 replace az := et_ az
                 have p479 : 0 ≤ (0 : Int) := (by omega)
                 have cD : 0 < (b.length : Int) := dq_
                 obtain ⟨dp, dN, c479_0, dz, aE, cf, cg⟩ := at_L7 ad.out 0 p479 cD
                 obtain rfl : F = dp := (by injection dz)
                 have dT : (0 < b.length) = True := et_ (by omega)
                 (try rw [show ((0 : Int)).toNat = 0 from rfl] at aE)
                 (try rw [Addr.add_zero'] at aE)
                 replace aE := (HB.out.cell (wl_ w _ aE)).trans aE
                 have bK := a_ cg
                 have bL := a_ cf
                 clear cg cf
                 replace p479 := et_ p479
                 replace cD := et_ cD
                 have ea_ := si_ (s.symm.trans aE)
                 injection ea_ with ea_ en_ ec_
                 subst ea_
                 subst ec_
                 clear en_
                 obtain ⟨Q, U, dA⟩ := Kd.R_slice HO_6.out
                 subst dA
                 go_wp2_with (first | (go_at_call 77; (with_reducible refine (jigsawref11_Those.calls k1 _ _ (rd_L7 b 0) _ _ u ai _ ?_ ?_ ?_ ?_ db.out).mono ?_); exact ca_ ((cb_ bK.out HB.out)); exact bL.out; exact ca_ ((rr_ HO_6.out).2.2); exact (rr_ HO_6.out).2.1; rintro e w56 ⟨de, rfl, W, hb⟩; replace HO_6 := a_ (rb_ (vR_ HO_6.out) hb); replace HO_7 := a_ (rb_ (vR_ HO_7.out) hb); replace HO_8 := a_ (rb_ (vR_ HO_8.out) hb); have n := a_ (Kd.R_lower (Kd.R_newM (M := fun a => (w.heap.size ≤ a)) W (bz_ bel_) (fun a h_ => h_)) (bz_ bel_)); replace HB := hq_ hb; clear hb W; have p483 : 0 ≤ (1 : Int) := (by omega); have aF : 1 < (b.length : Int) := dq_; obtain ⟨bD, cv, c483_0, b0, B, au, av⟩ := at_L7 ad.out 1 p483 aF; obtain rfl : F = bD := (by injection b0); (try simp only [show (1 : Int).toNat = 1 from rfl, Nat.reduceMul, Nat.reduceEqDiff, Go.Addr.add, ↓reduceIte] at B); have cH : (1 < b.length) = True := et_ (by omega); (try rw [show ((1 : Int)).toNat = 1 from rfl] at B); replace B := (HB.out.cell (wl_ w _ B)).trans B; have aQ := a_ av; have aR := a_ au; clear av au; replace p483 := et_ p483; replace aF := et_ aF; obtain ⟨I, J, b1⟩ := Kd.R_slice HO_7.out; subst b1) | (go_at_call 77; (with_reducible refine (jigsawref11_Those.calls k1 _ _ (rd_L7 b 1) _ _ x aj _ ?_ ?_ ?_ ?_ dc.out).mono ?_); exact ca_ ((cb_ aQ.out HB.out)); exact aR.out; exact ca_ ((rr_ HO_7.out).2.2); exact (rr_ HO_7.out).2.1; rintro e w58 ⟨df, rfl, W, hb⟩; replace HO_6 := a_ (rb_ (vR_ HO_6.out) hb); replace HO_7 := a_ (rb_ (vR_ HO_7.out) hb); replace HO_8 := a_ (rb_ (vR_ HO_8.out) hb); have K := a_ (Kd.R_lower (Kd.R_new' (Kd.R_newM (M := fun a => (w.heap.size ≤ a)) W (bz_ bel_) (fun a h_ => h_)) (rl_ (vR_ n.out))) (bz_ bel_)); replace n := a_ (Kd.R_elder' (vR_ n.out) (rs_ W) hb); replace HB := hq_ hb; clear hb W; have p487 : 0 ≤ (2 : Int) := (by omega); have aG : 2 < (b.length : Int) := dq_; obtain ⟨bE, cw, c487_0, b2, E, aw, ax⟩ := at_L7 ad.out 2 p487 aG; obtain rfl : F = bE := (by injection b2); (try simp only [show (2 : Int).toNat = 2 from rfl, Nat.reduceMul, Nat.reduceEqDiff, Go.Addr.add, ↓reduceIte] at E); have cI : (2 < b.length) = True := et_ (by omega); (try rw [show ((2 : Int)).toNat = 2 from rfl] at E); replace E := (HB.out.cell (wl_ w _ E)).trans E; have aS := a_ ax; have aT := a_ aw; clear ax aw; replace p487 := et_ p487; replace aG := et_ aG; obtain ⟨O, P, b3⟩ := Kd.R_slice HO_8.out; subst b3) | (go_at_call 77; (with_reducible refine (jigsawref11_Those.calls k1 _ _ (rd_L7 b 2) _ _ y ak _ ?_ ?_ ?_ ?_ dd.out).mono ?_); exact ca_ ((cb_ aS.out HB.out)); exact aT.out; exact ca_ ((rr_ HO_8.out).2.2); exact (rr_ HO_8.out).2.1; rintro e w60 ⟨dg, rfl, W, hb⟩; replace HO_6 := a_ (rb_ (vR_ HO_6.out) hb); replace HO_7 := a_ (rb_ (vR_ HO_7.out) hb); replace HO_8 := a_ (rb_ (vR_ HO_8.out) hb); have ae := a_ (Kd.R_lower (Kd.R_new' (Kd.R_new' (Kd.R_newM (M := fun a => (w.heap.size ≤ a)) W (bz_ bel_) (fun a h_ => h_)) (rl_ (vR_ n.out))) (rl_ (vR_ K.out))) (bz_ bel_)); replace n := a_ (Kd.R_elder' (vR_ n.out) (rs_ W) hb); replace K := a_ (Kd.R_elder' (vR_ K.out) (rs_ W) hb); replace HB := hq_ hb; clear hb W; obtain ⟨a4, a5, b4⟩ := Kd.R_slice n.out; subst b4; obtain ⟨a6, a7, b5⟩ := Kd.R_slice K.out; subst b5; obtain ⟨a8, a9, b6⟩ := Kd.R_slice ae.out; subst b6) | ((with_reducible refine gate_dst (N := 114) rfl ?_); refine Kd.N_lit (Kd.slice 3 (Kd.int .i64)) _ 30 ?hg (N' := 114) ?hd (xs := ([ai, aj, ak] : List (List Int))) (inner := [.slice a4 ai.length a5, .slice a6 aj.length a7, .slice a8 ak.length a9]) (ok := (fun a => (w.heap.size ≤ a) ∧ some a ≠ (.slice Q u.length U : Value).ownBlock ∧ some a ≠ (.slice I x.length J : Value).ownBlock ∧ some a ≠ (.slice O y.length P : Value).ownBlock)) (okp := (fun a => (w.heap.size ≤ a) ∧ some a ≠ (.slice Q u.length U : Value).ownBlock ∧ some a ≠ (.slice I x.length J : Value).ownBlock ∧ some a ≠ (.slice O y.length P : Value).ownBlock)) ?hr ?hp (fun _ hk => hk) ((show ∀ a, w60.heap.size ≤ a → (fun a => (w.heap.size ≤ a) ∧ some a ≠ (.slice Q u.length U : Value).ownBlock ∧ some a ≠ (.slice I x.length J : Value).ownBlock ∧ some a ≠ (.slice O y.length P : Value).ownBlock) a from fun a hk => ⟨(Nat.le_trans (bz_ bel_) hk), fr_ (rl_ (vR_ HO_6.out)) a hk, fr_ (rl_ (vR_ HO_7.out)) a hk, fr_ (rl_ (vR_ HO_8.out)) a hk⟩) _ (lr_ _)) (Below.refl _ _) (lr_ _) (by simp) ?_; (case hd => rfl); (case hg => rfl); (case hr => first | (go_simp; done) | (go_simp; rfl)); (case hp => exact (Reps.one (show Kd.FK (Kd.slice 3 (Kd.int .i64)) _ _ ai [.slice a4 ai.length a5] from (Kd.FK_slice_mk (rr_ (rm_ (ok' := (fun a => (w.heap.size ≤ a) ∧ some a ≠ (.slice Q u.length U : Value).ownBlock ∧ some a ≠ (.slice I x.length J : Value).ownBlock ∧ some a ≠ (.slice O y.length P : Value).ownBlock)) (Kd.R_apart' (Kd.R_apart' (Kd.R_apart' (n.out) (Kd.R_typed HO_6.out) (by decide)) (Kd.R_typed HO_7.out) (by decide)) (Kd.R_typed HO_8.out) (by decide)) (fun a hk => ⟨hk.1.1.1.1.1.1, ⟨hk.1.1.2, ⟨hk.1.2, hk.2⟩⟩⟩))).2.1 (Kd.R_F (rm_ (ok' := (fun a => (w.heap.size ≤ a) ∧ some a ≠ (.slice Q u.length U : Value).ownBlock ∧ some a ≠ (.slice I x.length J : Value).ownBlock ∧ some a ≠ (.slice O y.length P : Value).ownBlock)) (Kd.R_apart' (Kd.R_apart' (Kd.R_apart' (n.out) (Kd.R_typed HO_6.out) (by decide)) (Kd.R_typed HO_7.out) (by decide)) (Kd.R_typed HO_8.out) (by decide)) (fun a hk => ⟨hk.1.1.1.1.1.1, ⟨hk.1.1.2, ⟨hk.1.2, hk.2⟩⟩⟩))))) (Reps.one (show Kd.FK (Kd.slice 3 (Kd.int .i64)) _ _ aj [.slice a6 aj.length a7] from (Kd.FK_slice_mk (rr_ (rm_ (ok' := (fun a => (w.heap.size ≤ a) ∧ some a ≠ (.slice Q u.length U : Value).ownBlock ∧ some a ≠ (.slice I x.length J : Value).ownBlock ∧ some a ≠ (.slice O y.length P : Value).ownBlock)) (Kd.R_apart' (Kd.R_apart' (Kd.R_apart' (K.out) (Kd.R_typed HO_6.out) (by decide)) (Kd.R_typed HO_7.out) (by decide)) (Kd.R_typed HO_8.out) (by decide)) (fun a hk => ⟨hk.1.1.1.1.1.1, ⟨hk.1.1.2, ⟨hk.1.2, hk.2⟩⟩⟩))).2.1 (Kd.R_F (rm_ (ok' := (fun a => (w.heap.size ≤ a) ∧ some a ≠ (.slice Q u.length U : Value).ownBlock ∧ some a ≠ (.slice I x.length J : Value).ownBlock ∧ some a ≠ (.slice O y.length P : Value).ownBlock)) (Kd.R_apart' (Kd.R_apart' (Kd.R_apart' (K.out) (Kd.R_typed HO_6.out) (by decide)) (Kd.R_typed HO_7.out) (by decide)) (Kd.R_typed HO_8.out) (by decide)) (fun a hk => ⟨hk.1.1.1.1.1.1, ⟨hk.1.1.2, ⟨hk.1.2, hk.2⟩⟩⟩))))) (Reps.one (show Kd.FK (Kd.slice 3 (Kd.int .i64)) _ _ ak [.slice a8 ak.length a9] from (Kd.FK_slice_mk (rr_ (rm_ (ok' := (fun a => (w.heap.size ≤ a) ∧ some a ≠ (.slice Q u.length U : Value).ownBlock ∧ some a ≠ (.slice I x.length J : Value).ownBlock ∧ some a ≠ (.slice O y.length P : Value).ownBlock)) (Kd.R_apart' (Kd.R_apart' (Kd.R_apart' (ae.out) (Kd.R_typed HO_6.out) (by decide)) (Kd.R_typed HO_7.out) (by decide)) (Kd.R_typed HO_8.out) (by decide)) (fun a hk => ⟨hk.1.1.1.1.1.1, ⟨hk.1.1.2, ⟨hk.1.2, hk.2⟩⟩⟩))).2.1 (Kd.R_F (rm_ (ok' := (fun a => (w.heap.size ≤ a) ∧ some a ≠ (.slice Q u.length U : Value).ownBlock ∧ some a ≠ (.slice I x.length J : Value).ownBlock ∧ some a ≠ (.slice O y.length P : Value).ownBlock)) (Kd.R_apart' (Kd.R_apart' (Kd.R_apart' (ae.out) (Kd.R_typed HO_6.out) (by decide)) (Kd.R_typed HO_7.out) (by decide)) (Kd.R_typed HO_8.out) (by decide)) (fun a hk => ⟨hk.1.1.1.1.1.1, ⟨hk.1.1.2, ⟨hk.1.2, hk.2⟩⟩⟩))))) (Reps.none _ _))))); intro dh w64 ah hb hg_ hnew_; clear hg_ hnew_; (first | rw [← bd.out] at ah | (simp only [Int.reduceToNat] at ah; rw [← bd.out] at ah)); replace HO_6 := a_ (rb_ (vR_ HO_6.out) hb); replace HO_7 := a_ (rb_ (vR_ HO_7.out) hb); replace HO_8 := a_ (rb_ (vR_ HO_8.out) hb); have cp := a_ (Kd.N_lower ah (bz_ bel_)); replace HB := hq_ hb; clear n K ae; clear hb ah))
                 repeat (go_quiet (first | (go_at_call 77; (with_reducible refine (jigsawref11_Those.calls k1 _ _ (rd_L7 b 0) _ _ u ai _ ?_ ?_ ?_ ?_ db.out).mono ?_); exact ca_ ((cb_ bK.out HB.out)); exact bL.out; exact ca_ ((rr_ HO_6.out).2.2); exact (rr_ HO_6.out).2.1; rintro e w56 ⟨de, rfl, W, hb⟩; replace HO_6 := a_ (rb_ (vR_ HO_6.out) hb); replace HO_7 := a_ (rb_ (vR_ HO_7.out) hb); replace HO_8 := a_ (rb_ (vR_ HO_8.out) hb); have n := a_ (Kd.R_lower (Kd.R_newM (M := fun a => (w.heap.size ≤ a)) W (bz_ bel_) (fun a h_ => h_)) (bz_ bel_)); replace HB := hq_ hb; clear hb W; have p483 : 0 ≤ (1 : Int) := (by omega); have aF : 1 < (b.length : Int) := dq_; obtain ⟨bD, cv, c483_0, b0, B, au, av⟩ := at_L7 ad.out 1 p483 aF; obtain rfl : F = bD := (by injection b0); (try simp only [show (1 : Int).toNat = 1 from rfl, Nat.reduceMul, Nat.reduceEqDiff, Go.Addr.add, ↓reduceIte] at B); have cH : (1 < b.length) = True := et_ (by omega); (try rw [show ((1 : Int)).toNat = 1 from rfl] at B); replace B := (HB.out.cell (wl_ w _ B)).trans B; have aQ := a_ av; have aR := a_ au; clear av au; replace p483 := et_ p483; replace aF := et_ aF; obtain ⟨I, J, b1⟩ := Kd.R_slice HO_7.out; subst b1) | (go_at_call 77; (with_reducible refine (jigsawref11_Those.calls k1 _ _ (rd_L7 b 1) _ _ x aj _ ?_ ?_ ?_ ?_ dc.out).mono ?_); exact ca_ ((cb_ aQ.out HB.out)); exact aR.out; exact ca_ ((rr_ HO_7.out).2.2); exact (rr_ HO_7.out).2.1; rintro e w58 ⟨df, rfl, W, hb⟩; replace HO_6 := a_ (rb_ (vR_ HO_6.out) hb); replace HO_7 := a_ (rb_ (vR_ HO_7.out) hb); replace HO_8 := a_ (rb_ (vR_ HO_8.out) hb); have K := a_ (Kd.R_lower (Kd.R_new' (Kd.R_newM (M := fun a => (w.heap.size ≤ a)) W (bz_ bel_) (fun a h_ => h_)) (rl_ (vR_ n.out))) (bz_ bel_)); replace n := a_ (Kd.R_elder' (vR_ n.out) (rs_ W) hb); replace HB := hq_ hb; clear hb W; have p487 : 0 ≤ (2 : Int) := (by omega); have aG : 2 < (b.length : Int) := dq_; obtain ⟨bE, cw, c487_0, b2, E, aw, ax⟩ := at_L7 ad.out 2 p487 aG; obtain rfl : F = bE := (by injection b2); (try simp only [show (2 : Int).toNat = 2 from rfl, Nat.reduceMul, Nat.reduceEqDiff, Go.Addr.add, ↓reduceIte] at E); have cI : (2 < b.length) = True := et_ (by omega); (try rw [show ((2 : Int)).toNat = 2 from rfl] at E); replace E := (HB.out.cell (wl_ w _ E)).trans E; have aS := a_ ax; have aT := a_ aw; clear ax aw; replace p487 := et_ p487; replace aG := et_ aG; obtain ⟨O, P, b3⟩ := Kd.R_slice HO_8.out; subst b3) | (go_at_call 77; (with_reducible refine (jigsawref11_Those.calls k1 _ _ (rd_L7 b 2) _ _ y ak _ ?_ ?_ ?_ ?_ dd.out).mono ?_); exact ca_ ((cb_ aS.out HB.out)); exact aT.out; exact ca_ ((rr_ HO_8.out).2.2); exact (rr_ HO_8.out).2.1; rintro e w60 ⟨dg, rfl, W, hb⟩; replace HO_6 := a_ (rb_ (vR_ HO_6.out) hb); replace HO_7 := a_ (rb_ (vR_ HO_7.out) hb); replace HO_8 := a_ (rb_ (vR_ HO_8.out) hb); have ae := a_ (Kd.R_lower (Kd.R_new' (Kd.R_new' (Kd.R_newM (M := fun a => (w.heap.size ≤ a)) W (bz_ bel_) (fun a h_ => h_)) (rl_ (vR_ n.out))) (rl_ (vR_ K.out))) (bz_ bel_)); replace n := a_ (Kd.R_elder' (vR_ n.out) (rs_ W) hb); replace K := a_ (Kd.R_elder' (vR_ K.out) (rs_ W) hb); replace HB := hq_ hb; clear hb W; obtain ⟨a4, a5, b4⟩ := Kd.R_slice n.out; subst b4; obtain ⟨a6, a7, b5⟩ := Kd.R_slice K.out; subst b5; obtain ⟨a8, a9, b6⟩ := Kd.R_slice ae.out; subst b6) | ((with_reducible refine gate_dst (N := 114) rfl ?_); refine Kd.N_lit (Kd.slice 3 (Kd.int .i64)) _ 30 ?hg (N' := 114) ?hd (xs := ([ai, aj, ak] : List (List Int))) (inner := [.slice a4 ai.length a5, .slice a6 aj.length a7, .slice a8 ak.length a9]) (ok := (fun a => (w.heap.size ≤ a) ∧ some a ≠ (.slice Q u.length U : Value).ownBlock ∧ some a ≠ (.slice I x.length J : Value).ownBlock ∧ some a ≠ (.slice O y.length P : Value).ownBlock)) (okp := (fun a => (w.heap.size ≤ a) ∧ some a ≠ (.slice Q u.length U : Value).ownBlock ∧ some a ≠ (.slice I x.length J : Value).ownBlock ∧ some a ≠ (.slice O y.length P : Value).ownBlock)) ?hr ?hp (fun _ hk => hk) ((show ∀ a, w60.heap.size ≤ a → (fun a => (w.heap.size ≤ a) ∧ some a ≠ (.slice Q u.length U : Value).ownBlock ∧ some a ≠ (.slice I x.length J : Value).ownBlock ∧ some a ≠ (.slice O y.length P : Value).ownBlock) a from fun a hk => ⟨(Nat.le_trans (bz_ bel_) hk), fr_ (rl_ (vR_ HO_6.out)) a hk, fr_ (rl_ (vR_ HO_7.out)) a hk, fr_ (rl_ (vR_ HO_8.out)) a hk⟩) _ (lr_ _)) (Below.refl _ _) (lr_ _) (by simp) ?_; (case hd => rfl); (case hg => rfl); (case hr => first | (go_simp; done) | (go_simp; rfl)); (case hp => exact (Reps.one (show Kd.FK (Kd.slice 3 (Kd.int .i64)) _ _ ai [.slice a4 ai.length a5] from (Kd.FK_slice_mk (rr_ (rm_ (ok' := (fun a => (w.heap.size ≤ a) ∧ some a ≠ (.slice Q u.length U : Value).ownBlock ∧ some a ≠ (.slice I x.length J : Value).ownBlock ∧ some a ≠ (.slice O y.length P : Value).ownBlock)) (Kd.R_apart' (Kd.R_apart' (Kd.R_apart' (n.out) (Kd.R_typed HO_6.out) (by decide)) (Kd.R_typed HO_7.out) (by decide)) (Kd.R_typed HO_8.out) (by decide)) (fun a hk => ⟨hk.1.1.1.1.1.1, ⟨hk.1.1.2, ⟨hk.1.2, hk.2⟩⟩⟩))).2.1 (Kd.R_F (rm_ (ok' := (fun a => (w.heap.size ≤ a) ∧ some a ≠ (.slice Q u.length U : Value).ownBlock ∧ some a ≠ (.slice I x.length J : Value).ownBlock ∧ some a ≠ (.slice O y.length P : Value).ownBlock)) (Kd.R_apart' (Kd.R_apart' (Kd.R_apart' (n.out) (Kd.R_typed HO_6.out) (by decide)) (Kd.R_typed HO_7.out) (by decide)) (Kd.R_typed HO_8.out) (by decide)) (fun a hk => ⟨hk.1.1.1.1.1.1, ⟨hk.1.1.2, ⟨hk.1.2, hk.2⟩⟩⟩))))) (Reps.one (show Kd.FK (Kd.slice 3 (Kd.int .i64)) _ _ aj [.slice a6 aj.length a7] from (Kd.FK_slice_mk (rr_ (rm_ (ok' := (fun a => (w.heap.size ≤ a) ∧ some a ≠ (.slice Q u.length U : Value).ownBlock ∧ some a ≠ (.slice I x.length J : Value).ownBlock ∧ some a ≠ (.slice O y.length P : Value).ownBlock)) (Kd.R_apart' (Kd.R_apart' (Kd.R_apart' (K.out) (Kd.R_typed HO_6.out) (by decide)) (Kd.R_typed HO_7.out) (by decide)) (Kd.R_typed HO_8.out) (by decide)) (fun a hk => ⟨hk.1.1.1.1.1.1, ⟨hk.1.1.2, ⟨hk.1.2, hk.2⟩⟩⟩))).2.1 (Kd.R_F (rm_ (ok' := (fun a => (w.heap.size ≤ a) ∧ some a ≠ (.slice Q u.length U : Value).ownBlock ∧ some a ≠ (.slice I x.length J : Value).ownBlock ∧ some a ≠ (.slice O y.length P : Value).ownBlock)) (Kd.R_apart' (Kd.R_apart' (Kd.R_apart' (K.out) (Kd.R_typed HO_6.out) (by decide)) (Kd.R_typed HO_7.out) (by decide)) (Kd.R_typed HO_8.out) (by decide)) (fun a hk => ⟨hk.1.1.1.1.1.1, ⟨hk.1.1.2, ⟨hk.1.2, hk.2⟩⟩⟩))))) (Reps.one (show Kd.FK (Kd.slice 3 (Kd.int .i64)) _ _ ak [.slice a8 ak.length a9] from (Kd.FK_slice_mk (rr_ (rm_ (ok' := (fun a => (w.heap.size ≤ a) ∧ some a ≠ (.slice Q u.length U : Value).ownBlock ∧ some a ≠ (.slice I x.length J : Value).ownBlock ∧ some a ≠ (.slice O y.length P : Value).ownBlock)) (Kd.R_apart' (Kd.R_apart' (Kd.R_apart' (ae.out) (Kd.R_typed HO_6.out) (by decide)) (Kd.R_typed HO_7.out) (by decide)) (Kd.R_typed HO_8.out) (by decide)) (fun a hk => ⟨hk.1.1.1.1.1.1, ⟨hk.1.1.2, ⟨hk.1.2, hk.2⟩⟩⟩))).2.1 (Kd.R_F (rm_ (ok' := (fun a => (w.heap.size ≤ a) ∧ some a ≠ (.slice Q u.length U : Value).ownBlock ∧ some a ≠ (.slice I x.length J : Value).ownBlock ∧ some a ≠ (.slice O y.length P : Value).ownBlock)) (Kd.R_apart' (Kd.R_apart' (Kd.R_apart' (ae.out) (Kd.R_typed HO_6.out) (by decide)) (Kd.R_typed HO_7.out) (by decide)) (Kd.R_typed HO_8.out) (by decide)) (fun a hk => ⟨hk.1.1.1.1.1.1, ⟨hk.1.1.2, ⟨hk.1.2, hk.2⟩⟩⟩))))) (Reps.none _ _))))); intro dh w64 ah hb hg_ hnew_; clear hg_ hnew_; (first | rw [← bd.out] at ah | (simp only [Int.reduceToNat] at ah; rw [← bd.out] at ah)); replace HO_6 := a_ (rb_ (vR_ HO_6.out) hb); replace HO_7 := a_ (rb_ (vR_ HO_7.out) hb); replace HO_8 := a_ (rb_ (vR_ HO_8.out) hb); have cp := a_ (Kd.N_lower ah (bz_ bel_)); replace HB := hq_ hb; clear n K ae; clear hb ah)); try go_wp2_with (first | (go_at_call 77; (with_reducible refine (jigsawref11_Those.calls k1 _ _ (rd_L7 b 0) _ _ u ai _ ?_ ?_ ?_ ?_ db.out).mono ?_); exact ca_ ((cb_ bK.out HB.out)); exact bL.out; exact ca_ ((rr_ HO_6.out).2.2); exact (rr_ HO_6.out).2.1; rintro e w56 ⟨de, rfl, W, hb⟩; replace HO_6 := a_ (rb_ (vR_ HO_6.out) hb); replace HO_7 := a_ (rb_ (vR_ HO_7.out) hb); replace HO_8 := a_ (rb_ (vR_ HO_8.out) hb); have n := a_ (Kd.R_lower (Kd.R_newM (M := fun a => (w.heap.size ≤ a)) W (bz_ bel_) (fun a h_ => h_)) (bz_ bel_)); replace HB := hq_ hb; clear hb W; have p483 : 0 ≤ (1 : Int) := (by omega); have aF : 1 < (b.length : Int) := dq_; obtain ⟨bD, cv, c483_0, b0, B, au, av⟩ := at_L7 ad.out 1 p483 aF; obtain rfl : F = bD := (by injection b0); (try simp only [show (1 : Int).toNat = 1 from rfl, Nat.reduceMul, Nat.reduceEqDiff, Go.Addr.add, ↓reduceIte] at B); have cH : (1 < b.length) = True := et_ (by omega); (try rw [show ((1 : Int)).toNat = 1 from rfl] at B); replace B := (HB.out.cell (wl_ w _ B)).trans B; have aQ := a_ av; have aR := a_ au; clear av au; replace p483 := et_ p483; replace aF := et_ aF; obtain ⟨I, J, b1⟩ := Kd.R_slice HO_7.out; subst b1) | (go_at_call 77; (with_reducible refine (jigsawref11_Those.calls k1 _ _ (rd_L7 b 1) _ _ x aj _ ?_ ?_ ?_ ?_ dc.out).mono ?_); exact ca_ ((cb_ aQ.out HB.out)); exact aR.out; exact ca_ ((rr_ HO_7.out).2.2); exact (rr_ HO_7.out).2.1; rintro e w58 ⟨df, rfl, W, hb⟩; replace HO_6 := a_ (rb_ (vR_ HO_6.out) hb); replace HO_7 := a_ (rb_ (vR_ HO_7.out) hb); replace HO_8 := a_ (rb_ (vR_ HO_8.out) hb); have K := a_ (Kd.R_lower (Kd.R_new' (Kd.R_newM (M := fun a => (w.heap.size ≤ a)) W (bz_ bel_) (fun a h_ => h_)) (rl_ (vR_ n.out))) (bz_ bel_)); replace n := a_ (Kd.R_elder' (vR_ n.out) (rs_ W) hb); replace HB := hq_ hb; clear hb W; have p487 : 0 ≤ (2 : Int) := (by omega); have aG : 2 < (b.length : Int) := dq_; obtain ⟨bE, cw, c487_0, b2, E, aw, ax⟩ := at_L7 ad.out 2 p487 aG; obtain rfl : F = bE := (by injection b2); (try simp only [show (2 : Int).toNat = 2 from rfl, Nat.reduceMul, Nat.reduceEqDiff, Go.Addr.add, ↓reduceIte] at E); have cI : (2 < b.length) = True := et_ (by omega); (try rw [show ((2 : Int)).toNat = 2 from rfl] at E); replace E := (HB.out.cell (wl_ w _ E)).trans E; have aS := a_ ax; have aT := a_ aw; clear ax aw; replace p487 := et_ p487; replace aG := et_ aG; obtain ⟨O, P, b3⟩ := Kd.R_slice HO_8.out; subst b3) | (go_at_call 77; (with_reducible refine (jigsawref11_Those.calls k1 _ _ (rd_L7 b 2) _ _ y ak _ ?_ ?_ ?_ ?_ dd.out).mono ?_); exact ca_ ((cb_ aS.out HB.out)); exact aT.out; exact ca_ ((rr_ HO_8.out).2.2); exact (rr_ HO_8.out).2.1; rintro e w60 ⟨dg, rfl, W, hb⟩; replace HO_6 := a_ (rb_ (vR_ HO_6.out) hb); replace HO_7 := a_ (rb_ (vR_ HO_7.out) hb); replace HO_8 := a_ (rb_ (vR_ HO_8.out) hb); have ae := a_ (Kd.R_lower (Kd.R_new' (Kd.R_new' (Kd.R_newM (M := fun a => (w.heap.size ≤ a)) W (bz_ bel_) (fun a h_ => h_)) (rl_ (vR_ n.out))) (rl_ (vR_ K.out))) (bz_ bel_)); replace n := a_ (Kd.R_elder' (vR_ n.out) (rs_ W) hb); replace K := a_ (Kd.R_elder' (vR_ K.out) (rs_ W) hb); replace HB := hq_ hb; clear hb W; obtain ⟨a4, a5, b4⟩ := Kd.R_slice n.out; subst b4; obtain ⟨a6, a7, b5⟩ := Kd.R_slice K.out; subst b5; obtain ⟨a8, a9, b6⟩ := Kd.R_slice ae.out; subst b6) | ((with_reducible refine gate_dst (N := 114) rfl ?_); refine Kd.N_lit (Kd.slice 3 (Kd.int .i64)) _ 30 ?hg (N' := 114) ?hd (xs := ([ai, aj, ak] : List (List Int))) (inner := [.slice a4 ai.length a5, .slice a6 aj.length a7, .slice a8 ak.length a9]) (ok := (fun a => (w.heap.size ≤ a) ∧ some a ≠ (.slice Q u.length U : Value).ownBlock ∧ some a ≠ (.slice I x.length J : Value).ownBlock ∧ some a ≠ (.slice O y.length P : Value).ownBlock)) (okp := (fun a => (w.heap.size ≤ a) ∧ some a ≠ (.slice Q u.length U : Value).ownBlock ∧ some a ≠ (.slice I x.length J : Value).ownBlock ∧ some a ≠ (.slice O y.length P : Value).ownBlock)) ?hr ?hp (fun _ hk => hk) ((show ∀ a, w60.heap.size ≤ a → (fun a => (w.heap.size ≤ a) ∧ some a ≠ (.slice Q u.length U : Value).ownBlock ∧ some a ≠ (.slice I x.length J : Value).ownBlock ∧ some a ≠ (.slice O y.length P : Value).ownBlock) a from fun a hk => ⟨(Nat.le_trans (bz_ bel_) hk), fr_ (rl_ (vR_ HO_6.out)) a hk, fr_ (rl_ (vR_ HO_7.out)) a hk, fr_ (rl_ (vR_ HO_8.out)) a hk⟩) _ (lr_ _)) (Below.refl _ _) (lr_ _) (by simp) ?_; (case hd => rfl); (case hg => rfl); (case hr => first | (go_simp; done) | (go_simp; rfl)); (case hp => exact (Reps.one (show Kd.FK (Kd.slice 3 (Kd.int .i64)) _ _ ai [.slice a4 ai.length a5] from (Kd.FK_slice_mk (rr_ (rm_ (ok' := (fun a => (w.heap.size ≤ a) ∧ some a ≠ (.slice Q u.length U : Value).ownBlock ∧ some a ≠ (.slice I x.length J : Value).ownBlock ∧ some a ≠ (.slice O y.length P : Value).ownBlock)) (Kd.R_apart' (Kd.R_apart' (Kd.R_apart' (n.out) (Kd.R_typed HO_6.out) (by decide)) (Kd.R_typed HO_7.out) (by decide)) (Kd.R_typed HO_8.out) (by decide)) (fun a hk => ⟨hk.1.1.1.1.1.1, ⟨hk.1.1.2, ⟨hk.1.2, hk.2⟩⟩⟩))).2.1 (Kd.R_F (rm_ (ok' := (fun a => (w.heap.size ≤ a) ∧ some a ≠ (.slice Q u.length U : Value).ownBlock ∧ some a ≠ (.slice I x.length J : Value).ownBlock ∧ some a ≠ (.slice O y.length P : Value).ownBlock)) (Kd.R_apart' (Kd.R_apart' (Kd.R_apart' (n.out) (Kd.R_typed HO_6.out) (by decide)) (Kd.R_typed HO_7.out) (by decide)) (Kd.R_typed HO_8.out) (by decide)) (fun a hk => ⟨hk.1.1.1.1.1.1, ⟨hk.1.1.2, ⟨hk.1.2, hk.2⟩⟩⟩))))) (Reps.one (show Kd.FK (Kd.slice 3 (Kd.int .i64)) _ _ aj [.slice a6 aj.length a7] from (Kd.FK_slice_mk (rr_ (rm_ (ok' := (fun a => (w.heap.size ≤ a) ∧ some a ≠ (.slice Q u.length U : Value).ownBlock ∧ some a ≠ (.slice I x.length J : Value).ownBlock ∧ some a ≠ (.slice O y.length P : Value).ownBlock)) (Kd.R_apart' (Kd.R_apart' (Kd.R_apart' (K.out) (Kd.R_typed HO_6.out) (by decide)) (Kd.R_typed HO_7.out) (by decide)) (Kd.R_typed HO_8.out) (by decide)) (fun a hk => ⟨hk.1.1.1.1.1.1, ⟨hk.1.1.2, ⟨hk.1.2, hk.2⟩⟩⟩))).2.1 (Kd.R_F (rm_ (ok' := (fun a => (w.heap.size ≤ a) ∧ some a ≠ (.slice Q u.length U : Value).ownBlock ∧ some a ≠ (.slice I x.length J : Value).ownBlock ∧ some a ≠ (.slice O y.length P : Value).ownBlock)) (Kd.R_apart' (Kd.R_apart' (Kd.R_apart' (K.out) (Kd.R_typed HO_6.out) (by decide)) (Kd.R_typed HO_7.out) (by decide)) (Kd.R_typed HO_8.out) (by decide)) (fun a hk => ⟨hk.1.1.1.1.1.1, ⟨hk.1.1.2, ⟨hk.1.2, hk.2⟩⟩⟩))))) (Reps.one (show Kd.FK (Kd.slice 3 (Kd.int .i64)) _ _ ak [.slice a8 ak.length a9] from (Kd.FK_slice_mk (rr_ (rm_ (ok' := (fun a => (w.heap.size ≤ a) ∧ some a ≠ (.slice Q u.length U : Value).ownBlock ∧ some a ≠ (.slice I x.length J : Value).ownBlock ∧ some a ≠ (.slice O y.length P : Value).ownBlock)) (Kd.R_apart' (Kd.R_apart' (Kd.R_apart' (ae.out) (Kd.R_typed HO_6.out) (by decide)) (Kd.R_typed HO_7.out) (by decide)) (Kd.R_typed HO_8.out) (by decide)) (fun a hk => ⟨hk.1.1.1.1.1.1, ⟨hk.1.1.2, ⟨hk.1.2, hk.2⟩⟩⟩))).2.1 (Kd.R_F (rm_ (ok' := (fun a => (w.heap.size ≤ a) ∧ some a ≠ (.slice Q u.length U : Value).ownBlock ∧ some a ≠ (.slice I x.length J : Value).ownBlock ∧ some a ≠ (.slice O y.length P : Value).ownBlock)) (Kd.R_apart' (Kd.R_apart' (Kd.R_apart' (ae.out) (Kd.R_typed HO_6.out) (by decide)) (Kd.R_typed HO_7.out) (by decide)) (Kd.R_typed HO_8.out) (by decide)) (fun a hk => ⟨hk.1.1.1.1.1.1, ⟨hk.1.1.2, ⟨hk.1.2, hk.2⟩⟩⟩))))) (Reps.none _ _))))); intro dh w64 ah hb hg_ hnew_; clear hg_ hnew_; (first | rw [← bd.out] at ah | (simp only [Int.reduceToNat] at ah; rw [← bd.out] at ah)); have cp := a_ (Kd.N_lower ah (bz_ bel_)); replace HB := hq_ hb; clear n K ae; clear hb ah)))
                 go_ret2
                 exact ⟨_, er_, by refine vN_ ?_; exact nm_ cp.out (fun _ hk => hk.1), bel_⟩
                ·
                 rw [ig_ c53] at H
                 exact absurd H (by simp)
               ·
                rw [ig_ c51] at H
                exact absurd H (by simp)
              ·
               replace c49 := bf_.mpr c49
               subst c49
               have H1 : (some (([] : List (List Int)), false)) = some (r1, r2) := by rw [ig_ (show ¬ (false = true) by decide)] at H; exact H
               clear H
               have H := H1
               clear H1
               simp only [Option.some.injEq, Prod.mk.injEq] at H
               obtain ⟨rfl, rfl⟩ := H
               have p465 : 0 ≤ (0 : Int) := (by omega)
               have az : 0 < (b.length : Int) := dq_
               obtain ⟨bu, cs, c465_0, bQ, s, aq, aJ⟩ := at_L7 ad.out 0 p465 az
               obtain rfl : F = bu := (by injection bQ)
               have cG : (0 < b.length) = True := et_ (by omega)
               (try rw [show ((0 : Int)).toNat = 0 from rfl] at s)
               (try rw [Addr.add_zero'] at s)
               replace s := (HB.out.cell (wl_ w _ s)).trans s
               have ca := a_ aq
               clear aJ aq
               replace p465 := et_ p465
               replace az := et_ az
               go_wp2
               repeat (go_quiet (fail); try go_wp2)
               go_ret2
               exact ⟨_, er_, by first | exact Kd.S_nil _ _ _ _ _ | exact Kd.N_nil _ _ _ _ _ | exact Kd.V_nil _ _ _ _ _ | exact Kd.Q_nil _ _ _ _ _ | exact Kd.R_nil _ _ _ _ _, bel_⟩
            ·
             rw [ig_ c18] at H
             exact absurd H (by simp)
         ·
          rw [ig_ c11] at H
          exact absurd H (by simp)
        ·
         rw [ig_ c10] at H
         exact absurd H (by simp)
       ·
        rw [ig_ c9] at H
        exact absurd H (by simp)
      ·
       rw [ig_ c8] at H
       exact absurd H (by simp)
     ·
      rw [ig_ c7] at H
      exact absurd H (by simp)
    ·
     rw [ig_ c6] at H
     exact absurd H (by simp)
   ·
    rw [ig_ c5] at H
    exact absurd H (by simp)
  ·
   rw [ig_ c4] at H
   exact absurd H (by simp)
 ·
  rw [ig_ c3] at H
  exact absurd H (by simp)

end Go.Proofs.YtbhhbgoamomacaaGreatDoor.XMulFilters
