-- by xprint.py, a program of this session, over the kit's print
import Derived.Test.YtbhhbgoamomacaaGreatDoorXMFix0
import Derived.Test.YtbhhbgoamomacaaGreatDoorXMFix6
import Derived.Test.YtbhhbgoamomacaaGreatDoorXMFix8
import Derived.Test.YtbhhbgoamomacaaGreatDoorXMFix12
import Derived.Test.YtbhhbgoamomacaaGreatDoorXMFix13
import Derived.Test.YtbhhbgoamomacaaGreatDoorXMFix14
import Derived.Test.YtbhhbgoamomacaaGreatDoorSq
namespace Go.Proofs.YtbhhbgoamomacaaGreatDoor.XMulFilters
open Go.RowKit Go.Proofs.YtbhhbgoamomacaaGreatDoor.Sq Go.Proofs.YtbhhbgoamomacaaGreatDoorW.PrintWords Go.Proofs.YtbhhbgoamomacaaGreatDoorW.PrintLast Go.Proofs.YtbhhbgoamomacaaGreatDoorW.PrintMore
attribute [local go_sem] max2_int min2_int max_two min_two max_three min_three max_four min_four   -- for this text's walks alone
set_option linter.unusedVariables false
set_option linter.unusedSimpArgs false

/-! ### mul_Filter: function 10 -/
def mul_Filter.f (k : Nat) (b : Int) (g : List Int) (l : List Int) (m : List Int) (n : List Int) (o : List Int) (p : Int) (q : List (List Int)) (a : List (S61)) : Option ((List (S61)) × Bool) := (prop_Fits.f k b g l m n o p q a 5 7).bind fun r => (if r = true then (if 0 < (a.length : Int) then ((dom_Dom_Size.f ((rd_T61 a 0).f0) ((rd_T61 a 0).f1) ((rd_T61 a 0).f2) ((rd_T61 a 0).f3) ((rd_T61 a 0).f4)).bind fun s => (if 1 < (a.length : Int) then ((dom_Dom_Size.f ((rd_T61 a 1).f0) ((rd_T61 a 1).f1) ((rd_T61 a 1).f2) ((rd_T61 a 1).f3) ((rd_T61 a 1).f4)).bind fun t => (if (wrap64 (s * t)) > 4096 then (none) else (if b = 6 then (if 2 < (a.length : Int) then ((prop_Pairs_at_num_Quo.f k ((rd_T61 a 0).f0) ((rd_T61 a 0).f1) ((rd_T61 a 0).f2) ((rd_T61 a 0).f3) ((rd_T61 a 0).f4) ((rd_T61 a 1).f0) ((rd_T61 a 1).f1) ((rd_T61 a 1).f2) ((rd_T61 a 1).f3) ((rd_T61 a 1).f4) ((rd_T61 a 2).f0) ((rd_T61 a 2).f1) ((rd_T61 a 2).f2) ((rd_T61 a 2).f3) ((rd_T61 a 2).f4)).bind fun c => (some (c.1, c.2))) else (none)) else (if b = 7 then (if 2 < (a.length : Int) then ((prop_Pairs_at_num_Rem.f k ((rd_T61 a 0).f0) ((rd_T61 a 0).f1) ((rd_T61 a 0).f2) ((rd_T61 a 0).f3) ((rd_T61 a 0).f4) ((rd_T61 a 1).f0) ((rd_T61 a 1).f1) ((rd_T61 a 1).f2) ((rd_T61 a 1).f3) ((rd_T61 a 1).f4) ((rd_T61 a 2).f0) ((rd_T61 a 2).f1) ((rd_T61 a 2).f2) ((rd_T61 a 2).f3) ((rd_T61 a 2).f4)).bind fun d => (some (d.1, d.2))) else (none)) else (if 2 < (a.length : Int) then ((prop_Pairs_at_num_Mul.f k ((rd_T61 a 0).f0) ((rd_T61 a 0).f1) ((rd_T61 a 0).f2) ((rd_T61 a 0).f3) ((rd_T61 a 0).f4) ((rd_T61 a 1).f0) ((rd_T61 a 1).f1) ((rd_T61 a 1).f2) ((rd_T61 a 1).f3) ((rd_T61 a 1).f4) ((rd_T61 a 2).f0) ((rd_T61 a 2).f1) ((rd_T61 a 2).f2) ((rd_T61 a 2).f3) ((rd_T61 a 2).f4)).bind fun e => (some (e.1, e.2))) else (none)))))) else (none))) else (none)) else (some (([] : List (S61)), false)))
theorem mul_Filter.mono : ∀ a b c d e g l m n k, LeO (mul_Filter.f k a b c d e g l m n) (mul_Filter.f (k + 1) a b c d e g l m n) := by
 intro a b c d e g l m n k
 unfold mul_Filter.f
 have m0 := @prop_Fits.mono
 have m1 := @prop_Pairs_at_num_Mul.mono
 have m2 := @prop_Pairs_at_num_Quo.mono
 have m3 := @prop_Pairs_at_num_Rem.mono
 exact leo_
def mul_Filter.T3 : Bool × List (List Nat × List Nat) := (true, [([], []), ([0], [0]), ([1], [1]), ([2], [2]), ([], []), ([4], [4]), ([5], [5]), ([6, 3], [6]), ([3, 7], [3, 7]), ([8], [8])])
def mul_Filter.B3 : List Nat := [0, 1, 3, 7, 0, 16, 48, 127, 255, 511]
theorem mul_Filter.tab3 : rtab .any (opsOf Tryz.f10 3) = mul_Filter.T3 := by kernel_rfl
theorem mul_Filter.bits3 : waitsOk mul_Filter.T3.2 mul_Filter.B3 = true := by kernel_rfl
def mul_Filter.T11 : Bool × List (List Nat × List Nat) := (true, [([], []), ([0], [0]), ([1], [1]), ([], []), ([3], [3]), ([4], [4]), ([], []), ([6], [6]), ([7], [7]), ([], []), ([2, 5, 8, 9], [2, 5, 8, 9]), ([10], [10]), ([10], [10]), ([11, 10, 0, 1, 2, 3, 4, 5, 6, 7, 8, 9, 10, 11, 12], [11]), ([12, 13, 0, 1, 2, 3, 4, 5, 6, 7, 8, 9, 10, 11, 12, 13], [12])])
def mul_Filter.B11 : List Nat := [0, 1, 3, 0, 8, 24, 0, 64, 192, 0, 1023, 2047, 2047, 8191, 16383]
theorem mul_Filter.tab11 : rtab .any (opsOf Tryz.f10 11) = mul_Filter.T11 := by kernel_rfl
theorem mul_Filter.bits11 : waitsOk mul_Filter.T11.2 mul_Filter.B11 = true := by kernel_rfl
set_option maxHeartbeats 8000000 in
set_option maxRecDepth 100000 in
theorem mul_Filter.calls (k : Nat) (J : Int) (bP : Option Addr) (c0_1 : Nat) (M : List Int) (bQ : Option Addr) (c0_2 : Nat) (O : List Int) (bR : Option Addr) (c0_3 : Nat) (P : List Int) (bS : Option Addr) (c0_4 : Nat) (Q : List Int) (bT : Option Addr) (c0_5 : Nat) (U : List Int) (aX : Int) (bU : Option Addr) (c0_7 : Nat) (V : List (List Int)) (A1 : Option Addr) (c1 : Nat) (b : List (S61)) (r1 : List (S61)) (r2 : Bool) (w : World) (c3 : Kd.C (Kd.int .i64) w bP M.length M) (c6 : M.length ≤ c0_1) (c8 : Kd.C (Kd.int .i64) w bQ O.length O) (da : O.length ≤ c0_2) (db : Kd.C (Kd.int .i64) w bR P.length P) (dc : P.length ≤ c0_3) (dd : Kd.C (Kd.int .i64) w bS Q.length Q) (de : Q.length ≤ c0_4) (df : Kd.C (Kd.int .i64) w bT U.length U) (dg : U.length ≤ c0_5) (dh : Kd.C (Kd.slice 3 (Kd.int .i64)) w bU V.length V) (di : V.length ≤ c0_7) (dO : Kd.C k61 w A1 b.length b) (dP : b.length ≤ c1) (hrtab : Kd.C (Kd.int .u8) w (some ⟨0, 0, none⟩) tabL.length tabL) (h : mul_Filter.f k J M O P Q U aX V b = some (r1, r2)) :
  Calls Tryz.prog 10 #[.agg #[.int .i64 J, .slice bP M.length c0_1, .slice bQ O.length c0_2, .slice bR P.length c0_3, .slice bS Q.length c0_4, .slice bT U.length c0_5, .int .i64 aX, .slice bU V.length c0_7], .slice A1 b.length c1] w fun e w' => ∃ dQ : Value, e = .returned (.tuple #[dQ, .bool r2]) ∧ Kd.N k61 61 w' w.heap.size (fun k_ => (w.heap.size ≤ k_)) dQ r1 ∧ Below w.heap.size w w' := by
 have hu32 := Tryz.underlying32
 have hu61 := Tryz.underlying61
 have b1 := a_ c3
 have b2 := a_ c6
 clear c3 c6
 have b3 := a_ c8
 have b4 := a_ da
 clear c8 da
 have b5 := a_ db
 have b6 := a_ dc
 clear db dc
 have b7 := a_ dd
 have b8 := a_ de
 clear dd de
 have b9 := a_ df
 have ca := a_ dg
 clear df dg
 have cb := a_ dh
 have cc := a_ di
 clear dh di
 have aY := a_ dO
 have dj := a_ dP
 clear dO dP
 have HRtab := a_ hrtab
 clear hrtab
 have HB := a_ (Below.refl w.heap.size w)
 unfold mul_Filter.f at h
 have H := h
 clear h
 replace H := bo_ H
 obtain ⟨dT, A3, H⟩ := H
 try dsimp only at H
 by_cases c4 : dT = true
 ·
  subst c4
  rw [ip_ rfl] at H
  by_cases c5 : 0 < (b.length : Int)
  ·
   rw [ip_ c5] at H
   have c5b0 : decide (0 < (b.length : Int)) = true := dt_ c5
   have c5b1 : decide (0 < b.length) = true := dt_ (by omega)
   clear c5
   replace H := bo_ H
   obtain ⟨cd, A6, H⟩ := H
   try dsimp only at H
   by_cases c7 : 1 < (b.length : Int)
   ·
    rw [ip_ c7] at H
    have c7b0 : decide (1 < (b.length : Int)) = true := dt_ c7
    have c7b1 : decide (1 < b.length) = true := dt_ (by omega)
    clear c7
    replace H := bo_ H
    obtain ⟨ce, A8, H⟩ := H
    try dsimp only at H
    by_cases c9 : (wrap64 (cd * ce)) > 4096
    ·
     rw [ip_ c9] at H
     exact absurd H (by simp)
    ·
     rw [ig_ c9] at H
     have c9b0 : decide (4096 < (wrap64 (cd * ce))) = false := df_ c9
     clear c9
     by_cases c10 : J = 6
     ·
      rw [ip_ c10] at H
      have c10b0 : (J == 6) = true := beq_iff_eq.mpr c10
      have c10b1 : (J != 6) = false := bn_.mpr c10
      clear c10
      by_cases c11 : 2 < (b.length : Int)
      ·
       rw [ip_ c11] at H
       have c11b0 : decide (2 < (b.length : Int)) = true := dt_ c11
       have c11b1 : decide (2 < b.length) = true := dt_ (by omega)
       clear c11
       replace H := bs_.mp H
       obtain ⟨⟨dW, dX⟩, dy, H⟩ := H
       try dsimp only at H
       have eb := a_ dy
       clear dy
       simp only [Option.some.injEq, Prod.mk.injEq] at H
       obtain ⟨rfl, rfl⟩ := H
       go_enter Tryz.func10, Tryz.ntmps10
       try go_wp2_with (first | ((with_reducible refine gate_dst (N := 2) rfl ?_); refine bxe_ (N := 2) (cs := #[.int .i64 J, .slice bP M.length c0_1, .slice bQ O.length c0_2, .slice bR P.length c0_3, .slice bS Q.length c0_4, .slice bT U.length c0_5, .int .i64 aX, .slice bU V.length c0_7]) (t := 32) ?_; intro bK hg w13 hbox hb; have c := a_ (hbox); have bX := a_ (by rw [hg]; exact (bz_ bel_) : w.heap.size ≤ bK); have cJ := bX; replace HB := hq_ hb; clear hb hbox hg; obtain ⟨_, _, _, _, _, _, _, _, _, _, _, _, _, _, _, _⟩ := cel8_ c.out) | ((with_reducible refine gate_callee (f := 27) rfl ?_); refine goesL_ (some 9) rfl rfl Tryz.func27 kr_ rfl #[.agg #[.int .i64 J, .slice bP M.length c0_1, .slice bQ O.length c0_2, .slice bR P.length c0_3, .slice bS Q.length c0_4, .slice bT U.length c0_5, .int .i64 aX, .slice bU V.length c0_7], .slice A1 b.length c1, .int .i64 5, .int .i64 7] rfl ar_ ?_; (with_reducible refine (prop_Fits.calls k J _ _ M _ _ O _ _ P _ _ Q _ _ U aX _ _ V _ _ b 5 7 true _ ?_ ?_ ?_ ?_ ?_ ?_ ?_ ?_ ?_ ?_ ?_ ?_ ?_ ?_ A3.out).mono ?_); exact ca_ ((cb_ b1.out HB.out)); exact b2.out; exact ca_ ((cb_ b3.out HB.out)); exact b4.out; exact ca_ ((cb_ b5.out HB.out)); exact b6.out; exact ca_ ((cb_ b7.out HB.out)); exact b8.out; exact ca_ ((cb_ b9.out HB.out)); exact ca.out; exact ca_ ((cb_ cb.out HB.out)); exact cc.out; exact ca_ ((cb_ aY.out HB.out)); exact dj.out; rintro e w15 ⟨rfl, hb⟩; refine ⟨_, rfl, ?_⟩; replace c := a_ (bb_ (bk_ c.out) hb); replace HB := hq_ hb; clear hb))
       replace c := a_ (blk_drew c.out)
       replace HB := a_ (below_drew1 HB.out)
       have p369 : 0 ≤ (0 : Int) := (by omega)
       have bN : 0 < (b.length : Int) := dq_
       obtain ⟨a, bL, c369_1, cf, v, x, y, z, A, W, X⟩ := at_T61 aY.out 0 p369 bN
       have d := A
       (try rw [show ((0 : Int)).toNat = 0 from rfl] at d)
       (try rw [show 0 * 5 = 0 from rfl] at d)
       (try rw [Addr.add_zero'] at d)
       have g := z
       (try rw [show ((0 : Int)).toNat = 0 from rfl] at g)
       (try rw [show 0 * 5 = 0 from rfl] at g)
       (try rw [Addr.add_zero'] at g)
       have l := y
       (try rw [show ((0 : Int)).toNat = 0 from rfl] at l)
       (try rw [show 0 * 5 = 0 from rfl] at l)
       (try rw [Addr.add_zero'] at l)
       have m := x
       (try rw [show ((0 : Int)).toNat = 0 from rfl] at m)
       (try rw [show 0 * 5 = 0 from rfl] at m)
       (try rw [Addr.add_zero'] at m)
       have o := v
       (try rw [show ((0 : Int)).toNat = 0 from rfl] at o)
       (try rw [show 0 * 5 = 0 from rfl] at o)
       (try rw [Addr.add_zero'] at o)
       cases cf
       have dk : (0 < b.length) = True := et_ (by omega)
       (try rw [show ((0 : Int)).toNat = 0 from rfl] at v)
       (try rw [show 0 * 5 = 0 from rfl] at v)
       (try rw [Addr.add_zero'] at v)
       (try rw [show ((0 : Int)).toNat = 0 from rfl] at x)
       (try rw [show 0 * 5 = 0 from rfl] at x)
       (try rw [Addr.add_zero'] at x)
       (try rw [show ((0 : Int)).toNat = 0 from rfl] at y)
       (try rw [show 0 * 5 = 0 from rfl] at y)
       (try rw [Addr.add_zero'] at y)
       (try rw [show ((0 : Int)).toNat = 0 from rfl] at z)
       (try rw [show 0 * 5 = 0 from rfl] at z)
       (try rw [Addr.add_zero'] at z)
       (try rw [show ((0 : Int)).toNat = 0 from rfl] at A)
       (try rw [show 0 * 5 = 0 from rfl] at A)
       (try rw [Addr.add_zero'] at A)
       replace v := (HB.out.cell (wl_ w _ v)).trans v
       replace x := (HB.out.cell (wl_ w _ x)).trans x
       replace y := (HB.out.cell (wl_ w _ y)).trans y
       replace z := (HB.out.cell (wl_ w _ z)).trans z
       replace A := (HB.out.cell (wl_ w _ A)).trans A
       have Y := a_ X
       have bV := a_ W
       clear X W
       replace p369 := et_ p369
       replace bN := et_ bN
       have p371 : 0 ≤ (1 : Int) := (by omega)
       have bO : 1 < (b.length : Int) := dq_
       obtain ⟨bZ, bM, c371_1, cg, B, E, F, G, I, Z, aa⟩ := at_T61 aY.out 1 p371 bO
       have p := I
       (try rw [show ((1 : Int)).toNat = 1 from rfl] at p)
       (try rw [show 1 * 5 = 5 from rfl] at p)
       (try simp only [Nat.reduceMul, Nat.reduceEqDiff, Go.Addr.add, ↓reduceIte] at p)
       have q := G
       (try rw [show ((1 : Int)).toNat = 1 from rfl] at q)
       (try rw [show 1 * 5 = 5 from rfl] at q)
       (try simp only [Nat.reduceMul, Nat.reduceEqDiff, Go.Addr.add, ↓reduceIte] at q)
       have r := F
       (try rw [show ((1 : Int)).toNat = 1 from rfl] at r)
       (try rw [show 1 * 5 = 5 from rfl] at r)
       (try simp only [Nat.reduceMul, Nat.reduceEqDiff, Go.Addr.add, ↓reduceIte] at r)
       have s := E
       (try rw [show ((1 : Int)).toNat = 1 from rfl] at s)
       (try rw [show 1 * 5 = 5 from rfl] at s)
       (try simp only [Nat.reduceMul, Nat.reduceEqDiff, Go.Addr.add, ↓reduceIte] at s)
       have u := B
       (try rw [show ((1 : Int)).toNat = 1 from rfl] at u)
       (try rw [show 1 * 5 = 5 from rfl] at u)
       (try simp only [Nat.reduceMul, Nat.reduceEqDiff, Go.Addr.add, ↓reduceIte] at u)
       obtain rfl : a = bZ := (by injection cg)
       (try simp only [show (1 : Int).toNat = 1 from rfl, Nat.reduceMul, Nat.reduceEqDiff, Go.Addr.add, ↓reduceIte] at B)
       (try simp only [show (1 : Int).toNat = 1 from rfl, Nat.reduceMul, Nat.reduceEqDiff, Go.Addr.add, ↓reduceIte] at E)
       (try simp only [show (1 : Int).toNat = 1 from rfl, Nat.reduceMul, Nat.reduceEqDiff, Go.Addr.add, ↓reduceIte] at F)
       (try simp only [show (1 : Int).toNat = 1 from rfl, Nat.reduceMul, Nat.reduceEqDiff, Go.Addr.add, ↓reduceIte] at G)
       (try simp only [show (1 : Int).toNat = 1 from rfl, Nat.reduceMul, Nat.reduceEqDiff, Go.Addr.add, ↓reduceIte] at I)
       have dl : (1 < b.length) = True := et_ (by omega)
       (try rw [show ((1 : Int)).toNat = 1 from rfl] at B)
       (try rw [show 1 * 5 = 5 from rfl] at B)
       (try rw [show ((1 : Int)).toNat = 1 from rfl] at E)
       (try rw [show 1 * 5 = 5 from rfl] at E)
       (try rw [show ((1 : Int)).toNat = 1 from rfl] at F)
       (try rw [show 1 * 5 = 5 from rfl] at F)
       (try rw [show ((1 : Int)).toNat = 1 from rfl] at G)
       (try rw [show 1 * 5 = 5 from rfl] at G)
       (try rw [show ((1 : Int)).toNat = 1 from rfl] at I)
       (try rw [show 1 * 5 = 5 from rfl] at I)
       replace B := (HB.out.cell (wl_ w _ B)).trans B
       replace E := (HB.out.cell (wl_ w _ E)).trans E
       replace F := (HB.out.cell (wl_ w _ F)).trans F
       replace G := (HB.out.cell (wl_ w _ G)).trans G
       replace I := (HB.out.cell (wl_ w _ I)).trans I
       have ab := a_ aa
       have bW := a_ Z
       clear aa Z
       replace p371 := et_ p371
       replace bO := et_ bO
       refine start_ (n := 10) (S := fun w' => w'.cell? a = some (.int .i64 ((rd_T61 b 0).f0)) ∧ w'.cell? ⟨a.block, a.off + 1, none⟩ = some (.slice bL ((rd_T61 b 0).f1).length c369_1) ∧ w'.cell? ⟨a.block, a.off + 2, none⟩ = some (.int .i64 ((rd_T61 b 0).f2)) ∧ w'.cell? ⟨a.block, a.off + 3, none⟩ = some (.int .i64 ((rd_T61 b 0).f3)) ∧ w'.cell? ⟨a.block, a.off + 4, none⟩ = some (.int .i64 ((rd_T61 b 0).f4)) ∧ w'.cell? ⟨a.block, a.off + 5, none⟩ = some (.int .i64 ((rd_T61 b 1).f0)) ∧ w'.cell? ⟨a.block, a.off + 5 + 1, none⟩ = some (.slice bM ((rd_T61 b 1).f1).length c371_1) ∧ w'.cell? ⟨a.block, a.off + 5 + 2, none⟩ = some (.int .i64 ((rd_T61 b 1).f2)) ∧ w'.cell? ⟨a.block, a.off + 5 + 3, none⟩ = some (.int .i64 ((rd_T61 b 1).f3)) ∧ w'.cell? ⟨a.block, a.off + 5 + 4, none⟩ = some (.int .i64 ((rd_T61 b 1).f4))) (ds := []) #[false, false, false, false, false, false, false, false, false, false] kr_ rfl rfl ⟨((HB.out.cell (wl_ w _ o)).trans o), ((HB.out.cell (wl_ w _ m)).trans m), ((HB.out.cell (wl_ w _ l)).trans l), ((HB.out.cell (wl_ w _ g)).trans g), ((HB.out.cell (wl_ w _ d)).trans d), ((HB.out.cell (wl_ w _ u)).trans u), ((HB.out.cell (wl_ w _ s)).trans s), ((HB.out.cell (wl_ w _ r)).trans r), ((HB.out.cell (wl_ w _ q)).trans q), ((HB.out.cell (wl_ w _ p)).trans p)⟩ (fun hHeld => ?_); refine with_tabW mul_Filter.tab3 mul_Filter.bits3 (fun HT_ HW_ => ?_)
       generalize w15.drew = w16 at c HB Y ab v x y z A B E F G I hHeld ⊢
       refine pu_ (i := 0) (N := some 11) ao_ ?_
       refine pu_ (i := 1) (N := some 12) ao_ ?_
       refine pu_ (i := 4) (N := some 15) ao_ ?_
       refine pu_ (i := 5) (N := some 16) ao_ ?_
       refine tak_ (i := 2) (N := some 13) tw_ hHeld ?_
       refine tak_ (i := 6) (N := some 17) tw_ hHeld ?_
       refine one_ (i := 3) (N := some 14) #[true, true, true, true, true, true, true, false, false, false] rfl rfl on_ (by decide) (fun K hK => ?_)
       refine goes_ Tryz.func28 kr_ rfl #[.agg #[.int .i64 ((rd_T61 b 0).f0), .slice bL ((rd_T61 b 0).f1).length c369_1, .int .i64 ((rd_T61 b 0).f2), .int .i64 ((rd_T61 b 0).f3), .int .i64 ((rd_T61 b 0).f4)]] (by rfl) rfl rfl ar_ ?_
       with_reducible refine (dom_Dom_Size.calls ((rd_T61 b 0).f0) _ _ ((rd_T61 b 0).f1) ((rd_T61 b 0).f2) ((rd_T61 b 0).f3) ((rd_T61 b 0).f4) cd _ ?_ ?_ A6.out).mono ?_
       exact ca_ ((cb_ Y.out HB.out))
       exact bV.out
       rintro e w17 ⟨rfl, hb⟩
       refine ⟨_, rfl, ?_⟩
       replace c := a_ (bb_ (bk_ c.out) hb)
       replace HB := hq_ hb
       clear hb
       refine hK.out _ _ ⟨((HB.out.cell (wl_ w _ o)).trans o), ((HB.out.cell (wl_ w _ m)).trans m), ((HB.out.cell (wl_ w _ l)).trans l), ((HB.out.cell (wl_ w _ g)).trans g), ((HB.out.cell (wl_ w _ d)).trans d), ((HB.out.cell (wl_ w _ u)).trans u), ((HB.out.cell (wl_ w _ s)).trans s), ((HB.out.cell (wl_ w _ r)).trans r), ((HB.out.cell (wl_ w _ q)).trans q), ((HB.out.cell (wl_ w _ p)).trans p)⟩ (fun hHeld => ?_)
       clear hK K
       refine nor_ (N := some 14) ?_
       refine one_ (i := 7) (N := some 18) #[true, true, true, true, true, true, true, true, false, false] rfl rfl on_ (by decide) (fun K hK => ?_)
       refine goes_ Tryz.func28 kr_ rfl #[.agg #[.int .i64 ((rd_T61 b 1).f0), .slice bM ((rd_T61 b 1).f1).length c371_1, .int .i64 ((rd_T61 b 1).f2), .int .i64 ((rd_T61 b 1).f3), .int .i64 ((rd_T61 b 1).f4)]] (by rfl) rfl rfl ar_ ?_
       with_reducible refine (dom_Dom_Size.calls ((rd_T61 b 1).f0) _ _ ((rd_T61 b 1).f1) ((rd_T61 b 1).f2) ((rd_T61 b 1).f3) ((rd_T61 b 1).f4) ce _ ?_ ?_ A8.out).mono ?_
       exact ca_ ((cb_ ab.out HB.out))
       exact bW.out
       rintro e w18 ⟨rfl, hb⟩
       refine ⟨_, rfl, ?_⟩
       replace c := a_ (bb_ (bk_ c.out) hb)
       replace HB := hq_ hb
       clear hb
       refine hK.out _ _ ⟨((HB.out.cell (wl_ w _ o)).trans o), ((HB.out.cell (wl_ w _ m)).trans m), ((HB.out.cell (wl_ w _ l)).trans l), ((HB.out.cell (wl_ w _ g)).trans g), ((HB.out.cell (wl_ w _ d)).trans d), ((HB.out.cell (wl_ w _ u)).trans u), ((HB.out.cell (wl_ w _ s)).trans s), ((HB.out.cell (wl_ w _ r)).trans r), ((HB.out.cell (wl_ w _ q)).trans q), ((HB.out.cell (wl_ w _ p)).trans p)⟩ (fun hHeld => ?_)
       clear hK K
       refine nor_ (N := some 18) ?_
       refine pu_ (i := 8) (N := some 19) ao_ ?_
       refine pu_ (i := 9) (N := some 20) ao_ ?_
       refine done_ dn_ ?_
       obtain ⟨_, _, _, _, _, _, _, _, _, _, _, _, _, _, _, _⟩ := cel8_ c.out
       try go_wp2
       replace c := a_ (blk_drew c.out)
       replace HB := a_ (below_drew1 HB.out)
       have p373 : 0 ≤ (0 : Int) := (by omega)
       have cT : 0 < (b.length : Int) := dq_
       obtain ⟨dC, cK, c373_1, dY, ac, ad, ae, af, ag, ch, ci⟩ := at_T61 aY.out 0 p373 cT
       have aZ := ag
       (try rw [show ((0 : Int)).toNat = 0 from rfl] at aZ)
       (try rw [show 0 * 5 = 0 from rfl] at aZ)
       (try rw [Addr.add_zero'] at aZ)
       have a0 := af
       (try rw [show ((0 : Int)).toNat = 0 from rfl] at a0)
       (try rw [show 0 * 5 = 0 from rfl] at a0)
       (try rw [Addr.add_zero'] at a0)
       have a1 := ae
       (try rw [show ((0 : Int)).toNat = 0 from rfl] at a1)
       (try rw [show 0 * 5 = 0 from rfl] at a1)
       (try rw [Addr.add_zero'] at a1)
       have a2 := ad
       (try rw [show ((0 : Int)).toNat = 0 from rfl] at a2)
       (try rw [show 0 * 5 = 0 from rfl] at a2)
       (try rw [Addr.add_zero'] at a2)
       have a3 := ac
       (try rw [show ((0 : Int)).toNat = 0 from rfl] at a3)
       (try rw [show 0 * 5 = 0 from rfl] at a3)
       (try rw [Addr.add_zero'] at a3)
       obtain rfl : a = dC := (by injection dY)
       have ee : (0 < b.length) = True := et_ (by omega)
       (try rw [show ((0 : Int)).toNat = 0 from rfl] at ac)
       (try rw [show 0 * 5 = 0 from rfl] at ac)
       (try rw [Addr.add_zero'] at ac)
       (try rw [show ((0 : Int)).toNat = 0 from rfl] at ad)
       (try rw [show 0 * 5 = 0 from rfl] at ad)
       (try rw [Addr.add_zero'] at ad)
       (try rw [show ((0 : Int)).toNat = 0 from rfl] at ae)
       (try rw [show 0 * 5 = 0 from rfl] at ae)
       (try rw [Addr.add_zero'] at ae)
       (try rw [show ((0 : Int)).toNat = 0 from rfl] at af)
       (try rw [show 0 * 5 = 0 from rfl] at af)
       (try rw [Addr.add_zero'] at af)
       (try rw [show ((0 : Int)).toNat = 0 from rfl] at ag)
       (try rw [show 0 * 5 = 0 from rfl] at ag)
       (try rw [Addr.add_zero'] at ag)
       replace ac := (HB.out.cell (wl_ w _ ac)).trans ac
       replace ad := (HB.out.cell (wl_ w _ ad)).trans ad
       replace ae := (HB.out.cell (wl_ w _ ae)).trans ae
       replace af := (HB.out.cell (wl_ w _ af)).trans af
       replace ag := (HB.out.cell (wl_ w _ ag)).trans ag
       have cj := a_ ci
       have dn := a_ ch
       clear ci ch
       replace p373 := et_ p373
       replace cT := et_ cT
       have p374 : 0 ≤ (1 : Int) := (by omega)
       have cU : 1 < (b.length : Int) := dq_
       obtain ⟨dD, cL, c374_1, dZ, ah, ai, aj, ak, al, ck, cl⟩ := at_T61 aY.out 1 p374 cU
       have a4 := al
       (try rw [show ((1 : Int)).toNat = 1 from rfl] at a4)
       (try rw [show 1 * 5 = 5 from rfl] at a4)
       (try simp only [Nat.reduceMul, Nat.reduceEqDiff, Go.Addr.add, ↓reduceIte] at a4)
       have a5 := ak
       (try rw [show ((1 : Int)).toNat = 1 from rfl] at a5)
       (try rw [show 1 * 5 = 5 from rfl] at a5)
       (try simp only [Nat.reduceMul, Nat.reduceEqDiff, Go.Addr.add, ↓reduceIte] at a5)
       have a6 := aj
       (try rw [show ((1 : Int)).toNat = 1 from rfl] at a6)
       (try rw [show 1 * 5 = 5 from rfl] at a6)
       (try simp only [Nat.reduceMul, Nat.reduceEqDiff, Go.Addr.add, ↓reduceIte] at a6)
       have a7 := ai
       (try rw [show ((1 : Int)).toNat = 1 from rfl] at a7)
       (try rw [show 1 * 5 = 5 from rfl] at a7)
       (try simp only [Nat.reduceMul, Nat.reduceEqDiff, Go.Addr.add, ↓reduceIte] at a7)
       have a8 := ah
       (try rw [show ((1 : Int)).toNat = 1 from rfl] at a8)
       (try rw [show 1 * 5 = 5 from rfl] at a8)
       (try simp only [Nat.reduceMul, Nat.reduceEqDiff, Go.Addr.add, ↓reduceIte] at a8)
       obtain rfl : a = dD := (by injection dZ)
       (try simp only [show (1 : Int).toNat = 1 from rfl, Nat.reduceMul, Nat.reduceEqDiff, Go.Addr.add, ↓reduceIte] at ah)
       (try simp only [show (1 : Int).toNat = 1 from rfl, Nat.reduceMul, Nat.reduceEqDiff, Go.Addr.add, ↓reduceIte] at ai)
       (try simp only [show (1 : Int).toNat = 1 from rfl, Nat.reduceMul, Nat.reduceEqDiff, Go.Addr.add, ↓reduceIte] at aj)
       (try simp only [show (1 : Int).toNat = 1 from rfl, Nat.reduceMul, Nat.reduceEqDiff, Go.Addr.add, ↓reduceIte] at ak)
       (try simp only [show (1 : Int).toNat = 1 from rfl, Nat.reduceMul, Nat.reduceEqDiff, Go.Addr.add, ↓reduceIte] at al)
       have ef : (1 < b.length) = True := et_ (by omega)
       (try rw [show ((1 : Int)).toNat = 1 from rfl] at ah)
       (try rw [show 1 * 5 = 5 from rfl] at ah)
       (try rw [show ((1 : Int)).toNat = 1 from rfl] at ai)
       (try rw [show 1 * 5 = 5 from rfl] at ai)
       (try rw [show ((1 : Int)).toNat = 1 from rfl] at aj)
       (try rw [show 1 * 5 = 5 from rfl] at aj)
       (try rw [show ((1 : Int)).toNat = 1 from rfl] at ak)
       (try rw [show 1 * 5 = 5 from rfl] at ak)
       (try rw [show ((1 : Int)).toNat = 1 from rfl] at al)
       (try rw [show 1 * 5 = 5 from rfl] at al)
       replace ah := (HB.out.cell (wl_ w _ ah)).trans ah
       replace ai := (HB.out.cell (wl_ w _ ai)).trans ai
       replace aj := (HB.out.cell (wl_ w _ aj)).trans aj
       replace ak := (HB.out.cell (wl_ w _ ak)).trans ak
       replace al := (HB.out.cell (wl_ w _ al)).trans al
       have cm := a_ cl
       have dp := a_ ck
       clear cl ck
       replace p374 := et_ p374
       replace cU := et_ cU
       have p375 : 0 ≤ (2 : Int) := (by omega)
       have cV : 2 < (b.length : Int) := dq_
       obtain ⟨dE, cM, c375_1, d0, am, an, ao, ap, aq, cn, co⟩ := at_T61 aY.out 2 p375 cV
       have a9 := aq
       (try rw [show ((2 : Int)).toNat = 2 from rfl] at a9)
       (try rw [show 2 * 5 = 10 from rfl] at a9)
       (try simp only [Nat.reduceMul, Nat.reduceEqDiff, Go.Addr.add, ↓reduceIte] at a9)
       have ba := ap
       (try rw [show ((2 : Int)).toNat = 2 from rfl] at ba)
       (try rw [show 2 * 5 = 10 from rfl] at ba)
       (try simp only [Nat.reduceMul, Nat.reduceEqDiff, Go.Addr.add, ↓reduceIte] at ba)
       have bb := ao
       (try rw [show ((2 : Int)).toNat = 2 from rfl] at bb)
       (try rw [show 2 * 5 = 10 from rfl] at bb)
       (try simp only [Nat.reduceMul, Nat.reduceEqDiff, Go.Addr.add, ↓reduceIte] at bb)
       have bc := an
       (try rw [show ((2 : Int)).toNat = 2 from rfl] at bc)
       (try rw [show 2 * 5 = 10 from rfl] at bc)
       (try simp only [Nat.reduceMul, Nat.reduceEqDiff, Go.Addr.add, ↓reduceIte] at bc)
       have bd := am
       (try rw [show ((2 : Int)).toNat = 2 from rfl] at bd)
       (try rw [show 2 * 5 = 10 from rfl] at bd)
       (try simp only [Nat.reduceMul, Nat.reduceEqDiff, Go.Addr.add, ↓reduceIte] at bd)
       obtain rfl : a = dE := (by injection d0)
       (try simp only [show (2 : Int).toNat = 2 from rfl, Nat.reduceMul, Nat.reduceEqDiff, Go.Addr.add, ↓reduceIte] at am)
       (try simp only [show (2 : Int).toNat = 2 from rfl, Nat.reduceMul, Nat.reduceEqDiff, Go.Addr.add, ↓reduceIte] at an)
       (try simp only [show (2 : Int).toNat = 2 from rfl, Nat.reduceMul, Nat.reduceEqDiff, Go.Addr.add, ↓reduceIte] at ao)
       (try simp only [show (2 : Int).toNat = 2 from rfl, Nat.reduceMul, Nat.reduceEqDiff, Go.Addr.add, ↓reduceIte] at ap)
       (try simp only [show (2 : Int).toNat = 2 from rfl, Nat.reduceMul, Nat.reduceEqDiff, Go.Addr.add, ↓reduceIte] at aq)
       have eg : (2 < b.length) = True := et_ (by omega)
       (try rw [show ((2 : Int)).toNat = 2 from rfl] at am)
       (try rw [show 2 * 5 = 10 from rfl] at am)
       (try rw [show ((2 : Int)).toNat = 2 from rfl] at an)
       (try rw [show 2 * 5 = 10 from rfl] at an)
       (try rw [show ((2 : Int)).toNat = 2 from rfl] at ao)
       (try rw [show 2 * 5 = 10 from rfl] at ao)
       (try rw [show ((2 : Int)).toNat = 2 from rfl] at ap)
       (try rw [show 2 * 5 = 10 from rfl] at ap)
       (try rw [show ((2 : Int)).toNat = 2 from rfl] at aq)
       (try rw [show 2 * 5 = 10 from rfl] at aq)
       replace am := (HB.out.cell (wl_ w _ am)).trans am
       replace an := (HB.out.cell (wl_ w _ an)).trans an
       replace ao := (HB.out.cell (wl_ w _ ao)).trans ao
       replace ap := (HB.out.cell (wl_ w _ ap)).trans ap
       replace aq := (HB.out.cell (wl_ w _ aq)).trans aq
       have cp := a_ co
       have dq := a_ cn
       clear co cn
       replace p375 := et_ p375
       replace cV := et_ cV
       refine start_ (n := 15) (S := fun w' => w'.cell? a = some (.int .i64 ((rd_T61 b 0).f0)) ∧ w'.cell? ⟨a.block, a.off + 1, none⟩ = some (.slice cK ((rd_T61 b 0).f1).length c373_1) ∧ w'.cell? ⟨a.block, a.off + 2, none⟩ = some (.int .i64 ((rd_T61 b 0).f2)) ∧ w'.cell? ⟨a.block, a.off + 3, none⟩ = some (.int .i64 ((rd_T61 b 0).f3)) ∧ w'.cell? ⟨a.block, a.off + 4, none⟩ = some (.int .i64 ((rd_T61 b 0).f4)) ∧ w'.cell? ⟨a.block, a.off + 5, none⟩ = some (.int .i64 ((rd_T61 b 1).f0)) ∧ w'.cell? ⟨a.block, a.off + 5 + 1, none⟩ = some (.slice cL ((rd_T61 b 1).f1).length c374_1) ∧ w'.cell? ⟨a.block, a.off + 5 + 2, none⟩ = some (.int .i64 ((rd_T61 b 1).f2)) ∧ w'.cell? ⟨a.block, a.off + 5 + 3, none⟩ = some (.int .i64 ((rd_T61 b 1).f3)) ∧ w'.cell? ⟨a.block, a.off + 5 + 4, none⟩ = some (.int .i64 ((rd_T61 b 1).f4)) ∧ w'.cell? ⟨a.block, a.off + 10, none⟩ = some (.int .i64 ((rd_T61 b 2).f0)) ∧ w'.cell? ⟨a.block, a.off + 10 + 1, none⟩ = some (.slice cM ((rd_T61 b 2).f1).length c375_1) ∧ w'.cell? ⟨a.block, a.off + 10 + 2, none⟩ = some (.int .i64 ((rd_T61 b 2).f2)) ∧ w'.cell? ⟨a.block, a.off + 10 + 3, none⟩ = some (.int .i64 ((rd_T61 b 2).f3)) ∧ w'.cell? ⟨a.block, a.off + 10 + 4, none⟩ = some (.int .i64 ((rd_T61 b 2).f4))) (ds := []) #[false, false, false, false, false, false, false, false, false, false, false, false, false, false, false] kr_ rfl rfl ⟨((HB.out.cell (wl_ w _ a3)).trans a3), ((HB.out.cell (wl_ w _ a2)).trans a2), ((HB.out.cell (wl_ w _ a1)).trans a1), ((HB.out.cell (wl_ w _ a0)).trans a0), ((HB.out.cell (wl_ w _ aZ)).trans aZ), ((HB.out.cell (wl_ w _ a8)).trans a8), ((HB.out.cell (wl_ w _ a7)).trans a7), ((HB.out.cell (wl_ w _ a6)).trans a6), ((HB.out.cell (wl_ w _ a5)).trans a5), ((HB.out.cell (wl_ w _ a4)).trans a4), ((HB.out.cell (wl_ w _ bd)).trans bd), ((HB.out.cell (wl_ w _ bc)).trans bc), ((HB.out.cell (wl_ w _ bb)).trans bb), ((HB.out.cell (wl_ w _ ba)).trans ba), ((HB.out.cell (wl_ w _ a9)).trans a9)⟩ (fun hHeld => ?_); refine with_tabW mul_Filter.tab11 mul_Filter.bits11 (fun HT_ HW_ => ?_)
       generalize w18.drew = w20 at c HB cj cm cp ac ad ae af ag ah ai aj ak al am an ao ap aq hHeld ⊢
       refine pu_ (i := 0) (N := some 32) ao_ ?_
       refine pu_ (i := 1) (N := some 33) ao_ ?_
       refine pu_ (i := 3) (N := some 35) ao_ ?_
       refine pu_ (i := 4) (N := some 36) ao_ ?_
       refine pu_ (i := 6) (N := some 38) ao_ ?_
       refine pu_ (i := 7) (N := some 39) ao_ ?_
       refine pu_ (i := 9) (N := some 41) ao_ ?_
       refine tak_ (i := 2) (N := some 34) tw_ hHeld ?_
       refine tak_ (i := 5) (N := some 37) tw_ hHeld ?_
       refine tak_ (i := 8) (N := some 40) tw_ hHeld ?_
       refine one_ (i := 10) (N := some 42) #[true, true, true, true, true, true, true, true, true, true, true, false, false, false, false] rfl rfl on_ (by decide) (fun K hK => ?_)
       refine goes_ Tryz.func33 kr_ rfl #[.agg #[.int .i64 ((rd_T61 b 0).f0), .slice cK ((rd_T61 b 0).f1).length c373_1, .int .i64 ((rd_T61 b 0).f2), .int .i64 ((rd_T61 b 0).f3), .int .i64 ((rd_T61 b 0).f4)], .agg #[.int .i64 ((rd_T61 b 1).f0), .slice cL ((rd_T61 b 1).f1).length c374_1, .int .i64 ((rd_T61 b 1).f2), .int .i64 ((rd_T61 b 1).f3), .int .i64 ((rd_T61 b 1).f4)], .agg #[.int .i64 ((rd_T61 b 2).f0), .slice cM ((rd_T61 b 2).f1).length c375_1, .int .i64 ((rd_T61 b 2).f2), .int .i64 ((rd_T61 b 2).f3), .int .i64 ((rd_T61 b 2).f4)], .func (.func 31) #[] #[]] (by rfl) rfl rfl ar_ ?_
       with_reducible refine (prop_Pairs_at_num_Quo.calls k ((rd_T61 b 0).f0) _ _ ((rd_T61 b 0).f1) ((rd_T61 b 0).f2) ((rd_T61 b 0).f3) ((rd_T61 b 0).f4) ((rd_T61 b 1).f0) _ _ ((rd_T61 b 1).f1) ((rd_T61 b 1).f2) ((rd_T61 b 1).f3) ((rd_T61 b 1).f4) ((rd_T61 b 2).f0) _ _ ((rd_T61 b 2).f1) ((rd_T61 b 2).f2) ((rd_T61 b 2).f3) ((rd_T61 b 2).f4) dW dX _ ?_ ?_ ?_ ?_ ?_ ?_ ?_ eb.out).mono ?_
       exact ca_ ((cb_ cj.out HB.out))
       exact dn.out
       exact ca_ ((cb_ cm.out HB.out))
       exact dp.out
       exact ca_ ((cb_ cp.out HB.out))
       exact dq.out
       exact ca_ ((cb_ HRtab.out HB.out))
       rintro e w21 ⟨en, rfl, b0, hb⟩
       refine ⟨_, rfl, ?_⟩
       have dF := a_ (Kd.N_lower (nm_ (ok' := fun k_ => (w.heap.size ≤ k_) ∧ k_ ≠ bK) b0 (fun k_ hk_ => ⟨(Nat.le_trans (bz_ bel_) hk_), (Kd.freshB (bk_ c.out) k_ hk_)⟩)) (bz_ bel_))
       replace HB := hq_ hb
       clear hb b0
       refine hK.out _ _ ⟨((HB.out.cell (wl_ w _ a3)).trans a3), ((HB.out.cell (wl_ w _ a2)).trans a2), ((HB.out.cell (wl_ w _ a1)).trans a1), ((HB.out.cell (wl_ w _ a0)).trans a0), ((HB.out.cell (wl_ w _ aZ)).trans aZ), ((HB.out.cell (wl_ w _ a8)).trans a8), ((HB.out.cell (wl_ w _ a7)).trans a7), ((HB.out.cell (wl_ w _ a6)).trans a6), ((HB.out.cell (wl_ w _ a5)).trans a5), ((HB.out.cell (wl_ w _ a4)).trans a4), ((HB.out.cell (wl_ w _ bd)).trans bd), ((HB.out.cell (wl_ w _ bc)).trans bc), ((HB.out.cell (wl_ w _ bb)).trans bb), ((HB.out.cell (wl_ w _ ba)).trans ba), ((HB.out.cell (wl_ w _ a9)).trans a9)⟩ (fun hHeld => ?_)
       clear hK K
       refine nor_ (N := some 42) ?_
       refine pu_ (i := 11) (N := some 43) ao_ ?_
       refine pu_ (i := 12) (N := some 44) ao_ ?_
       refine pu_ (i := 13) (N := some 4) ao_ ?_
       refine pu_ (i := 14) (N := some 5) ao_ ?_
       refine done_ dn_ ?_
       try go_wp2
       go_ret2
       exact ⟨_, er_, by refine vN_ ?_; exact nm_ dF.out (fun _ hk => hk.1), bel_⟩
      ·
       rw [ig_ c11] at H
       exact absurd H (by simp)
     ·
      rw [ig_ c10] at H
      have c10b0 : (J == 6) = false := be_.mpr c10
      have c10b1 : (J != 6) = true := ni_.mpr c10
      by_cases c22 : J = 7
      ·
       rw [ip_ c22] at H
       have c22b0 : (J == 7) = true := beq_iff_eq.mpr c22
       have c22b1 : (J != 7) = false := bn_.mpr c22
       clear c22
       by_cases c23 : 2 < (b.length : Int)
       ·
        rw [ip_ c23] at H
        have c23b0 : decide (2 < (b.length : Int)) = true := dt_ c23
        have c23b1 : decide (2 < b.length) = true := dt_ (by omega)
        clear c23
        replace H := bs_.mp H
        obtain ⟨⟨d1, d2⟩, dz, H⟩ := H
        try dsimp only at H
        have ec := a_ dz
        clear dz
        simp only [Option.some.injEq, Prod.mk.injEq] at H
        obtain ⟨rfl, rfl⟩ := H
        go_enter Tryz.func10, Tryz.ntmps10
        try go_wp2_with (first | ((with_reducible refine gate_dst (N := 2) rfl ?_); refine bxe_ (N := 2) (cs := #[.int .i64 J, .slice bP M.length c0_1, .slice bQ O.length c0_2, .slice bR P.length c0_3, .slice bS Q.length c0_4, .slice bT U.length c0_5, .int .i64 aX, .slice bU V.length c0_7]) (t := 32) ?_; intro bK hg w25 hbox hb; have c := a_ (hbox); have bX := a_ (by rw [hg]; exact (bz_ bel_) : w.heap.size ≤ bK); have cJ := bX; replace HB := hq_ hb; clear hb hbox hg; obtain ⟨_, _, _, _, _, _, _, _, _, _, _, _, _, _, _, _⟩ := cel8_ c.out) | ((with_reducible refine gate_callee (f := 27) rfl ?_); refine goesL_ (some 9) rfl rfl Tryz.func27 kr_ rfl #[.agg #[.int .i64 J, .slice bP M.length c0_1, .slice bQ O.length c0_2, .slice bR P.length c0_3, .slice bS Q.length c0_4, .slice bT U.length c0_5, .int .i64 aX, .slice bU V.length c0_7], .slice A1 b.length c1, .int .i64 5, .int .i64 7] rfl ar_ ?_; (with_reducible refine (prop_Fits.calls k J _ _ M _ _ O _ _ P _ _ Q _ _ U aX _ _ V _ _ b 5 7 true _ ?_ ?_ ?_ ?_ ?_ ?_ ?_ ?_ ?_ ?_ ?_ ?_ ?_ ?_ A3.out).mono ?_); exact ca_ ((cb_ b1.out HB.out)); exact b2.out; exact ca_ ((cb_ b3.out HB.out)); exact b4.out; exact ca_ ((cb_ b5.out HB.out)); exact b6.out; exact ca_ ((cb_ b7.out HB.out)); exact b8.out; exact ca_ ((cb_ b9.out HB.out)); exact ca.out; exact ca_ ((cb_ cb.out HB.out)); exact cc.out; exact ca_ ((cb_ aY.out HB.out)); exact dj.out; rintro e w27 ⟨rfl, hb⟩; refine ⟨_, rfl, ?_⟩; replace c := a_ (bb_ (bk_ c.out) hb); replace HB := hq_ hb; clear hb))
        replace c := a_ (blk_drew c.out)
        replace HB := a_ (below_drew1 HB.out)
        have p369 : 0 ≤ (0 : Int) := (by omega)
        have bN : 0 < (b.length : Int) := dq_
        obtain ⟨a, bL, c369_1, cf, v, x, y, z, A, W, X⟩ := at_T61 aY.out 0 p369 bN
        have d := A
        (try rw [show ((0 : Int)).toNat = 0 from rfl] at d)
        (try rw [show 0 * 5 = 0 from rfl] at d)
        (try rw [Addr.add_zero'] at d)
        have g := z
        (try rw [show ((0 : Int)).toNat = 0 from rfl] at g)
        (try rw [show 0 * 5 = 0 from rfl] at g)
        (try rw [Addr.add_zero'] at g)
        have l := y
        (try rw [show ((0 : Int)).toNat = 0 from rfl] at l)
        (try rw [show 0 * 5 = 0 from rfl] at l)
        (try rw [Addr.add_zero'] at l)
        have m := x
        (try rw [show ((0 : Int)).toNat = 0 from rfl] at m)
        (try rw [show 0 * 5 = 0 from rfl] at m)
        (try rw [Addr.add_zero'] at m)
        have o := v
        (try rw [show ((0 : Int)).toNat = 0 from rfl] at o)
        (try rw [show 0 * 5 = 0 from rfl] at o)
        (try rw [Addr.add_zero'] at o)
        cases cf
        have dk : (0 < b.length) = True := et_ (by omega)
        (try rw [show ((0 : Int)).toNat = 0 from rfl] at v)
        (try rw [show 0 * 5 = 0 from rfl] at v)
        (try rw [Addr.add_zero'] at v)
        (try rw [show ((0 : Int)).toNat = 0 from rfl] at x)
        (try rw [show 0 * 5 = 0 from rfl] at x)
        (try rw [Addr.add_zero'] at x)
        (try rw [show ((0 : Int)).toNat = 0 from rfl] at y)
        (try rw [show 0 * 5 = 0 from rfl] at y)
        (try rw [Addr.add_zero'] at y)
        (try rw [show ((0 : Int)).toNat = 0 from rfl] at z)
        (try rw [show 0 * 5 = 0 from rfl] at z)
        (try rw [Addr.add_zero'] at z)
        (try rw [show ((0 : Int)).toNat = 0 from rfl] at A)
        (try rw [show 0 * 5 = 0 from rfl] at A)
        (try rw [Addr.add_zero'] at A)
        replace v := (HB.out.cell (wl_ w _ v)).trans v
        replace x := (HB.out.cell (wl_ w _ x)).trans x
        replace y := (HB.out.cell (wl_ w _ y)).trans y
        replace z := (HB.out.cell (wl_ w _ z)).trans z
        replace A := (HB.out.cell (wl_ w _ A)).trans A
        have Y := a_ X
        have bV := a_ W
        clear X W
        replace p369 := et_ p369
        replace bN := et_ bN
        have p371 : 0 ≤ (1 : Int) := (by omega)
        have bO : 1 < (b.length : Int) := dq_
        obtain ⟨bZ, bM, c371_1, cg, B, E, F, G, I, Z, aa⟩ := at_T61 aY.out 1 p371 bO
        have p := I
        (try rw [show ((1 : Int)).toNat = 1 from rfl] at p)
        (try rw [show 1 * 5 = 5 from rfl] at p)
        (try simp only [Nat.reduceMul, Nat.reduceEqDiff, Go.Addr.add, ↓reduceIte] at p)
        have q := G
        (try rw [show ((1 : Int)).toNat = 1 from rfl] at q)
        (try rw [show 1 * 5 = 5 from rfl] at q)
        (try simp only [Nat.reduceMul, Nat.reduceEqDiff, Go.Addr.add, ↓reduceIte] at q)
        have r := F
        (try rw [show ((1 : Int)).toNat = 1 from rfl] at r)
        (try rw [show 1 * 5 = 5 from rfl] at r)
        (try simp only [Nat.reduceMul, Nat.reduceEqDiff, Go.Addr.add, ↓reduceIte] at r)
        have s := E
        (try rw [show ((1 : Int)).toNat = 1 from rfl] at s)
        (try rw [show 1 * 5 = 5 from rfl] at s)
        (try simp only [Nat.reduceMul, Nat.reduceEqDiff, Go.Addr.add, ↓reduceIte] at s)
        have u := B
        (try rw [show ((1 : Int)).toNat = 1 from rfl] at u)
        (try rw [show 1 * 5 = 5 from rfl] at u)
        (try simp only [Nat.reduceMul, Nat.reduceEqDiff, Go.Addr.add, ↓reduceIte] at u)
        obtain rfl : a = bZ := (by injection cg)
        (try simp only [show (1 : Int).toNat = 1 from rfl, Nat.reduceMul, Nat.reduceEqDiff, Go.Addr.add, ↓reduceIte] at B)
        (try simp only [show (1 : Int).toNat = 1 from rfl, Nat.reduceMul, Nat.reduceEqDiff, Go.Addr.add, ↓reduceIte] at E)
        (try simp only [show (1 : Int).toNat = 1 from rfl, Nat.reduceMul, Nat.reduceEqDiff, Go.Addr.add, ↓reduceIte] at F)
        (try simp only [show (1 : Int).toNat = 1 from rfl, Nat.reduceMul, Nat.reduceEqDiff, Go.Addr.add, ↓reduceIte] at G)
        (try simp only [show (1 : Int).toNat = 1 from rfl, Nat.reduceMul, Nat.reduceEqDiff, Go.Addr.add, ↓reduceIte] at I)
        have dl : (1 < b.length) = True := et_ (by omega)
        (try rw [show ((1 : Int)).toNat = 1 from rfl] at B)
        (try rw [show 1 * 5 = 5 from rfl] at B)
        (try rw [show ((1 : Int)).toNat = 1 from rfl] at E)
        (try rw [show 1 * 5 = 5 from rfl] at E)
        (try rw [show ((1 : Int)).toNat = 1 from rfl] at F)
        (try rw [show 1 * 5 = 5 from rfl] at F)
        (try rw [show ((1 : Int)).toNat = 1 from rfl] at G)
        (try rw [show 1 * 5 = 5 from rfl] at G)
        (try rw [show ((1 : Int)).toNat = 1 from rfl] at I)
        (try rw [show 1 * 5 = 5 from rfl] at I)
        replace B := (HB.out.cell (wl_ w _ B)).trans B
        replace E := (HB.out.cell (wl_ w _ E)).trans E
        replace F := (HB.out.cell (wl_ w _ F)).trans F
        replace G := (HB.out.cell (wl_ w _ G)).trans G
        replace I := (HB.out.cell (wl_ w _ I)).trans I
        have ab := a_ aa
        have bW := a_ Z
        clear aa Z
        replace p371 := et_ p371
        replace bO := et_ bO
        refine start_ (n := 10) (S := fun w' => w'.cell? a = some (.int .i64 ((rd_T61 b 0).f0)) ∧ w'.cell? ⟨a.block, a.off + 1, none⟩ = some (.slice bL ((rd_T61 b 0).f1).length c369_1) ∧ w'.cell? ⟨a.block, a.off + 2, none⟩ = some (.int .i64 ((rd_T61 b 0).f2)) ∧ w'.cell? ⟨a.block, a.off + 3, none⟩ = some (.int .i64 ((rd_T61 b 0).f3)) ∧ w'.cell? ⟨a.block, a.off + 4, none⟩ = some (.int .i64 ((rd_T61 b 0).f4)) ∧ w'.cell? ⟨a.block, a.off + 5, none⟩ = some (.int .i64 ((rd_T61 b 1).f0)) ∧ w'.cell? ⟨a.block, a.off + 5 + 1, none⟩ = some (.slice bM ((rd_T61 b 1).f1).length c371_1) ∧ w'.cell? ⟨a.block, a.off + 5 + 2, none⟩ = some (.int .i64 ((rd_T61 b 1).f2)) ∧ w'.cell? ⟨a.block, a.off + 5 + 3, none⟩ = some (.int .i64 ((rd_T61 b 1).f3)) ∧ w'.cell? ⟨a.block, a.off + 5 + 4, none⟩ = some (.int .i64 ((rd_T61 b 1).f4))) (ds := []) #[false, false, false, false, false, false, false, false, false, false] kr_ rfl rfl ⟨((HB.out.cell (wl_ w _ o)).trans o), ((HB.out.cell (wl_ w _ m)).trans m), ((HB.out.cell (wl_ w _ l)).trans l), ((HB.out.cell (wl_ w _ g)).trans g), ((HB.out.cell (wl_ w _ d)).trans d), ((HB.out.cell (wl_ w _ u)).trans u), ((HB.out.cell (wl_ w _ s)).trans s), ((HB.out.cell (wl_ w _ r)).trans r), ((HB.out.cell (wl_ w _ q)).trans q), ((HB.out.cell (wl_ w _ p)).trans p)⟩ (fun hHeld => ?_); refine with_tabW mul_Filter.tab3 mul_Filter.bits3 (fun HT_ HW_ => ?_)
        generalize w27.drew = w28 at c HB Y ab v x y z A B E F G I hHeld ⊢
        refine pu_ (i := 0) (N := some 11) ao_ ?_
        refine pu_ (i := 1) (N := some 12) ao_ ?_
        refine pu_ (i := 4) (N := some 15) ao_ ?_
        refine pu_ (i := 5) (N := some 16) ao_ ?_
        refine tak_ (i := 2) (N := some 13) tw_ hHeld ?_
        refine tak_ (i := 6) (N := some 17) tw_ hHeld ?_
        refine one_ (i := 3) (N := some 14) #[true, true, true, true, true, true, true, false, false, false] rfl rfl on_ (by decide) (fun K hK => ?_)
        refine goes_ Tryz.func28 kr_ rfl #[.agg #[.int .i64 ((rd_T61 b 0).f0), .slice bL ((rd_T61 b 0).f1).length c369_1, .int .i64 ((rd_T61 b 0).f2), .int .i64 ((rd_T61 b 0).f3), .int .i64 ((rd_T61 b 0).f4)]] (by rfl) rfl rfl ar_ ?_
        with_reducible refine (dom_Dom_Size.calls ((rd_T61 b 0).f0) _ _ ((rd_T61 b 0).f1) ((rd_T61 b 0).f2) ((rd_T61 b 0).f3) ((rd_T61 b 0).f4) cd _ ?_ ?_ A6.out).mono ?_
        exact ca_ ((cb_ Y.out HB.out))
        exact bV.out
        rintro e w29 ⟨rfl, hb⟩
        refine ⟨_, rfl, ?_⟩
        replace c := a_ (bb_ (bk_ c.out) hb)
        replace HB := hq_ hb
        clear hb
        refine hK.out _ _ ⟨((HB.out.cell (wl_ w _ o)).trans o), ((HB.out.cell (wl_ w _ m)).trans m), ((HB.out.cell (wl_ w _ l)).trans l), ((HB.out.cell (wl_ w _ g)).trans g), ((HB.out.cell (wl_ w _ d)).trans d), ((HB.out.cell (wl_ w _ u)).trans u), ((HB.out.cell (wl_ w _ s)).trans s), ((HB.out.cell (wl_ w _ r)).trans r), ((HB.out.cell (wl_ w _ q)).trans q), ((HB.out.cell (wl_ w _ p)).trans p)⟩ (fun hHeld => ?_)
        clear hK K
        refine nor_ (N := some 14) ?_
        refine one_ (i := 7) (N := some 18) #[true, true, true, true, true, true, true, true, false, false] rfl rfl on_ (by decide) (fun K hK => ?_)
        refine goes_ Tryz.func28 kr_ rfl #[.agg #[.int .i64 ((rd_T61 b 1).f0), .slice bM ((rd_T61 b 1).f1).length c371_1, .int .i64 ((rd_T61 b 1).f2), .int .i64 ((rd_T61 b 1).f3), .int .i64 ((rd_T61 b 1).f4)]] (by rfl) rfl rfl ar_ ?_
        with_reducible refine (dom_Dom_Size.calls ((rd_T61 b 1).f0) _ _ ((rd_T61 b 1).f1) ((rd_T61 b 1).f2) ((rd_T61 b 1).f3) ((rd_T61 b 1).f4) ce _ ?_ ?_ A8.out).mono ?_
        exact ca_ ((cb_ ab.out HB.out))
        exact bW.out
        rintro e w30 ⟨rfl, hb⟩
        refine ⟨_, rfl, ?_⟩
        replace c := a_ (bb_ (bk_ c.out) hb)
        replace HB := hq_ hb
        clear hb
        refine hK.out _ _ ⟨((HB.out.cell (wl_ w _ o)).trans o), ((HB.out.cell (wl_ w _ m)).trans m), ((HB.out.cell (wl_ w _ l)).trans l), ((HB.out.cell (wl_ w _ g)).trans g), ((HB.out.cell (wl_ w _ d)).trans d), ((HB.out.cell (wl_ w _ u)).trans u), ((HB.out.cell (wl_ w _ s)).trans s), ((HB.out.cell (wl_ w _ r)).trans r), ((HB.out.cell (wl_ w _ q)).trans q), ((HB.out.cell (wl_ w _ p)).trans p)⟩ (fun hHeld => ?_)
        clear hK K
        refine nor_ (N := some 18) ?_
        refine pu_ (i := 8) (N := some 19) ao_ ?_
        refine pu_ (i := 9) (N := some 20) ao_ ?_
        refine done_ dn_ ?_
        obtain ⟨_, _, _, _, _, _, _, _, _, _, _, _, _, _, _, _⟩ := cel8_ c.out
        try go_wp2
        replace c := a_ (blk_drew c.out)
        replace HB := a_ (below_drew1 HB.out)
        have p380 : 0 ≤ (0 : Int) := (by omega)
        have cW : 0 < (b.length : Int) := dq_
        obtain ⟨dG, cN, c380_1, d3, ar, au, av, aw, ax, cq, cr⟩ := at_T61 aY.out 0 p380 cW
        have be := ax
        (try rw [show ((0 : Int)).toNat = 0 from rfl] at be)
        (try rw [show 0 * 5 = 0 from rfl] at be)
        (try rw [Addr.add_zero'] at be)
        have bf := aw
        (try rw [show ((0 : Int)).toNat = 0 from rfl] at bf)
        (try rw [show 0 * 5 = 0 from rfl] at bf)
        (try rw [Addr.add_zero'] at bf)
        have bg := av
        (try rw [show ((0 : Int)).toNat = 0 from rfl] at bg)
        (try rw [show 0 * 5 = 0 from rfl] at bg)
        (try rw [Addr.add_zero'] at bg)
        have bh := au
        (try rw [show ((0 : Int)).toNat = 0 from rfl] at bh)
        (try rw [show 0 * 5 = 0 from rfl] at bh)
        (try rw [Addr.add_zero'] at bh)
        have bi := ar
        (try rw [show ((0 : Int)).toNat = 0 from rfl] at bi)
        (try rw [show 0 * 5 = 0 from rfl] at bi)
        (try rw [Addr.add_zero'] at bi)
        obtain rfl : a = dG := (by injection d3)
        have eh : (0 < b.length) = True := et_ (by omega)
        (try rw [show ((0 : Int)).toNat = 0 from rfl] at ar)
        (try rw [show 0 * 5 = 0 from rfl] at ar)
        (try rw [Addr.add_zero'] at ar)
        (try rw [show ((0 : Int)).toNat = 0 from rfl] at au)
        (try rw [show 0 * 5 = 0 from rfl] at au)
        (try rw [Addr.add_zero'] at au)
        (try rw [show ((0 : Int)).toNat = 0 from rfl] at av)
        (try rw [show 0 * 5 = 0 from rfl] at av)
        (try rw [Addr.add_zero'] at av)
        (try rw [show ((0 : Int)).toNat = 0 from rfl] at aw)
        (try rw [show 0 * 5 = 0 from rfl] at aw)
        (try rw [Addr.add_zero'] at aw)
        (try rw [show ((0 : Int)).toNat = 0 from rfl] at ax)
        (try rw [show 0 * 5 = 0 from rfl] at ax)
        (try rw [Addr.add_zero'] at ax)
        replace ar := (HB.out.cell (wl_ w _ ar)).trans ar
        replace au := (HB.out.cell (wl_ w _ au)).trans au
        replace av := (HB.out.cell (wl_ w _ av)).trans av
        replace aw := (HB.out.cell (wl_ w _ aw)).trans aw
        replace ax := (HB.out.cell (wl_ w _ ax)).trans ax
        have ct := a_ cr
        have dr := a_ cq
        clear cr cq
        replace p380 := et_ p380
        replace cW := et_ cW
        have p381 : 0 ≤ (1 : Int) := (by omega)
        have cX : 1 < (b.length : Int) := dq_
        obtain ⟨dH, cO, c381_1, d4, ay, az, aA, aB, aC, cu, cv⟩ := at_T61 aY.out 1 p381 cX
        have bj := aC
        (try rw [show ((1 : Int)).toNat = 1 from rfl] at bj)
        (try rw [show 1 * 5 = 5 from rfl] at bj)
        (try simp only [Nat.reduceMul, Nat.reduceEqDiff, Go.Addr.add, ↓reduceIte] at bj)
        have bk := aB
        (try rw [show ((1 : Int)).toNat = 1 from rfl] at bk)
        (try rw [show 1 * 5 = 5 from rfl] at bk)
        (try simp only [Nat.reduceMul, Nat.reduceEqDiff, Go.Addr.add, ↓reduceIte] at bk)
        have bl := aA
        (try rw [show ((1 : Int)).toNat = 1 from rfl] at bl)
        (try rw [show 1 * 5 = 5 from rfl] at bl)
        (try simp only [Nat.reduceMul, Nat.reduceEqDiff, Go.Addr.add, ↓reduceIte] at bl)
        have bm := az
        (try rw [show ((1 : Int)).toNat = 1 from rfl] at bm)
        (try rw [show 1 * 5 = 5 from rfl] at bm)
        (try simp only [Nat.reduceMul, Nat.reduceEqDiff, Go.Addr.add, ↓reduceIte] at bm)
        have bn := ay
        (try rw [show ((1 : Int)).toNat = 1 from rfl] at bn)
        (try rw [show 1 * 5 = 5 from rfl] at bn)
        (try simp only [Nat.reduceMul, Nat.reduceEqDiff, Go.Addr.add, ↓reduceIte] at bn)
        obtain rfl : a = dH := (by injection d4)
        (try simp only [show (1 : Int).toNat = 1 from rfl, Nat.reduceMul, Nat.reduceEqDiff, Go.Addr.add, ↓reduceIte] at ay)
        (try simp only [show (1 : Int).toNat = 1 from rfl, Nat.reduceMul, Nat.reduceEqDiff, Go.Addr.add, ↓reduceIte] at az)
        (try simp only [show (1 : Int).toNat = 1 from rfl, Nat.reduceMul, Nat.reduceEqDiff, Go.Addr.add, ↓reduceIte] at aA)
        (try simp only [show (1 : Int).toNat = 1 from rfl, Nat.reduceMul, Nat.reduceEqDiff, Go.Addr.add, ↓reduceIte] at aB)
        (try simp only [show (1 : Int).toNat = 1 from rfl, Nat.reduceMul, Nat.reduceEqDiff, Go.Addr.add, ↓reduceIte] at aC)
        have ei : (1 < b.length) = True := et_ (by omega)
        (try rw [show ((1 : Int)).toNat = 1 from rfl] at ay)
        (try rw [show 1 * 5 = 5 from rfl] at ay)
        (try rw [show ((1 : Int)).toNat = 1 from rfl] at az)
        (try rw [show 1 * 5 = 5 from rfl] at az)
        (try rw [show ((1 : Int)).toNat = 1 from rfl] at aA)
        (try rw [show 1 * 5 = 5 from rfl] at aA)
        (try rw [show ((1 : Int)).toNat = 1 from rfl] at aB)
        (try rw [show 1 * 5 = 5 from rfl] at aB)
        (try rw [show ((1 : Int)).toNat = 1 from rfl] at aC)
        (try rw [show 1 * 5 = 5 from rfl] at aC)
        replace ay := (HB.out.cell (wl_ w _ ay)).trans ay
        replace az := (HB.out.cell (wl_ w _ az)).trans az
        replace aA := (HB.out.cell (wl_ w _ aA)).trans aA
        replace aB := (HB.out.cell (wl_ w _ aB)).trans aB
        replace aC := (HB.out.cell (wl_ w _ aC)).trans aC
        have cw := a_ cv
        have dt := a_ cu
        clear cv cu
        replace p381 := et_ p381
        replace cX := et_ cX
        have p382 : 0 ≤ (2 : Int) := (by omega)
        have cY : 2 < (b.length : Int) := dq_
        obtain ⟨dI, cP, c382_1, d5, aD, aE, aF, aG, aH, cx, cy⟩ := at_T61 aY.out 2 p382 cY
        have bo := aH
        (try rw [show ((2 : Int)).toNat = 2 from rfl] at bo)
        (try rw [show 2 * 5 = 10 from rfl] at bo)
        (try simp only [Nat.reduceMul, Nat.reduceEqDiff, Go.Addr.add, ↓reduceIte] at bo)
        have bp := aG
        (try rw [show ((2 : Int)).toNat = 2 from rfl] at bp)
        (try rw [show 2 * 5 = 10 from rfl] at bp)
        (try simp only [Nat.reduceMul, Nat.reduceEqDiff, Go.Addr.add, ↓reduceIte] at bp)
        have bq := aF
        (try rw [show ((2 : Int)).toNat = 2 from rfl] at bq)
        (try rw [show 2 * 5 = 10 from rfl] at bq)
        (try simp only [Nat.reduceMul, Nat.reduceEqDiff, Go.Addr.add, ↓reduceIte] at bq)
        have br := aE
        (try rw [show ((2 : Int)).toNat = 2 from rfl] at br)
        (try rw [show 2 * 5 = 10 from rfl] at br)
        (try simp only [Nat.reduceMul, Nat.reduceEqDiff, Go.Addr.add, ↓reduceIte] at br)
        have bs := aD
        (try rw [show ((2 : Int)).toNat = 2 from rfl] at bs)
        (try rw [show 2 * 5 = 10 from rfl] at bs)
        (try simp only [Nat.reduceMul, Nat.reduceEqDiff, Go.Addr.add, ↓reduceIte] at bs)
        obtain rfl : a = dI := (by injection d5)
        (try simp only [show (2 : Int).toNat = 2 from rfl, Nat.reduceMul, Nat.reduceEqDiff, Go.Addr.add, ↓reduceIte] at aD)
        (try simp only [show (2 : Int).toNat = 2 from rfl, Nat.reduceMul, Nat.reduceEqDiff, Go.Addr.add, ↓reduceIte] at aE)
        (try simp only [show (2 : Int).toNat = 2 from rfl, Nat.reduceMul, Nat.reduceEqDiff, Go.Addr.add, ↓reduceIte] at aF)
        (try simp only [show (2 : Int).toNat = 2 from rfl, Nat.reduceMul, Nat.reduceEqDiff, Go.Addr.add, ↓reduceIte] at aG)
        (try simp only [show (2 : Int).toNat = 2 from rfl, Nat.reduceMul, Nat.reduceEqDiff, Go.Addr.add, ↓reduceIte] at aH)
        have ej : (2 < b.length) = True := et_ (by omega)
        (try rw [show ((2 : Int)).toNat = 2 from rfl] at aD)
        (try rw [show 2 * 5 = 10 from rfl] at aD)
        (try rw [show ((2 : Int)).toNat = 2 from rfl] at aE)
        (try rw [show 2 * 5 = 10 from rfl] at aE)
        (try rw [show ((2 : Int)).toNat = 2 from rfl] at aF)
        (try rw [show 2 * 5 = 10 from rfl] at aF)
        (try rw [show ((2 : Int)).toNat = 2 from rfl] at aG)
        (try rw [show 2 * 5 = 10 from rfl] at aG)
        (try rw [show ((2 : Int)).toNat = 2 from rfl] at aH)
        (try rw [show 2 * 5 = 10 from rfl] at aH)
        replace aD := (HB.out.cell (wl_ w _ aD)).trans aD
        replace aE := (HB.out.cell (wl_ w _ aE)).trans aE
        replace aF := (HB.out.cell (wl_ w _ aF)).trans aF
        replace aG := (HB.out.cell (wl_ w _ aG)).trans aG
        replace aH := (HB.out.cell (wl_ w _ aH)).trans aH
        have cz := a_ cy
        have du := a_ cx
        clear cy cx
        replace p382 := et_ p382
        replace cY := et_ cY
        refine start_ (n := 15) (S := fun w' => w'.cell? a = some (.int .i64 ((rd_T61 b 0).f0)) ∧ w'.cell? ⟨a.block, a.off + 1, none⟩ = some (.slice cN ((rd_T61 b 0).f1).length c380_1) ∧ w'.cell? ⟨a.block, a.off + 2, none⟩ = some (.int .i64 ((rd_T61 b 0).f2)) ∧ w'.cell? ⟨a.block, a.off + 3, none⟩ = some (.int .i64 ((rd_T61 b 0).f3)) ∧ w'.cell? ⟨a.block, a.off + 4, none⟩ = some (.int .i64 ((rd_T61 b 0).f4)) ∧ w'.cell? ⟨a.block, a.off + 5, none⟩ = some (.int .i64 ((rd_T61 b 1).f0)) ∧ w'.cell? ⟨a.block, a.off + 5 + 1, none⟩ = some (.slice cO ((rd_T61 b 1).f1).length c381_1) ∧ w'.cell? ⟨a.block, a.off + 5 + 2, none⟩ = some (.int .i64 ((rd_T61 b 1).f2)) ∧ w'.cell? ⟨a.block, a.off + 5 + 3, none⟩ = some (.int .i64 ((rd_T61 b 1).f3)) ∧ w'.cell? ⟨a.block, a.off + 5 + 4, none⟩ = some (.int .i64 ((rd_T61 b 1).f4)) ∧ w'.cell? ⟨a.block, a.off + 10, none⟩ = some (.int .i64 ((rd_T61 b 2).f0)) ∧ w'.cell? ⟨a.block, a.off + 10 + 1, none⟩ = some (.slice cP ((rd_T61 b 2).f1).length c382_1) ∧ w'.cell? ⟨a.block, a.off + 10 + 2, none⟩ = some (.int .i64 ((rd_T61 b 2).f2)) ∧ w'.cell? ⟨a.block, a.off + 10 + 3, none⟩ = some (.int .i64 ((rd_T61 b 2).f3)) ∧ w'.cell? ⟨a.block, a.off + 10 + 4, none⟩ = some (.int .i64 ((rd_T61 b 2).f4))) (ds := []) #[false, false, false, false, false, false, false, false, false, false, false, false, false, false, false] kr_ rfl rfl ⟨((HB.out.cell (wl_ w _ bi)).trans bi), ((HB.out.cell (wl_ w _ bh)).trans bh), ((HB.out.cell (wl_ w _ bg)).trans bg), ((HB.out.cell (wl_ w _ bf)).trans bf), ((HB.out.cell (wl_ w _ be)).trans be), ((HB.out.cell (wl_ w _ bn)).trans bn), ((HB.out.cell (wl_ w _ bm)).trans bm), ((HB.out.cell (wl_ w _ bl)).trans bl), ((HB.out.cell (wl_ w _ bk)).trans bk), ((HB.out.cell (wl_ w _ bj)).trans bj), ((HB.out.cell (wl_ w _ bs)).trans bs), ((HB.out.cell (wl_ w _ br)).trans br), ((HB.out.cell (wl_ w _ bq)).trans bq), ((HB.out.cell (wl_ w _ bp)).trans bp), ((HB.out.cell (wl_ w _ bo)).trans bo)⟩ (fun hHeld => ?_); refine with_tabW mul_Filter.tab11 mul_Filter.bits11 (fun HT_ HW_ => ?_)
        generalize w30.drew = w32 at c HB ct cw cz ar au av aw ax ay az aA aB aC aD aE aF aG aH hHeld ⊢
        refine pu_ (i := 0) (N := some 32) ao_ ?_
        refine pu_ (i := 1) (N := some 33) ao_ ?_
        refine pu_ (i := 3) (N := some 35) ao_ ?_
        refine pu_ (i := 4) (N := some 36) ao_ ?_
        refine pu_ (i := 6) (N := some 38) ao_ ?_
        refine pu_ (i := 7) (N := some 39) ao_ ?_
        refine pu_ (i := 9) (N := some 41) ao_ ?_
        refine tak_ (i := 2) (N := some 34) tw_ hHeld ?_
        refine tak_ (i := 5) (N := some 37) tw_ hHeld ?_
        refine tak_ (i := 8) (N := some 40) tw_ hHeld ?_
        refine one_ (i := 10) (N := some 42) #[true, true, true, true, true, true, true, true, true, true, true, false, false, false, false] rfl rfl on_ (by decide) (fun K hK => ?_)
        refine goes_ Tryz.func33 kr_ rfl #[.agg #[.int .i64 ((rd_T61 b 0).f0), .slice cN ((rd_T61 b 0).f1).length c380_1, .int .i64 ((rd_T61 b 0).f2), .int .i64 ((rd_T61 b 0).f3), .int .i64 ((rd_T61 b 0).f4)], .agg #[.int .i64 ((rd_T61 b 1).f0), .slice cO ((rd_T61 b 1).f1).length c381_1, .int .i64 ((rd_T61 b 1).f2), .int .i64 ((rd_T61 b 1).f3), .int .i64 ((rd_T61 b 1).f4)], .agg #[.int .i64 ((rd_T61 b 2).f0), .slice cP ((rd_T61 b 2).f1).length c382_1, .int .i64 ((rd_T61 b 2).f2), .int .i64 ((rd_T61 b 2).f3), .int .i64 ((rd_T61 b 2).f4)], .func (.func 32) #[] #[]] (by rfl) rfl rfl ar_ ?_
        with_reducible refine (prop_Pairs_at_num_Rem.calls k ((rd_T61 b 0).f0) _ _ ((rd_T61 b 0).f1) ((rd_T61 b 0).f2) ((rd_T61 b 0).f3) ((rd_T61 b 0).f4) ((rd_T61 b 1).f0) _ _ ((rd_T61 b 1).f1) ((rd_T61 b 1).f2) ((rd_T61 b 1).f3) ((rd_T61 b 1).f4) ((rd_T61 b 2).f0) _ _ ((rd_T61 b 2).f1) ((rd_T61 b 2).f2) ((rd_T61 b 2).f3) ((rd_T61 b 2).f4) d1 d2 _ ?_ ?_ ?_ ?_ ?_ ?_ ?_ ec.out).mono ?_
        exact ca_ ((cb_ ct.out HB.out))
        exact dr.out
        exact ca_ ((cb_ cw.out HB.out))
        exact dt.out
        exact ca_ ((cb_ cz.out HB.out))
        exact du.out
        exact ca_ ((cb_ HRtab.out HB.out))
        rintro e w33 ⟨eo, rfl, b0, hb⟩
        refine ⟨_, rfl, ?_⟩
        have dJ := a_ (Kd.N_lower (nm_ (ok' := fun k_ => (w.heap.size ≤ k_) ∧ k_ ≠ bK) b0 (fun k_ hk_ => ⟨(Nat.le_trans (bz_ bel_) hk_), (Kd.freshB (bk_ c.out) k_ hk_)⟩)) (bz_ bel_))
        replace HB := hq_ hb
        clear hb b0
        refine hK.out _ _ ⟨((HB.out.cell (wl_ w _ bi)).trans bi), ((HB.out.cell (wl_ w _ bh)).trans bh), ((HB.out.cell (wl_ w _ bg)).trans bg), ((HB.out.cell (wl_ w _ bf)).trans bf), ((HB.out.cell (wl_ w _ be)).trans be), ((HB.out.cell (wl_ w _ bn)).trans bn), ((HB.out.cell (wl_ w _ bm)).trans bm), ((HB.out.cell (wl_ w _ bl)).trans bl), ((HB.out.cell (wl_ w _ bk)).trans bk), ((HB.out.cell (wl_ w _ bj)).trans bj), ((HB.out.cell (wl_ w _ bs)).trans bs), ((HB.out.cell (wl_ w _ br)).trans br), ((HB.out.cell (wl_ w _ bq)).trans bq), ((HB.out.cell (wl_ w _ bp)).trans bp), ((HB.out.cell (wl_ w _ bo)).trans bo)⟩ (fun hHeld => ?_)
        clear hK K
        refine nor_ (N := some 42) ?_
        refine pu_ (i := 11) (N := some 43) ao_ ?_
        refine pu_ (i := 12) (N := some 44) ao_ ?_
        refine pu_ (i := 13) (N := some 4) ao_ ?_
        refine pu_ (i := 14) (N := some 5) ao_ ?_
        refine done_ dn_ ?_
        try go_wp2
        go_ret2
        exact ⟨_, er_, by refine vN_ ?_; exact nm_ dJ.out (fun _ hk => hk.1), bel_⟩
       ·
        rw [ig_ c23] at H
        exact absurd H (by simp)
      ·
       rw [ig_ c22] at H
       have c22b0 : (J == 7) = false := be_.mpr c22
       have c22b1 : (J != 7) = true := ni_.mpr c22
       by_cases c34 : 2 < (b.length : Int)
       ·
        rw [ip_ c34] at H
        have c34b0 : decide (2 < (b.length : Int)) = true := dt_ c34
        have c34b1 : decide (2 < b.length) = true := dt_ (by omega)
        clear c34
        replace H := bs_.mp H
        obtain ⟨⟨d6, d7⟩, dA, H⟩ := H
        try dsimp only at H
        have ed := a_ dA
        clear dA
        simp only [Option.some.injEq, Prod.mk.injEq] at H
        obtain ⟨rfl, rfl⟩ := H
        go_enter Tryz.func10, Tryz.ntmps10
        try go_wp2_with (first | ((with_reducible refine gate_dst (N := 2) rfl ?_); refine bxe_ (N := 2) (cs := #[.int .i64 J, .slice bP M.length c0_1, .slice bQ O.length c0_2, .slice bR P.length c0_3, .slice bS Q.length c0_4, .slice bT U.length c0_5, .int .i64 aX, .slice bU V.length c0_7]) (t := 32) ?_; intro bK hg w36 hbox hb; have c := a_ (hbox); have bX := a_ (by rw [hg]; exact (bz_ bel_) : w.heap.size ≤ bK); have cJ := bX; replace HB := hq_ hb; clear hb hbox hg; obtain ⟨_, _, _, _, _, _, _, _, _, _, _, _, _, _, _, _⟩ := cel8_ c.out) | ((with_reducible refine gate_callee (f := 27) rfl ?_); refine goesL_ (some 9) rfl rfl Tryz.func27 kr_ rfl #[.agg #[.int .i64 J, .slice bP M.length c0_1, .slice bQ O.length c0_2, .slice bR P.length c0_3, .slice bS Q.length c0_4, .slice bT U.length c0_5, .int .i64 aX, .slice bU V.length c0_7], .slice A1 b.length c1, .int .i64 5, .int .i64 7] rfl ar_ ?_; (with_reducible refine (prop_Fits.calls k J _ _ M _ _ O _ _ P _ _ Q _ _ U aX _ _ V _ _ b 5 7 true _ ?_ ?_ ?_ ?_ ?_ ?_ ?_ ?_ ?_ ?_ ?_ ?_ ?_ ?_ A3.out).mono ?_); exact ca_ ((cb_ b1.out HB.out)); exact b2.out; exact ca_ ((cb_ b3.out HB.out)); exact b4.out; exact ca_ ((cb_ b5.out HB.out)); exact b6.out; exact ca_ ((cb_ b7.out HB.out)); exact b8.out; exact ca_ ((cb_ b9.out HB.out)); exact ca.out; exact ca_ ((cb_ cb.out HB.out)); exact cc.out; exact ca_ ((cb_ aY.out HB.out)); exact dj.out; rintro e w38 ⟨rfl, hb⟩; refine ⟨_, rfl, ?_⟩; replace c := a_ (bb_ (bk_ c.out) hb); replace HB := hq_ hb; clear hb))
        replace c := a_ (blk_drew c.out)
        replace HB := a_ (below_drew1 HB.out)
        have p369 : 0 ≤ (0 : Int) := (by omega)
        have bN : 0 < (b.length : Int) := dq_
        obtain ⟨a, bL, c369_1, cf, v, x, y, z, A, W, X⟩ := at_T61 aY.out 0 p369 bN
        have d := A
        (try rw [show ((0 : Int)).toNat = 0 from rfl] at d)
        (try rw [show 0 * 5 = 0 from rfl] at d)
        (try rw [Addr.add_zero'] at d)
        have g := z
        (try rw [show ((0 : Int)).toNat = 0 from rfl] at g)
        (try rw [show 0 * 5 = 0 from rfl] at g)
        (try rw [Addr.add_zero'] at g)
        have l := y
        (try rw [show ((0 : Int)).toNat = 0 from rfl] at l)
        (try rw [show 0 * 5 = 0 from rfl] at l)
        (try rw [Addr.add_zero'] at l)
        have m := x
        (try rw [show ((0 : Int)).toNat = 0 from rfl] at m)
        (try rw [show 0 * 5 = 0 from rfl] at m)
        (try rw [Addr.add_zero'] at m)
        have o := v
        (try rw [show ((0 : Int)).toNat = 0 from rfl] at o)
        (try rw [show 0 * 5 = 0 from rfl] at o)
        (try rw [Addr.add_zero'] at o)
        cases cf
        have dk : (0 < b.length) = True := et_ (by omega)
        (try rw [show ((0 : Int)).toNat = 0 from rfl] at v)
        (try rw [show 0 * 5 = 0 from rfl] at v)
        (try rw [Addr.add_zero'] at v)
        (try rw [show ((0 : Int)).toNat = 0 from rfl] at x)
        (try rw [show 0 * 5 = 0 from rfl] at x)
        (try rw [Addr.add_zero'] at x)
        (try rw [show ((0 : Int)).toNat = 0 from rfl] at y)
        (try rw [show 0 * 5 = 0 from rfl] at y)
        (try rw [Addr.add_zero'] at y)
        (try rw [show ((0 : Int)).toNat = 0 from rfl] at z)
        (try rw [show 0 * 5 = 0 from rfl] at z)
        (try rw [Addr.add_zero'] at z)
        (try rw [show ((0 : Int)).toNat = 0 from rfl] at A)
        (try rw [show 0 * 5 = 0 from rfl] at A)
        (try rw [Addr.add_zero'] at A)
        replace v := (HB.out.cell (wl_ w _ v)).trans v
        replace x := (HB.out.cell (wl_ w _ x)).trans x
        replace y := (HB.out.cell (wl_ w _ y)).trans y
        replace z := (HB.out.cell (wl_ w _ z)).trans z
        replace A := (HB.out.cell (wl_ w _ A)).trans A
        have Y := a_ X
        have bV := a_ W
        clear X W
        replace p369 := et_ p369
        replace bN := et_ bN
        have p371 : 0 ≤ (1 : Int) := (by omega)
        have bO : 1 < (b.length : Int) := dq_
        obtain ⟨bZ, bM, c371_1, cg, B, E, F, G, I, Z, aa⟩ := at_T61 aY.out 1 p371 bO
        have p := I
        (try rw [show ((1 : Int)).toNat = 1 from rfl] at p)
        (try rw [show 1 * 5 = 5 from rfl] at p)
        (try simp only [Nat.reduceMul, Nat.reduceEqDiff, Go.Addr.add, ↓reduceIte] at p)
        have q := G
        (try rw [show ((1 : Int)).toNat = 1 from rfl] at q)
        (try rw [show 1 * 5 = 5 from rfl] at q)
        (try simp only [Nat.reduceMul, Nat.reduceEqDiff, Go.Addr.add, ↓reduceIte] at q)
        have r := F
        (try rw [show ((1 : Int)).toNat = 1 from rfl] at r)
        (try rw [show 1 * 5 = 5 from rfl] at r)
        (try simp only [Nat.reduceMul, Nat.reduceEqDiff, Go.Addr.add, ↓reduceIte] at r)
        have s := E
        (try rw [show ((1 : Int)).toNat = 1 from rfl] at s)
        (try rw [show 1 * 5 = 5 from rfl] at s)
        (try simp only [Nat.reduceMul, Nat.reduceEqDiff, Go.Addr.add, ↓reduceIte] at s)
        have u := B
        (try rw [show ((1 : Int)).toNat = 1 from rfl] at u)
        (try rw [show 1 * 5 = 5 from rfl] at u)
        (try simp only [Nat.reduceMul, Nat.reduceEqDiff, Go.Addr.add, ↓reduceIte] at u)
        obtain rfl : a = bZ := (by injection cg)
        (try simp only [show (1 : Int).toNat = 1 from rfl, Nat.reduceMul, Nat.reduceEqDiff, Go.Addr.add, ↓reduceIte] at B)
        (try simp only [show (1 : Int).toNat = 1 from rfl, Nat.reduceMul, Nat.reduceEqDiff, Go.Addr.add, ↓reduceIte] at E)
        (try simp only [show (1 : Int).toNat = 1 from rfl, Nat.reduceMul, Nat.reduceEqDiff, Go.Addr.add, ↓reduceIte] at F)
        (try simp only [show (1 : Int).toNat = 1 from rfl, Nat.reduceMul, Nat.reduceEqDiff, Go.Addr.add, ↓reduceIte] at G)
        (try simp only [show (1 : Int).toNat = 1 from rfl, Nat.reduceMul, Nat.reduceEqDiff, Go.Addr.add, ↓reduceIte] at I)
        have dl : (1 < b.length) = True := et_ (by omega)
        (try rw [show ((1 : Int)).toNat = 1 from rfl] at B)
        (try rw [show 1 * 5 = 5 from rfl] at B)
        (try rw [show ((1 : Int)).toNat = 1 from rfl] at E)
        (try rw [show 1 * 5 = 5 from rfl] at E)
        (try rw [show ((1 : Int)).toNat = 1 from rfl] at F)
        (try rw [show 1 * 5 = 5 from rfl] at F)
        (try rw [show ((1 : Int)).toNat = 1 from rfl] at G)
        (try rw [show 1 * 5 = 5 from rfl] at G)
        (try rw [show ((1 : Int)).toNat = 1 from rfl] at I)
        (try rw [show 1 * 5 = 5 from rfl] at I)
        replace B := (HB.out.cell (wl_ w _ B)).trans B
        replace E := (HB.out.cell (wl_ w _ E)).trans E
        replace F := (HB.out.cell (wl_ w _ F)).trans F
        replace G := (HB.out.cell (wl_ w _ G)).trans G
        replace I := (HB.out.cell (wl_ w _ I)).trans I
        have ab := a_ aa
        have bW := a_ Z
        clear aa Z
        replace p371 := et_ p371
        replace bO := et_ bO
        refine start_ (n := 10) (S := fun w' => w'.cell? a = some (.int .i64 ((rd_T61 b 0).f0)) ∧ w'.cell? ⟨a.block, a.off + 1, none⟩ = some (.slice bL ((rd_T61 b 0).f1).length c369_1) ∧ w'.cell? ⟨a.block, a.off + 2, none⟩ = some (.int .i64 ((rd_T61 b 0).f2)) ∧ w'.cell? ⟨a.block, a.off + 3, none⟩ = some (.int .i64 ((rd_T61 b 0).f3)) ∧ w'.cell? ⟨a.block, a.off + 4, none⟩ = some (.int .i64 ((rd_T61 b 0).f4)) ∧ w'.cell? ⟨a.block, a.off + 5, none⟩ = some (.int .i64 ((rd_T61 b 1).f0)) ∧ w'.cell? ⟨a.block, a.off + 5 + 1, none⟩ = some (.slice bM ((rd_T61 b 1).f1).length c371_1) ∧ w'.cell? ⟨a.block, a.off + 5 + 2, none⟩ = some (.int .i64 ((rd_T61 b 1).f2)) ∧ w'.cell? ⟨a.block, a.off + 5 + 3, none⟩ = some (.int .i64 ((rd_T61 b 1).f3)) ∧ w'.cell? ⟨a.block, a.off + 5 + 4, none⟩ = some (.int .i64 ((rd_T61 b 1).f4))) (ds := []) #[false, false, false, false, false, false, false, false, false, false] kr_ rfl rfl ⟨((HB.out.cell (wl_ w _ o)).trans o), ((HB.out.cell (wl_ w _ m)).trans m), ((HB.out.cell (wl_ w _ l)).trans l), ((HB.out.cell (wl_ w _ g)).trans g), ((HB.out.cell (wl_ w _ d)).trans d), ((HB.out.cell (wl_ w _ u)).trans u), ((HB.out.cell (wl_ w _ s)).trans s), ((HB.out.cell (wl_ w _ r)).trans r), ((HB.out.cell (wl_ w _ q)).trans q), ((HB.out.cell (wl_ w _ p)).trans p)⟩ (fun hHeld => ?_); refine with_tabW mul_Filter.tab3 mul_Filter.bits3 (fun HT_ HW_ => ?_)
        generalize w38.drew = w39 at c HB Y ab v x y z A B E F G I hHeld ⊢
        refine pu_ (i := 0) (N := some 11) ao_ ?_
        refine pu_ (i := 1) (N := some 12) ao_ ?_
        refine pu_ (i := 4) (N := some 15) ao_ ?_
        refine pu_ (i := 5) (N := some 16) ao_ ?_
        refine tak_ (i := 2) (N := some 13) tw_ hHeld ?_
        refine tak_ (i := 6) (N := some 17) tw_ hHeld ?_
        refine one_ (i := 3) (N := some 14) #[true, true, true, true, true, true, true, false, false, false] rfl rfl on_ (by decide) (fun K hK => ?_)
        refine goes_ Tryz.func28 kr_ rfl #[.agg #[.int .i64 ((rd_T61 b 0).f0), .slice bL ((rd_T61 b 0).f1).length c369_1, .int .i64 ((rd_T61 b 0).f2), .int .i64 ((rd_T61 b 0).f3), .int .i64 ((rd_T61 b 0).f4)]] (by rfl) rfl rfl ar_ ?_
        with_reducible refine (dom_Dom_Size.calls ((rd_T61 b 0).f0) _ _ ((rd_T61 b 0).f1) ((rd_T61 b 0).f2) ((rd_T61 b 0).f3) ((rd_T61 b 0).f4) cd _ ?_ ?_ A6.out).mono ?_
        exact ca_ ((cb_ Y.out HB.out))
        exact bV.out
        rintro e w40 ⟨rfl, hb⟩
        refine ⟨_, rfl, ?_⟩
        replace c := a_ (bb_ (bk_ c.out) hb)
        replace HB := hq_ hb
        clear hb
        refine hK.out _ _ ⟨((HB.out.cell (wl_ w _ o)).trans o), ((HB.out.cell (wl_ w _ m)).trans m), ((HB.out.cell (wl_ w _ l)).trans l), ((HB.out.cell (wl_ w _ g)).trans g), ((HB.out.cell (wl_ w _ d)).trans d), ((HB.out.cell (wl_ w _ u)).trans u), ((HB.out.cell (wl_ w _ s)).trans s), ((HB.out.cell (wl_ w _ r)).trans r), ((HB.out.cell (wl_ w _ q)).trans q), ((HB.out.cell (wl_ w _ p)).trans p)⟩ (fun hHeld => ?_)
        clear hK K
        refine nor_ (N := some 14) ?_
        refine one_ (i := 7) (N := some 18) #[true, true, true, true, true, true, true, true, false, false] rfl rfl on_ (by decide) (fun K hK => ?_)
        refine goes_ Tryz.func28 kr_ rfl #[.agg #[.int .i64 ((rd_T61 b 1).f0), .slice bM ((rd_T61 b 1).f1).length c371_1, .int .i64 ((rd_T61 b 1).f2), .int .i64 ((rd_T61 b 1).f3), .int .i64 ((rd_T61 b 1).f4)]] (by rfl) rfl rfl ar_ ?_
        with_reducible refine (dom_Dom_Size.calls ((rd_T61 b 1).f0) _ _ ((rd_T61 b 1).f1) ((rd_T61 b 1).f2) ((rd_T61 b 1).f3) ((rd_T61 b 1).f4) ce _ ?_ ?_ A8.out).mono ?_
        exact ca_ ((cb_ ab.out HB.out))
        exact bW.out
        rintro e w41 ⟨rfl, hb⟩
        refine ⟨_, rfl, ?_⟩
        replace c := a_ (bb_ (bk_ c.out) hb)
        replace HB := hq_ hb
        clear hb
        refine hK.out _ _ ⟨((HB.out.cell (wl_ w _ o)).trans o), ((HB.out.cell (wl_ w _ m)).trans m), ((HB.out.cell (wl_ w _ l)).trans l), ((HB.out.cell (wl_ w _ g)).trans g), ((HB.out.cell (wl_ w _ d)).trans d), ((HB.out.cell (wl_ w _ u)).trans u), ((HB.out.cell (wl_ w _ s)).trans s), ((HB.out.cell (wl_ w _ r)).trans r), ((HB.out.cell (wl_ w _ q)).trans q), ((HB.out.cell (wl_ w _ p)).trans p)⟩ (fun hHeld => ?_)
        clear hK K
        refine nor_ (N := some 18) ?_
        refine pu_ (i := 8) (N := some 19) ao_ ?_
        refine pu_ (i := 9) (N := some 20) ao_ ?_
        refine done_ dn_ ?_
        obtain ⟨_, _, _, _, _, _, _, _, _, _, _, _, _, _, _, _⟩ := cel8_ c.out
        try go_wp2
        replace c := a_ (blk_drew c.out)
        replace HB := a_ (below_drew1 HB.out)
        have p387 : 0 ≤ (0 : Int) := (by omega)
        have cZ : 0 < (b.length : Int) := dq_
        obtain ⟨dK, cQ, c387_1, d8, aI, aJ, aK, aL, aM, cA, cB⟩ := at_T61 aY.out 0 p387 cZ
        have bu := aM
        (try rw [show ((0 : Int)).toNat = 0 from rfl] at bu)
        (try rw [show 0 * 5 = 0 from rfl] at bu)
        (try rw [Addr.add_zero'] at bu)
        have bv := aL
        (try rw [show ((0 : Int)).toNat = 0 from rfl] at bv)
        (try rw [show 0 * 5 = 0 from rfl] at bv)
        (try rw [Addr.add_zero'] at bv)
        have bw := aK
        (try rw [show ((0 : Int)).toNat = 0 from rfl] at bw)
        (try rw [show 0 * 5 = 0 from rfl] at bw)
        (try rw [Addr.add_zero'] at bw)
        have bx := aJ
        (try rw [show ((0 : Int)).toNat = 0 from rfl] at bx)
        (try rw [show 0 * 5 = 0 from rfl] at bx)
        (try rw [Addr.add_zero'] at bx)
        have bz := aI
        (try rw [show ((0 : Int)).toNat = 0 from rfl] at bz)
        (try rw [show 0 * 5 = 0 from rfl] at bz)
        (try rw [Addr.add_zero'] at bz)
        obtain rfl : a = dK := (by injection d8)
        have ek : (0 < b.length) = True := et_ (by omega)
        (try rw [show ((0 : Int)).toNat = 0 from rfl] at aI)
        (try rw [show 0 * 5 = 0 from rfl] at aI)
        (try rw [Addr.add_zero'] at aI)
        (try rw [show ((0 : Int)).toNat = 0 from rfl] at aJ)
        (try rw [show 0 * 5 = 0 from rfl] at aJ)
        (try rw [Addr.add_zero'] at aJ)
        (try rw [show ((0 : Int)).toNat = 0 from rfl] at aK)
        (try rw [show 0 * 5 = 0 from rfl] at aK)
        (try rw [Addr.add_zero'] at aK)
        (try rw [show ((0 : Int)).toNat = 0 from rfl] at aL)
        (try rw [show 0 * 5 = 0 from rfl] at aL)
        (try rw [Addr.add_zero'] at aL)
        (try rw [show ((0 : Int)).toNat = 0 from rfl] at aM)
        (try rw [show 0 * 5 = 0 from rfl] at aM)
        (try rw [Addr.add_zero'] at aM)
        replace aI := (HB.out.cell (wl_ w _ aI)).trans aI
        replace aJ := (HB.out.cell (wl_ w _ aJ)).trans aJ
        replace aK := (HB.out.cell (wl_ w _ aK)).trans aK
        replace aL := (HB.out.cell (wl_ w _ aL)).trans aL
        replace aM := (HB.out.cell (wl_ w _ aM)).trans aM
        have cC := a_ cB
        have dv := a_ cA
        clear cB cA
        replace p387 := et_ p387
        replace cZ := et_ cZ
        have p388 : 0 ≤ (1 : Int) := (by omega)
        have c0 : 1 < (b.length : Int) := dq_
        obtain ⟨dL, cR, c388_1, d9, aN, aO, aP, aQ, aR, cD, cE⟩ := at_T61 aY.out 1 p388 c0
        have bA := aR
        (try rw [show ((1 : Int)).toNat = 1 from rfl] at bA)
        (try rw [show 1 * 5 = 5 from rfl] at bA)
        (try simp only [Nat.reduceMul, Nat.reduceEqDiff, Go.Addr.add, ↓reduceIte] at bA)
        have bB := aQ
        (try rw [show ((1 : Int)).toNat = 1 from rfl] at bB)
        (try rw [show 1 * 5 = 5 from rfl] at bB)
        (try simp only [Nat.reduceMul, Nat.reduceEqDiff, Go.Addr.add, ↓reduceIte] at bB)
        have bC := aP
        (try rw [show ((1 : Int)).toNat = 1 from rfl] at bC)
        (try rw [show 1 * 5 = 5 from rfl] at bC)
        (try simp only [Nat.reduceMul, Nat.reduceEqDiff, Go.Addr.add, ↓reduceIte] at bC)
        have bD := aO
        (try rw [show ((1 : Int)).toNat = 1 from rfl] at bD)
        (try rw [show 1 * 5 = 5 from rfl] at bD)
        (try simp only [Nat.reduceMul, Nat.reduceEqDiff, Go.Addr.add, ↓reduceIte] at bD)
        have bE := aN
        (try rw [show ((1 : Int)).toNat = 1 from rfl] at bE)
        (try rw [show 1 * 5 = 5 from rfl] at bE)
        (try simp only [Nat.reduceMul, Nat.reduceEqDiff, Go.Addr.add, ↓reduceIte] at bE)
        obtain rfl : a = dL := (by injection d9)
        (try simp only [show (1 : Int).toNat = 1 from rfl, Nat.reduceMul, Nat.reduceEqDiff, Go.Addr.add, ↓reduceIte] at aN)
        (try simp only [show (1 : Int).toNat = 1 from rfl, Nat.reduceMul, Nat.reduceEqDiff, Go.Addr.add, ↓reduceIte] at aO)
        (try simp only [show (1 : Int).toNat = 1 from rfl, Nat.reduceMul, Nat.reduceEqDiff, Go.Addr.add, ↓reduceIte] at aP)
        (try simp only [show (1 : Int).toNat = 1 from rfl, Nat.reduceMul, Nat.reduceEqDiff, Go.Addr.add, ↓reduceIte] at aQ)
        (try simp only [show (1 : Int).toNat = 1 from rfl, Nat.reduceMul, Nat.reduceEqDiff, Go.Addr.add, ↓reduceIte] at aR)
        have el : (1 < b.length) = True := et_ (by omega)
        (try rw [show ((1 : Int)).toNat = 1 from rfl] at aN)
        (try rw [show 1 * 5 = 5 from rfl] at aN)
        (try rw [show ((1 : Int)).toNat = 1 from rfl] at aO)
        (try rw [show 1 * 5 = 5 from rfl] at aO)
        (try rw [show ((1 : Int)).toNat = 1 from rfl] at aP)
        (try rw [show 1 * 5 = 5 from rfl] at aP)
        (try rw [show ((1 : Int)).toNat = 1 from rfl] at aQ)
        (try rw [show 1 * 5 = 5 from rfl] at aQ)
        (try rw [show ((1 : Int)).toNat = 1 from rfl] at aR)
        (try rw [show 1 * 5 = 5 from rfl] at aR)
        replace aN := (HB.out.cell (wl_ w _ aN)).trans aN
        replace aO := (HB.out.cell (wl_ w _ aO)).trans aO
        replace aP := (HB.out.cell (wl_ w _ aP)).trans aP
        replace aQ := (HB.out.cell (wl_ w _ aQ)).trans aQ
        replace aR := (HB.out.cell (wl_ w _ aR)).trans aR
        have cF := a_ cE
        have dw := a_ cD
        clear cE cD
        replace p388 := et_ p388
        replace c0 := et_ c0
        have p389 : 0 ≤ (2 : Int) := (by omega)
        have c2 : 2 < (b.length : Int) := dq_
        obtain ⟨dM, cS, c389_1, ea, aS, aT, aU, aV, aW, cG, cH⟩ := at_T61 aY.out 2 p389 c2
        have bF := aW
        (try rw [show ((2 : Int)).toNat = 2 from rfl] at bF)
        (try rw [show 2 * 5 = 10 from rfl] at bF)
        (try simp only [Nat.reduceMul, Nat.reduceEqDiff, Go.Addr.add, ↓reduceIte] at bF)
        have bG := aV
        (try rw [show ((2 : Int)).toNat = 2 from rfl] at bG)
        (try rw [show 2 * 5 = 10 from rfl] at bG)
        (try simp only [Nat.reduceMul, Nat.reduceEqDiff, Go.Addr.add, ↓reduceIte] at bG)
        have bH := aU
        (try rw [show ((2 : Int)).toNat = 2 from rfl] at bH)
        (try rw [show 2 * 5 = 10 from rfl] at bH)
        (try simp only [Nat.reduceMul, Nat.reduceEqDiff, Go.Addr.add, ↓reduceIte] at bH)
        have bI := aT
        (try rw [show ((2 : Int)).toNat = 2 from rfl] at bI)
        (try rw [show 2 * 5 = 10 from rfl] at bI)
        (try simp only [Nat.reduceMul, Nat.reduceEqDiff, Go.Addr.add, ↓reduceIte] at bI)
        have bJ := aS
        (try rw [show ((2 : Int)).toNat = 2 from rfl] at bJ)
        (try rw [show 2 * 5 = 10 from rfl] at bJ)
        (try simp only [Nat.reduceMul, Nat.reduceEqDiff, Go.Addr.add, ↓reduceIte] at bJ)
        obtain rfl : a = dM := (by injection ea)
        (try simp only [show (2 : Int).toNat = 2 from rfl, Nat.reduceMul, Nat.reduceEqDiff, Go.Addr.add, ↓reduceIte] at aS)
        (try simp only [show (2 : Int).toNat = 2 from rfl, Nat.reduceMul, Nat.reduceEqDiff, Go.Addr.add, ↓reduceIte] at aT)
        (try simp only [show (2 : Int).toNat = 2 from rfl, Nat.reduceMul, Nat.reduceEqDiff, Go.Addr.add, ↓reduceIte] at aU)
        (try simp only [show (2 : Int).toNat = 2 from rfl, Nat.reduceMul, Nat.reduceEqDiff, Go.Addr.add, ↓reduceIte] at aV)
        (try simp only [show (2 : Int).toNat = 2 from rfl, Nat.reduceMul, Nat.reduceEqDiff, Go.Addr.add, ↓reduceIte] at aW)
        have em : (2 < b.length) = True := et_ (by omega)
        (try rw [show ((2 : Int)).toNat = 2 from rfl] at aS)
        (try rw [show 2 * 5 = 10 from rfl] at aS)
        (try rw [show ((2 : Int)).toNat = 2 from rfl] at aT)
        (try rw [show 2 * 5 = 10 from rfl] at aT)
        (try rw [show ((2 : Int)).toNat = 2 from rfl] at aU)
        (try rw [show 2 * 5 = 10 from rfl] at aU)
        (try rw [show ((2 : Int)).toNat = 2 from rfl] at aV)
        (try rw [show 2 * 5 = 10 from rfl] at aV)
        (try rw [show ((2 : Int)).toNat = 2 from rfl] at aW)
        (try rw [show 2 * 5 = 10 from rfl] at aW)
        replace aS := (HB.out.cell (wl_ w _ aS)).trans aS
        replace aT := (HB.out.cell (wl_ w _ aT)).trans aT
        replace aU := (HB.out.cell (wl_ w _ aU)).trans aU
        replace aV := (HB.out.cell (wl_ w _ aV)).trans aV
        replace aW := (HB.out.cell (wl_ w _ aW)).trans aW
        have cI := a_ cH
        have dx := a_ cG
        clear cH cG
        replace p389 := et_ p389
        replace c2 := et_ c2
        refine start_ (n := 15) (S := fun w' => w'.cell? a = some (.int .i64 ((rd_T61 b 0).f0)) ∧ w'.cell? ⟨a.block, a.off + 1, none⟩ = some (.slice cQ ((rd_T61 b 0).f1).length c387_1) ∧ w'.cell? ⟨a.block, a.off + 2, none⟩ = some (.int .i64 ((rd_T61 b 0).f2)) ∧ w'.cell? ⟨a.block, a.off + 3, none⟩ = some (.int .i64 ((rd_T61 b 0).f3)) ∧ w'.cell? ⟨a.block, a.off + 4, none⟩ = some (.int .i64 ((rd_T61 b 0).f4)) ∧ w'.cell? ⟨a.block, a.off + 5, none⟩ = some (.int .i64 ((rd_T61 b 1).f0)) ∧ w'.cell? ⟨a.block, a.off + 5 + 1, none⟩ = some (.slice cR ((rd_T61 b 1).f1).length c388_1) ∧ w'.cell? ⟨a.block, a.off + 5 + 2, none⟩ = some (.int .i64 ((rd_T61 b 1).f2)) ∧ w'.cell? ⟨a.block, a.off + 5 + 3, none⟩ = some (.int .i64 ((rd_T61 b 1).f3)) ∧ w'.cell? ⟨a.block, a.off + 5 + 4, none⟩ = some (.int .i64 ((rd_T61 b 1).f4)) ∧ w'.cell? ⟨a.block, a.off + 10, none⟩ = some (.int .i64 ((rd_T61 b 2).f0)) ∧ w'.cell? ⟨a.block, a.off + 10 + 1, none⟩ = some (.slice cS ((rd_T61 b 2).f1).length c389_1) ∧ w'.cell? ⟨a.block, a.off + 10 + 2, none⟩ = some (.int .i64 ((rd_T61 b 2).f2)) ∧ w'.cell? ⟨a.block, a.off + 10 + 3, none⟩ = some (.int .i64 ((rd_T61 b 2).f3)) ∧ w'.cell? ⟨a.block, a.off + 10 + 4, none⟩ = some (.int .i64 ((rd_T61 b 2).f4))) (ds := []) #[false, false, false, false, false, false, false, false, false, false, false, false, false, false, false] kr_ rfl rfl ⟨((HB.out.cell (wl_ w _ bz)).trans bz), ((HB.out.cell (wl_ w _ bx)).trans bx), ((HB.out.cell (wl_ w _ bw)).trans bw), ((HB.out.cell (wl_ w _ bv)).trans bv), ((HB.out.cell (wl_ w _ bu)).trans bu), ((HB.out.cell (wl_ w _ bE)).trans bE), ((HB.out.cell (wl_ w _ bD)).trans bD), ((HB.out.cell (wl_ w _ bC)).trans bC), ((HB.out.cell (wl_ w _ bB)).trans bB), ((HB.out.cell (wl_ w _ bA)).trans bA), ((HB.out.cell (wl_ w _ bJ)).trans bJ), ((HB.out.cell (wl_ w _ bI)).trans bI), ((HB.out.cell (wl_ w _ bH)).trans bH), ((HB.out.cell (wl_ w _ bG)).trans bG), ((HB.out.cell (wl_ w _ bF)).trans bF)⟩ (fun hHeld => ?_); refine with_tabW mul_Filter.tab11 mul_Filter.bits11 (fun HT_ HW_ => ?_)
        generalize w41.drew = w43 at c HB cC cF cI aI aJ aK aL aM aN aO aP aQ aR aS aT aU aV aW hHeld ⊢
        refine pu_ (i := 0) (N := some 32) ao_ ?_
        refine pu_ (i := 1) (N := some 33) ao_ ?_
        refine pu_ (i := 3) (N := some 35) ao_ ?_
        refine pu_ (i := 4) (N := some 36) ao_ ?_
        refine pu_ (i := 6) (N := some 38) ao_ ?_
        refine pu_ (i := 7) (N := some 39) ao_ ?_
        refine pu_ (i := 9) (N := some 41) ao_ ?_
        refine tak_ (i := 2) (N := some 34) tw_ hHeld ?_
        refine tak_ (i := 5) (N := some 37) tw_ hHeld ?_
        refine tak_ (i := 8) (N := some 40) tw_ hHeld ?_
        refine one_ (i := 10) (N := some 42) #[true, true, true, true, true, true, true, true, true, true, true, false, false, false, false] rfl rfl on_ (by decide) (fun K hK => ?_)
        refine goes_ Tryz.func33 kr_ rfl #[.agg #[.int .i64 ((rd_T61 b 0).f0), .slice cQ ((rd_T61 b 0).f1).length c387_1, .int .i64 ((rd_T61 b 0).f2), .int .i64 ((rd_T61 b 0).f3), .int .i64 ((rd_T61 b 0).f4)], .agg #[.int .i64 ((rd_T61 b 1).f0), .slice cR ((rd_T61 b 1).f1).length c388_1, .int .i64 ((rd_T61 b 1).f2), .int .i64 ((rd_T61 b 1).f3), .int .i64 ((rd_T61 b 1).f4)], .agg #[.int .i64 ((rd_T61 b 2).f0), .slice cS ((rd_T61 b 2).f1).length c389_1, .int .i64 ((rd_T61 b 2).f2), .int .i64 ((rd_T61 b 2).f3), .int .i64 ((rd_T61 b 2).f4)], .func (.func 30) #[] #[]] (by rfl) rfl rfl ar_ ?_
        with_reducible refine (prop_Pairs_at_num_Mul.calls k ((rd_T61 b 0).f0) _ _ ((rd_T61 b 0).f1) ((rd_T61 b 0).f2) ((rd_T61 b 0).f3) ((rd_T61 b 0).f4) ((rd_T61 b 1).f0) _ _ ((rd_T61 b 1).f1) ((rd_T61 b 1).f2) ((rd_T61 b 1).f3) ((rd_T61 b 1).f4) ((rd_T61 b 2).f0) _ _ ((rd_T61 b 2).f1) ((rd_T61 b 2).f2) ((rd_T61 b 2).f3) ((rd_T61 b 2).f4) d6 d7 _ ?_ ?_ ?_ ?_ ?_ ?_ ?_ ed.out).mono ?_
        exact ca_ ((cb_ cC.out HB.out))
        exact dv.out
        exact ca_ ((cb_ cF.out HB.out))
        exact dw.out
        exact ca_ ((cb_ cI.out HB.out))
        exact dx.out
        exact ca_ ((cb_ HRtab.out HB.out))
        rintro e w44 ⟨ep, rfl, b0, hb⟩
        refine ⟨_, rfl, ?_⟩
        have dN := a_ (Kd.N_lower (nm_ (ok' := fun k_ => (w.heap.size ≤ k_) ∧ k_ ≠ bK) b0 (fun k_ hk_ => ⟨(Nat.le_trans (bz_ bel_) hk_), (Kd.freshB (bk_ c.out) k_ hk_)⟩)) (bz_ bel_))
        replace HB := hq_ hb
        clear hb b0
        refine hK.out _ _ ⟨((HB.out.cell (wl_ w _ bz)).trans bz), ((HB.out.cell (wl_ w _ bx)).trans bx), ((HB.out.cell (wl_ w _ bw)).trans bw), ((HB.out.cell (wl_ w _ bv)).trans bv), ((HB.out.cell (wl_ w _ bu)).trans bu), ((HB.out.cell (wl_ w _ bE)).trans bE), ((HB.out.cell (wl_ w _ bD)).trans bD), ((HB.out.cell (wl_ w _ bC)).trans bC), ((HB.out.cell (wl_ w _ bB)).trans bB), ((HB.out.cell (wl_ w _ bA)).trans bA), ((HB.out.cell (wl_ w _ bJ)).trans bJ), ((HB.out.cell (wl_ w _ bI)).trans bI), ((HB.out.cell (wl_ w _ bH)).trans bH), ((HB.out.cell (wl_ w _ bG)).trans bG), ((HB.out.cell (wl_ w _ bF)).trans bF)⟩ (fun hHeld => ?_)
        clear hK K
        refine nor_ (N := some 42) ?_
        refine pu_ (i := 11) (N := some 43) ao_ ?_
        refine pu_ (i := 12) (N := some 44) ao_ ?_
        refine pu_ (i := 13) (N := some 4) ao_ ?_
        refine pu_ (i := 14) (N := some 5) ao_ ?_
        refine done_ dn_ ?_
        try go_wp2
        go_ret2
        exact ⟨_, er_, by refine vN_ ?_; exact nm_ dN.out (fun _ hk => hk.1), bel_⟩
       ·
        rw [ig_ c34] at H
        exact absurd H (by simp)
   ·
    rw [ig_ c7] at H
    exact absurd H (by simp)
  ·
   rw [ig_ c5] at H
   exact absurd H (by simp)
 ·
  replace c4 := bf_.mpr c4
  subst c4
  have H1 : (some (([] : List (S61)), false)) = some (r1, r2) := by rw [ig_ (show ¬ (false = true) by decide)] at H; exact H
  clear H
  have H := H1
  clear H1
  simp only [Option.some.injEq, Prod.mk.injEq] at H
  obtain ⟨rfl, rfl⟩ := H
  go_enter Tryz.func10, Tryz.ntmps10
  go_wp2_with (first | ((with_reducible refine gate_dst (N := 2) rfl ?_); refine bxe_ (N := 2) (cs := #[.int .i64 J, .slice bP M.length c0_1, .slice bQ O.length c0_2, .slice bR P.length c0_3, .slice bS Q.length c0_4, .slice bT U.length c0_5, .int .i64 aX, .slice bU V.length c0_7]) (t := 32) ?_; intro bK hg w45 hbox hb; have c := a_ (hbox); have bX := a_ (by rw [hg]; exact (bz_ bel_) : w.heap.size ≤ bK); have cJ := bX; replace HB := hq_ hb; clear hb hbox hg; obtain ⟨_, _, _, _, _, _, _, _, _, _, _, _, _, _, _, _⟩ := cel8_ c.out) | ((with_reducible refine gate_callee (f := 27) rfl ?_); refine goesL_ (some 9) rfl rfl Tryz.func27 kr_ rfl #[.agg #[.int .i64 J, .slice bP M.length c0_1, .slice bQ O.length c0_2, .slice bR P.length c0_3, .slice bS Q.length c0_4, .slice bT U.length c0_5, .int .i64 aX, .slice bU V.length c0_7], .slice A1 b.length c1, .int .i64 5, .int .i64 7] rfl ar_ ?_; (with_reducible refine (prop_Fits.calls k J _ _ M _ _ O _ _ P _ _ Q _ _ U aX _ _ V _ _ b 5 7 false _ ?_ ?_ ?_ ?_ ?_ ?_ ?_ ?_ ?_ ?_ ?_ ?_ ?_ ?_ A3.out).mono ?_); exact ca_ ((cb_ b1.out HB.out)); exact b2.out; exact ca_ ((cb_ b3.out HB.out)); exact b4.out; exact ca_ ((cb_ b5.out HB.out)); exact b6.out; exact ca_ ((cb_ b7.out HB.out)); exact b8.out; exact ca_ ((cb_ b9.out HB.out)); exact ca.out; exact ca_ ((cb_ cb.out HB.out)); exact cc.out; exact ca_ ((cb_ aY.out HB.out)); exact dj.out; rintro e w47 ⟨rfl, hb⟩; refine ⟨_, rfl, ?_⟩; replace HB := hq_ hb; clear hb))
  go_ret2
  exact ⟨_, er_, by first | exact Kd.S_nil _ _ _ _ _ | exact Kd.N_nil _ _ _ _ _ | exact Kd.V_nil _ _ _ _ _ | exact Kd.Q_nil _ _ _ _ _ | exact Kd.R_nil _ _ _ _ _, bel_⟩

end Go.Proofs.YtbhhbgoamomacaaGreatDoor.XMulFilters
