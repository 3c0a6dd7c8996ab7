-- by xprint.py, a program of this session, over the kit's print
import Derived.Test.YtbhhbgoamomacaaGreatDoorXMRex0
import Derived.Test.YtbhhbgoamomacaaGreatDoorXMRex7
import Derived.Test.YtbhhbgoamomacaaGreatDoorXMRex10
import Derived.Test.YtbhhbgoamomacaaGreatDoorXMRex14
import Derived.Test.YtbhhbgoamomacaaGreatDoorSq
namespace Go.Proofs.YtbhhbgoamomacaaGreatDoor.XMulRefuses
open Go.RowKit Go.Proofs.YtbhhbgoamomacaaGreatDoor.Sq Go.Proofs.YtbhhbgoamomacaaGreatDoorW.PrintWords Go.Proofs.YtbhhbgoamomacaaGreatDoorW.PrintLast Go.Proofs.YtbhhbgoamomacaaGreatDoorW.PrintMore
attribute [local go_sem] max2_int min2_int max_two min_two max_three min_three max_four min_four   -- for this text's walks alone
set_option linter.unusedVariables false
set_option linter.unusedSimpArgs false

/-! ### mul_Filter: function 10 -/
def mul_Filter.f (k : Nat) (b : Int) (g : List Int) (l : List Int) (m : List Int) (n : List Int) (o : List Int) (p : Int) (q : List (List Int)) (a : List (S61)) : Option ((List (S61)) × Bool) := (prop_Fits.f k b g l m n o p q a 5 7).bind fun r => (if r = true then (if 0 < (a.length : Int) then ((dom_Dom_Size.f ((rd_T61 a 0).f0) ((rd_T61 a 0).f1) ((rd_T61 a 0).f2) ((rd_T61 a 0).f3) ((rd_T61 a 0).f4)).bind fun s => (if 1 < (a.length : Int) then ((dom_Dom_Size.f ((rd_T61 a 1).f0) ((rd_T61 a 1).f1) ((rd_T61 a 1).f2) ((rd_T61 a 1).f3) ((rd_T61 a 1).f4)).bind fun t => (if (wrap64 (s * t)) > 4096 then (none) else (if b = 6 then (if 2 < (a.length : Int) then ((pPairs.f (fun _ => num_Quo.f) k ((rd_T61 a 0).f0) ((rd_T61 a 0).f1) ((rd_T61 a 0).f2) ((rd_T61 a 0).f3) ((rd_T61 a 0).f4) ((rd_T61 a 1).f0) ((rd_T61 a 1).f1) ((rd_T61 a 1).f2) ((rd_T61 a 1).f3) ((rd_T61 a 1).f4) ((rd_T61 a 2).f0) ((rd_T61 a 2).f1) ((rd_T61 a 2).f2) ((rd_T61 a 2).f3) ((rd_T61 a 2).f4)).bind fun c => (some (c.1, c.2))) else (none)) else (if b = 7 then (if 2 < (a.length : Int) then ((pPairs.f (fun _ => num_Rem.f) k ((rd_T61 a 0).f0) ((rd_T61 a 0).f1) ((rd_T61 a 0).f2) ((rd_T61 a 0).f3) ((rd_T61 a 0).f4) ((rd_T61 a 1).f0) ((rd_T61 a 1).f1) ((rd_T61 a 1).f2) ((rd_T61 a 1).f3) ((rd_T61 a 1).f4) ((rd_T61 a 2).f0) ((rd_T61 a 2).f1) ((rd_T61 a 2).f2) ((rd_T61 a 2).f3) ((rd_T61 a 2).f4)).bind fun d => (some (d.1, d.2))) else (none)) else (if 2 < (a.length : Int) then ((pPairs.f num_Mul.f k ((rd_T61 a 0).f0) ((rd_T61 a 0).f1) ((rd_T61 a 0).f2) ((rd_T61 a 0).f3) ((rd_T61 a 0).f4) ((rd_T61 a 1).f0) ((rd_T61 a 1).f1) ((rd_T61 a 1).f2) ((rd_T61 a 1).f3) ((rd_T61 a 1).f4) ((rd_T61 a 2).f0) ((rd_T61 a 2).f1) ((rd_T61 a 2).f2) ((rd_T61 a 2).f3) ((rd_T61 a 2).f4)).bind fun e => (some (e.1, e.2))) else (none)))))) else (none))) else (none)) else (some (([] : List (S61)), false)))
theorem mul_Filter.mono : ∀ a b c d e g l m n k, LeO (mul_Filter.f k a b c d e g l m n) (mul_Filter.f (k + 1) a b c d e g l m n) := by
 intro a b c d e g l m n k
 unfold mul_Filter.f
 have m0 := @prop_Fits.mono
 have m1 := @pPairs.mono num_Mul.f num_Mul.mono
 have m2 := @pPairs.mono (fun _ => num_Quo.f) (fun _ _ _ => LeO.refl _)
 have m3 := @pPairs.mono (fun _ => num_Rem.f) (fun _ _ _ => LeO.refl _)
 exact leo_
def mul_Filter.T3 : Bool × List (List Nat × List Nat) := (true, [([], []), ([0], [0]), ([1], [1]), ([2], [2]), ([], []), ([4], [4]), ([5], [5]), ([6, 3], [6]), ([3, 7], [3, 7]), ([8], [8])])
def mul_Filter.B3 : List Nat := [0, 1, 3, 7, 0, 16, 48, 127, 255, 511]
theorem mul_Filter.tab3 : rtab .any (opsOf Tryz.f10 3) = mul_Filter.T3 := by kernel_rfl
theorem mul_Filter.bits3 : waitsOk mul_Filter.T3.2 mul_Filter.B3 = true := by kernel_rfl
def mul_Filter.T11 : Bool × List (List Nat × List Nat) := (true, [([], []), ([0], [0]), ([1], [1]), ([], []), ([3], [3]), ([4], [4]), ([], []), ([6], [6]), ([7], [7]), ([], []), ([2, 5, 8, 9], [2, 5, 8, 9]), ([10], [10]), ([10], [10]), ([11, 10, 0, 1, 2, 3, 4, 5, 6, 7, 8, 9, 10, 11, 12], [11]), ([12, 13, 0, 1, 2, 3, 4, 5, 6, 7, 8, 9, 10, 11, 12, 13], [12])])
def mul_Filter.B11 : List Nat := [0, 1, 3, 0, 8, 24, 0, 64, 192, 0, 1023, 2047, 2047, 8191, 16383]
theorem mul_Filter.tab11 : rtab .any (opsOf Tryz.f10 11) = mul_Filter.T11 := by kernel_rfl
theorem mul_Filter.bits11 : waitsOk mul_Filter.T11.2 mul_Filter.B11 = true := by kernel_rfl
set_option maxHeartbeats 8000000 in
set_option maxRecDepth 100000 in
theorem mul_Filter.calls (k : Nat) (J : Int) (bP : Option Addr) (c0_1 : Nat) (M : List Int) (bQ : Option Addr) (c0_2 : Nat) (O : List Int) (bR : Option Addr) (c0_3 : Nat) (P : List Int) (bS : Option Addr) (c0_4 : Nat) (Q : List Int) (bT : Option Addr) (c0_5 : Nat) (U : List Int) (aX : Int) (bU : Option Addr) (c0_7 : Nat) (V : List (List Int)) (A1 : Option Addr) (c1 : Nat) (b : List (S61)) (r1 : List (S61)) (r2 : Bool) (w : World) (c3 : Kd.C (Kd.int .i64) w bP M.length M) (c6 : M.length ≤ c0_1) (c8 : Kd.C (Kd.int .i64) w bQ O.length O) (da : O.length ≤ c0_2) (db : Kd.C (Kd.int .i64) w bR P.length P) (dc : P.length ≤ c0_3) (dd : Kd.C (Kd.int .i64) w bS Q.length Q) (de : Q.length ≤ c0_4) (df : Kd.C (Kd.int .i64) w bT U.length U) (dg : U.length ≤ c0_5) (dh : Kd.C (Kd.slice 3 (Kd.int .i64)) w bU V.length V) (di : V.length ≤ c0_7) (dO : Kd.C k61 w A1 b.length b) (dP : b.length ≤ c1) (hrtab : Kd.C (Kd.int .u8) w (some ⟨0, 0, none⟩) tabL.length tabL) (h : mul_Filter.f k J M O P Q U aX V b = some (r1, r2)) :
  Calls Tryz.prog 10 #[.agg #[.int .i64 J, .slice bP M.length c0_1, .slice bQ O.length c0_2, .slice bR P.length c0_3, .slice bS Q.length c0_4, .slice bT U.length c0_5, .int .i64 aX, .slice bU V.length c0_7], .slice A1 b.length c1] w fun e w' => ∃ dQ : Value, e = .returned (.tuple #[dQ, .bool r2]) ∧ Kd.N k61 61 w' w.heap.size (fun k_ => (w.heap.size ≤ k_)) dQ r1 ∧ Below w.heap.size w w' := by
 have hu32 := Tryz.underlying32
 have hu61 := Tryz.underlying61
 have b1 := a_ c3
 have b2 := a_ c6
 clear c3 c6
 have b3 := a_ c8
 have b4 := a_ da
 clear c8 da
 have b5 := a_ db
 have b6 := a_ dc
 clear db dc
 have b7 := a_ dd
 have b8 := a_ de
 clear dd de
 have b9 := a_ df
 have ca := a_ dg
 clear df dg
 have cb := a_ dh
 have cc := a_ di
 clear dh di
 have aY := a_ dO
 have dj := a_ dP
 clear dO dP
 have HRtab := a_ hrtab
 clear hrtab
 have HB := a_ (Below.refl w.heap.size w)
 unfold mul_Filter.f at h
 have H := h
 clear h
 replace H := bo_ H
 obtain ⟨dT, A3, H⟩ := H
 try dsimp only at H
 by_cases c4 : dT = true
 rotate_left
 ·
  replace c4 := bf_.mpr c4
  subst c4
  have H1 : (some (([] : List (S61)), false)) = some (r1, r2) := by rw [ig_ (show ¬ (false = true) by decide)] at H; exact H
  clear H
  have H := H1
  clear H1
  simp only [Option.some.injEq, Prod.mk.injEq] at H
  obtain ⟨rfl, rfl⟩ := H
  go_enter Tryz.func10, Tryz.ntmps10
  go_wp2_with (first | ((with_reducible refine gate_dst (N := 2) rfl ?_); refine bxe_ (N := 2) (cs := #[.int .i64 J, .slice bP M.length c0_1, .slice bQ O.length c0_2, .slice bR P.length c0_3, .slice bS Q.length c0_4, .slice bT U.length c0_5, .int .i64 aX, .slice bU V.length c0_7]) (t := 32) ?_; intro bK hg w45 hbox hb; have c := a_ (hbox); have bX := a_ (by rw [hg]; exact (bz_ bel_) : w.heap.size ≤ bK); have cJ := bX; replace HB := hq_ hb; clear hb hbox hg; obtain ⟨_, _, _, _, _, _, _, _, _, _, _, _, _, _, _, _⟩ := cel8_ c.out) | ((with_reducible refine gate_callee (f := 27) rfl ?_); refine goesL_ (some 9) rfl rfl Tryz.func27 kr_ rfl #[.agg #[.int .i64 J, .slice bP M.length c0_1, .slice bQ O.length c0_2, .slice bR P.length c0_3, .slice bS Q.length c0_4, .slice bT U.length c0_5, .int .i64 aX, .slice bU V.length c0_7], .slice A1 b.length c1, .int .i64 5, .int .i64 7] rfl ar_ ?_; (with_reducible refine (prop_Fits.calls k J _ _ M _ _ O _ _ P _ _ Q _ _ U aX _ _ V _ _ b 5 7 false _ ?_ ?_ ?_ ?_ ?_ ?_ ?_ ?_ ?_ ?_ ?_ ?_ ?_ ?_ A3.out).mono ?_); exact ca_ ((cb_ b1.out HB.out)); exact b2.out; exact ca_ ((cb_ b3.out HB.out)); exact b4.out; exact ca_ ((cb_ b5.out HB.out)); exact b6.out; exact ca_ ((cb_ b7.out HB.out)); exact b8.out; exact ca_ ((cb_ b9.out HB.out)); exact ca.out; exact ca_ ((cb_ cb.out HB.out)); exact cc.out; exact ca_ ((cb_ aY.out HB.out)); exact dj.out; rintro e w47 ⟨rfl, hb⟩; refine ⟨_, rfl, ?_⟩; replace HB := hq_ hb; clear hb))
  go_ret2
  exact ⟨_, er_, by first | exact Kd.S_nil _ _ _ _ _ | exact Kd.N_nil _ _ _ _ _ | exact Kd.V_nil _ _ _ _ _ | exact Kd.Q_nil _ _ _ _ _ | exact Kd.R_nil _ _ _ _ _, bel_⟩
 subst c4
 rw [ip_ rfl] at H
 by_cases c5 : 0 < (b.length : Int)
 rotate_left
 ·
  rw [ig_ c5] at H
  exact ab_ H
 rw [ip_ c5] at H
 have c5b0 : decide (0 < (b.length : Int)) = true := dt_ c5
 have c5b1 : decide (0 < b.length) = true := dt_ (by omega)
 clear c5
 replace H := bo_ H
 obtain ⟨cd, A6, H⟩ := H
 try dsimp only at H
 by_cases c7 : 1 < (b.length : Int)
 rotate_left
 ·
  rw [ig_ c7] at H
  exact ab_ H
 rw [ip_ c7] at H
 have c7b0 : decide (1 < (b.length : Int)) = true := dt_ c7
 have c7b1 : decide (1 < b.length) = true := dt_ (by omega)
 clear c7
 replace H := bo_ H
 obtain ⟨ce, A8, H⟩ := H
 try dsimp only at H
 by_cases c9 : (wrap64 (cd * ce)) > 4096
 ·
  rw [ip_ c9] at H
  exact ab_ H
 rw [ig_ c9] at H
 have c9b0 : decide (4096 < (wrap64 (cd * ce))) = false := df_ c9
 clear c9
 by_cases c10 : J = 6
 ·
  rw [ip_ c10] at H
  have c10b0 : (J == 6) = true := beq_iff_eq.mpr c10
  have c10b1 : (J != 6) = false := bn_.mpr c10
  clear c10
  by_cases c11 : 2 < (b.length : Int)
  rotate_left
  ·
   rw [ig_ c11] at H
   exact ab_ H
  rw [ip_ c11] at H
  have c11b0 : decide (2 < (b.length : Int)) = true := dt_ c11
  have c11b1 : decide (2 < b.length) = true := dt_ (by omega)
  clear c11
  replace H := bs_.mp H
  obtain ⟨⟨dW, dX⟩, dy, H⟩ := H
  try dsimp only at H
  have eb := a_ dy
  clear dy
  simp only [Option.some.injEq, Prod.mk.injEq] at H
  obtain ⟨rfl, rfl⟩ := H
  go_enter Tryz.func10, Tryz.ntmps10
  try go_wp2_with (first | ((with_reducible refine gate_dst (N := 2) rfl ?_); refine bxe_ (N := 2) (cs := #[.int .i64 J, .slice bP M.length c0_1, .slice bQ O.length c0_2, .slice bR P.length c0_3, .slice bS Q.length c0_4, .slice bT U.length c0_5, .int .i64 aX, .slice bU V.length c0_7]) (t := 32) ?_; intro bK hg w13 hbox hb; have c := a_ (hbox); have bX := a_ (by rw [hg]; exact (bz_ bel_) : w.heap.size ≤ bK); have cJ := bX; replace HB := hq_ hb; clear hb hbox hg; obtain ⟨_, _, _, _, _, _, _, _, _, _, _, _, _, _, _, _⟩ := cel8_ c.out) | ((with_reducible refine gate_callee (f := 27) rfl ?_); refine goesL_ (some 9) rfl rfl Tryz.func27 kr_ rfl #[.agg #[.int .i64 J, .slice bP M.length c0_1, .slice bQ O.length c0_2, .slice bR P.length c0_3, .slice bS Q.length c0_4, .slice bT U.length c0_5, .int .i64 aX, .slice bU V.length c0_7], .slice A1 b.length c1, .int .i64 5, .int .i64 7] rfl ar_ ?_; (with_reducible refine (prop_Fits.calls k J _ _ M _ _ O _ _ P _ _ Q _ _ U aX _ _ V _ _ b 5 7 true _ ?_ ?_ ?_ ?_ ?_ ?_ ?_ ?_ ?_ ?_ ?_ ?_ ?_ ?_ A3.out).mono ?_); exact ca_ ((cb_ b1.out HB.out)); exact b2.out; exact ca_ ((cb_ b3.out HB.out)); exact b4.out; exact ca_ ((cb_ b5.out HB.out)); exact b6.out; exact ca_ ((cb_ b7.out HB.out)); exact b8.out; exact ca_ ((cb_ b9.out HB.out)); exact ca.out; exact ca_ ((cb_ cb.out HB.out)); exact cc.out; exact ca_ ((cb_ aY.out HB.out)); exact dj.out; rintro e w15 ⟨rfl, hb⟩; refine ⟨_, rfl, ?_⟩; replace c := a_ (bq_ c.out hb); replace HB := hq_ hb; clear hb))
  replace c := a_ (blk_drew c.out)
  replace HB := a_ (below_drew1 HB.out)
  have p423 : 0 ≤ (0 : Int) := (by omega)
  have bN : 0 < (b.length : Int) := dq_
  obtain ⟨a, bL, c423_1, cf, v, x, y, z, A, W, X⟩ := at_T61 aY.out 0 p423 bN
  have d := A
  (try rw [t0_] at d)
  (try rw [n05_] at d)
  (try rw [Addr.add_zero'] at d)
  have g := z
  (try rw [t0_] at g)
  (try rw [n05_] at g)
  (try rw [Addr.add_zero'] at g)
  have l := y
  (try rw [t0_] at l)
  (try rw [n05_] at l)
  (try rw [Addr.add_zero'] at l)
  have m := x
  (try rw [t0_] at m)
  (try rw [n05_] at m)
  (try rw [Addr.add_zero'] at m)
  have o := v
  (try rw [t0_] at o)
  (try rw [n05_] at o)
  (try rw [Addr.add_zero'] at o)
  cases cf
  have dk : (0 < b.length) = True := et_ (by omega)
  (try rw [t0_] at v)
  (try rw [n05_] at v)
  (try rw [Addr.add_zero'] at v)
  (try rw [t0_] at x)
  (try rw [n05_] at x)
  (try rw [Addr.add_zero'] at x)
  (try rw [t0_] at y)
  (try rw [n05_] at y)
  (try rw [Addr.add_zero'] at y)
  (try rw [t0_] at z)
  (try rw [n05_] at z)
  (try rw [Addr.add_zero'] at z)
  (try rw [t0_] at A)
  (try rw [n05_] at A)
  (try rw [Addr.add_zero'] at A)
  replace v := hx_ HB v
  replace x := hx_ HB x
  replace y := hx_ HB y
  replace z := hx_ HB z
  replace A := hx_ HB A
  have Y := a_ X
  have bV := a_ W
  clear X W
  replace p423 := et_ p423
  replace bN := et_ bN
  have p425 : 0 ≤ (1 : Int) := (by omega)
  have bO : 1 < (b.length : Int) := dq_
  obtain ⟨bZ, bM, c425_1, cg, B, E, F, G, I, Z, aa⟩ := at_T61 aY.out 1 p425 bO
  have p := I
  (try rw [t1_] at p)
  (try rw [n15_] at p)
  (try simp only [Nat.reduceMul, Nat.reduceEqDiff, Go.Addr.add, ↓reduceIte] at p)
  have q := G
  (try rw [t1_] at q)
  (try rw [n15_] at q)
  (try simp only [Nat.reduceMul, Nat.reduceEqDiff, Go.Addr.add, ↓reduceIte] at q)
  have r := F
  (try rw [t1_] at r)
  (try rw [n15_] at r)
  (try simp only [Nat.reduceMul, Nat.reduceEqDiff, Go.Addr.add, ↓reduceIte] at r)
  have s := E
  (try rw [t1_] at s)
  (try rw [n15_] at s)
  (try simp only [Nat.reduceMul, Nat.reduceEqDiff, Go.Addr.add, ↓reduceIte] at s)
  have u := B
  (try rw [t1_] at u)
  (try rw [n15_] at u)
  (try simp only [Nat.reduceMul, Nat.reduceEqDiff, Go.Addr.add, ↓reduceIte] at u)
  obtain rfl : a = bZ := (by injection cg)
  (try simp only [t1_, Nat.reduceMul, Nat.reduceEqDiff, Go.Addr.add, ↓reduceIte] at B)
  (try simp only [t1_, Nat.reduceMul, Nat.reduceEqDiff, Go.Addr.add, ↓reduceIte] at E)
  (try simp only [t1_, Nat.reduceMul, Nat.reduceEqDiff, Go.Addr.add, ↓reduceIte] at F)
  (try simp only [t1_, Nat.reduceMul, Nat.reduceEqDiff, Go.Addr.add, ↓reduceIte] at G)
  (try simp only [t1_, Nat.reduceMul, Nat.reduceEqDiff, Go.Addr.add, ↓reduceIte] at I)
  have dl : (1 < b.length) = True := et_ (by omega)
  (try rw [t1_] at B)
  (try rw [n15_] at B)
  (try rw [t1_] at E)
  (try rw [n15_] at E)
  (try rw [t1_] at F)
  (try rw [n15_] at F)
  (try rw [t1_] at G)
  (try rw [n15_] at G)
  (try rw [t1_] at I)
  (try rw [n15_] at I)
  replace B := hx_ HB B
  replace E := hx_ HB E
  replace F := hx_ HB F
  replace G := hx_ HB G
  replace I := hx_ HB I
  have ab := a_ aa
  have bW := a_ Z
  clear aa Z
  replace p425 := et_ p425
  replace bO := et_ bO
  refine start_ (n := 10) (S := fun w' => w'.cell? a = some (.int .i64 ((rd_T61 b 0).f0)) ∧ w'.cell? ⟨a.block, a.off + 1, none⟩ = some (.slice bL ((rd_T61 b 0).f1).length c423_1) ∧ w'.cell? ⟨a.block, a.off + 2, none⟩ = some (.int .i64 ((rd_T61 b 0).f2)) ∧ w'.cell? ⟨a.block, a.off + 3, none⟩ = some (.int .i64 ((rd_T61 b 0).f3)) ∧ w'.cell? ⟨a.block, a.off + 4, none⟩ = some (.int .i64 ((rd_T61 b 0).f4)) ∧ w'.cell? ⟨a.block, a.off + 5, none⟩ = some (.int .i64 ((rd_T61 b 1).f0)) ∧ w'.cell? ⟨a.block, a.off + 5 + 1, none⟩ = some (.slice bM ((rd_T61 b 1).f1).length c425_1) ∧ w'.cell? ⟨a.block, a.off + 5 + 2, none⟩ = some (.int .i64 ((rd_T61 b 1).f2)) ∧ w'.cell? ⟨a.block, a.off + 5 + 3, none⟩ = some (.int .i64 ((rd_T61 b 1).f3)) ∧ w'.cell? ⟨a.block, a.off + 5 + 4, none⟩ = some (.int .i64 ((rd_T61 b 1).f4))) (ds := []) #[false, false, false, false, false, false, false, false, false, false] kr_ rfl rfl ⟨(hx_ HB o), (hx_ HB m), (hx_ HB l), (hx_ HB g), (hx_ HB d), (hx_ HB u), (hx_ HB s), (hx_ HB r), (hx_ HB q), (hx_ HB p)⟩ (fun hHeld => ?_); refine with_tabW mul_Filter.tab3 mul_Filter.bits3 (fun HT_ HW_ => ?_)
  generalize w15.drew = w16 at c HB Y ab v x y z A B E F G I hHeld ⊢
  refine pn_ 0 11 ao_ ?_
  refine pn_ 1 12 ao_ ?_
  refine pn_ 4 15 ao_ ?_
  refine pn_ 5 16 ao_ ?_
  refine tn_ 2 13 tw_ hHeld ?_
  refine tn_ 6 17 tw_ hHeld ?_
  refine onn_ 3 14 #[true, true, true, true, true, true, true, false, false, false] rfl rfl on_ (by decide) (fun K hK => ?_)
  refine goes_ Tryz.func28 kr_ rfl #[.agg #[.int .i64 ((rd_T61 b 0).f0), .slice bL ((rd_T61 b 0).f1).length c423_1, .int .i64 ((rd_T61 b 0).f2), .int .i64 ((rd_T61 b 0).f3), .int .i64 ((rd_T61 b 0).f4)]] (by rfl) rfl rfl ar_ ?_
  with_reducible refine (dom_Dom_Size.calls ((rd_T61 b 0).f0) _ _ ((rd_T61 b 0).f1) ((rd_T61 b 0).f2) ((rd_T61 b 0).f3) ((rd_T61 b 0).f4) cd _ ?_ ?_ A6.out).mono ?_
  exact ca_ ((cb_ Y.out HB.out))
  exact bV.out
  rintro e w17 ⟨rfl, hb⟩
  refine ⟨_, rfl, ?_⟩
  replace c := a_ (bq_ c.out hb)
  replace HB := hq_ hb
  clear hb
  refine hK.out _ _ ⟨(hx_ HB o), (hx_ HB m), (hx_ HB l), (hx_ HB g), (hx_ HB d), (hx_ HB u), (hx_ HB s), (hx_ HB r), (hx_ HB q), (hx_ HB p)⟩ (fun hHeld => ?_)
  clear hK K
  refine nor_ (N := some 14) ?_
  refine onn_ 7 18 #[true, true, true, true, true, true, true, true, false, false] rfl rfl on_ (by decide) (fun K hK => ?_)
  refine goes_ Tryz.func28 kr_ rfl #[.agg #[.int .i64 ((rd_T61 b 1).f0), .slice bM ((rd_T61 b 1).f1).length c425_1, .int .i64 ((rd_T61 b 1).f2), .int .i64 ((rd_T61 b 1).f3), .int .i64 ((rd_T61 b 1).f4)]] (by rfl) rfl rfl ar_ ?_
  with_reducible refine (dom_Dom_Size.calls ((rd_T61 b 1).f0) _ _ ((rd_T61 b 1).f1) ((rd_T61 b 1).f2) ((rd_T61 b 1).f3) ((rd_T61 b 1).f4) ce _ ?_ ?_ A8.out).mono ?_
  exact ca_ ((cb_ ab.out HB.out))
  exact bW.out
  rintro e w18 ⟨rfl, hb⟩
  refine ⟨_, rfl, ?_⟩
  replace c := a_ (bq_ c.out hb)
  replace HB := hq_ hb
  clear hb
  refine hK.out _ _ ⟨(hx_ HB o), (hx_ HB m), (hx_ HB l), (hx_ HB g), (hx_ HB d), (hx_ HB u), (hx_ HB s), (hx_ HB r), (hx_ HB q), (hx_ HB p)⟩ (fun hHeld => ?_)
  clear hK K
  refine nor_ (N := some 18) ?_
  refine pn_ 8 19 ao_ ?_
  refine pn_ 9 20 ao_ ?_
  refine done_ dn_ ?_
  obtain ⟨_, _, _, _, _, _, _, _, _, _, _, _, _, _, _, _⟩ := cel8_ c.out
  try go_wp2
  replace c := a_ (blk_drew c.out)
  replace HB := a_ (below_drew1 HB.out)
  have p427 : 0 ≤ (0 : Int) := (by omega)
  have cT : 0 < (b.length : Int) := dq_
  obtain ⟨dC, cK, c427_1, dY, ac, ad, ae, af, ag, ch, ci⟩ := at_T61 aY.out 0 p427 cT
  have aZ := ag
  (try rw [t0_] at aZ)
  (try rw [n05_] at aZ)
  (try rw [Addr.add_zero'] at aZ)
  have a0 := af
  (try rw [t0_] at a0)
  (try rw [n05_] at a0)
  (try rw [Addr.add_zero'] at a0)
  have a1 := ae
  (try rw [t0_] at a1)
  (try rw [n05_] at a1)
  (try rw [Addr.add_zero'] at a1)
  have a2 := ad
  (try rw [t0_] at a2)
  (try rw [n05_] at a2)
  (try rw [Addr.add_zero'] at a2)
  have a3 := ac
  (try rw [t0_] at a3)
  (try rw [n05_] at a3)
  (try rw [Addr.add_zero'] at a3)
  obtain rfl : a = dC := (by injection dY)
  have ee : (0 < b.length) = True := et_ (by omega)
  (try rw [t0_] at ac)
  (try rw [n05_] at ac)
  (try rw [Addr.add_zero'] at ac)
  (try rw [t0_] at ad)
  (try rw [n05_] at ad)
  (try rw [Addr.add_zero'] at ad)
  (try rw [t0_] at ae)
  (try rw [n05_] at ae)
  (try rw [Addr.add_zero'] at ae)
  (try rw [t0_] at af)
  (try rw [n05_] at af)
  (try rw [Addr.add_zero'] at af)
  (try rw [t0_] at ag)
  (try rw [n05_] at ag)
  (try rw [Addr.add_zero'] at ag)
  replace ac := hx_ HB ac
  replace ad := hx_ HB ad
  replace ae := hx_ HB ae
  replace af := hx_ HB af
  replace ag := hx_ HB ag
  have cj := a_ ci
  have dn := a_ ch
  clear ci ch
  replace p427 := et_ p427
  replace cT := et_ cT
  have p428 : 0 ≤ (1 : Int) := (by omega)
  have cU : 1 < (b.length : Int) := dq_
  obtain ⟨dD, cL, c428_1, dZ, ah, ai, aj, ak, al, ck, cl⟩ := at_T61 aY.out 1 p428 cU
  have a4 := al
  (try rw [t1_] at a4)
  (try rw [n15_] at a4)
  (try simp only [Nat.reduceMul, Nat.reduceEqDiff, Go.Addr.add, ↓reduceIte] at a4)
  have a5 := ak
  (try rw [t1_] at a5)
  (try rw [n15_] at a5)
  (try simp only [Nat.reduceMul, Nat.reduceEqDiff, Go.Addr.add, ↓reduceIte] at a5)
  have a6 := aj
  (try rw [t1_] at a6)
  (try rw [n15_] at a6)
  (try simp only [Nat.reduceMul, Nat.reduceEqDiff, Go.Addr.add, ↓reduceIte] at a6)
  have a7 := ai
  (try rw [t1_] at a7)
  (try rw [n15_] at a7)
  (try simp only [Nat.reduceMul, Nat.reduceEqDiff, Go.Addr.add, ↓reduceIte] at a7)
  have a8 := ah
  (try rw [t1_] at a8)
  (try rw [n15_] at a8)
  (try simp only [Nat.reduceMul, Nat.reduceEqDiff, Go.Addr.add, ↓reduceIte] at a8)
  obtain rfl : a = dD := (by injection dZ)
  (try simp only [t1_, Nat.reduceMul, Nat.reduceEqDiff, Go.Addr.add, ↓reduceIte] at ah)
  (try simp only [t1_, Nat.reduceMul, Nat.reduceEqDiff, Go.Addr.add, ↓reduceIte] at ai)
  (try simp only [t1_, Nat.reduceMul, Nat.reduceEqDiff, Go.Addr.add, ↓reduceIte] at aj)
  (try simp only [t1_, Nat.reduceMul, Nat.reduceEqDiff, Go.Addr.add, ↓reduceIte] at ak)
  (try simp only [t1_, Nat.reduceMul, Nat.reduceEqDiff, Go.Addr.add, ↓reduceIte] at al)
  have ef : (1 < b.length) = True := et_ (by omega)
  (try rw [t1_] at ah)
  (try rw [n15_] at ah)
  (try rw [t1_] at ai)
  (try rw [n15_] at ai)
  (try rw [t1_] at aj)
  (try rw [n15_] at aj)
  (try rw [t1_] at ak)
  (try rw [n15_] at ak)
  (try rw [t1_] at al)
  (try rw [n15_] at al)
  replace ah := hx_ HB ah
  replace ai := hx_ HB ai
  replace aj := hx_ HB aj
  replace ak := hx_ HB ak
  replace al := hx_ HB al
  have cm := a_ cl
  have dp := a_ ck
  clear cl ck
  replace p428 := et_ p428
  replace cU := et_ cU
  have p429 : 0 ≤ (2 : Int) := (by omega)
  have cV : 2 < (b.length : Int) := dq_
  obtain ⟨dE, cM, c429_1, d0, am, an, ao, ap, aq, cn, co⟩ := at_T61 aY.out 2 p429 cV
  have a9 := aq
  (try rw [t2_] at a9)
  (try rw [n25_] at a9)
  (try simp only [Nat.reduceMul, Nat.reduceEqDiff, Go.Addr.add, ↓reduceIte] at a9)
  have ba := ap
  (try rw [t2_] at ba)
  (try rw [n25_] at ba)
  (try simp only [Nat.reduceMul, Nat.reduceEqDiff, Go.Addr.add, ↓reduceIte] at ba)
  have bb := ao
  (try rw [t2_] at bb)
  (try rw [n25_] at bb)
  (try simp only [Nat.reduceMul, Nat.reduceEqDiff, Go.Addr.add, ↓reduceIte] at bb)
  have bc := an
  (try rw [t2_] at bc)
  (try rw [n25_] at bc)
  (try simp only [Nat.reduceMul, Nat.reduceEqDiff, Go.Addr.add, ↓reduceIte] at bc)
  have bd := am
  (try rw [t2_] at bd)
  (try rw [n25_] at bd)
  (try simp only [Nat.reduceMul, Nat.reduceEqDiff, Go.Addr.add, ↓reduceIte] at bd)
  obtain rfl : a = dE := (by injection d0)
  (try simp only [t2_, Nat.reduceMul, Nat.reduceEqDiff, Go.Addr.add, ↓reduceIte] at am)
  (try simp only [t2_, Nat.reduceMul, Nat.reduceEqDiff, Go.Addr.add, ↓reduceIte] at an)
  (try simp only [t2_, Nat.reduceMul, Nat.reduceEqDiff, Go.Addr.add, ↓reduceIte] at ao)
  (try simp only [t2_, Nat.reduceMul, Nat.reduceEqDiff, Go.Addr.add, ↓reduceIte] at ap)
  (try simp only [t2_, Nat.reduceMul, Nat.reduceEqDiff, Go.Addr.add, ↓reduceIte] at aq)
  have eg : (2 < b.length) = True := et_ (by omega)
  (try rw [t2_] at am)
  (try rw [n25_] at am)
  (try rw [t2_] at an)
  (try rw [n25_] at an)
  (try rw [t2_] at ao)
  (try rw [n25_] at ao)
  (try rw [t2_] at ap)
  (try rw [n25_] at ap)
  (try rw [t2_] at aq)
  (try rw [n25_] at aq)
  replace am := hx_ HB am
  replace an := hx_ HB an
  replace ao := hx_ HB ao
  replace ap := hx_ HB ap
  replace aq := hx_ HB aq
  have cp := a_ co
  have dq := a_ cn
  clear co cn
  replace p429 := et_ p429
  replace cV := et_ cV
  refine start_ (n := 15) (S := fun w' => w'.cell? a = some (.int .i64 ((rd_T61 b 0).f0)) ∧ w'.cell? ⟨a.block, a.off + 1, none⟩ = some (.slice cK ((rd_T61 b 0).f1).length c427_1) ∧ w'.cell? ⟨a.block, a.off + 2, none⟩ = some (.int .i64 ((rd_T61 b 0).f2)) ∧ w'.cell? ⟨a.block, a.off + 3, none⟩ = some (.int .i64 ((rd_T61 b 0).f3)) ∧ w'.cell? ⟨a.block, a.off + 4, none⟩ = some (.int .i64 ((rd_T61 b 0).f4)) ∧ w'.cell? ⟨a.block, a.off + 5, none⟩ = some (.int .i64 ((rd_T61 b 1).f0)) ∧ w'.cell? ⟨a.block, a.off + 5 + 1, none⟩ = some (.slice cL ((rd_T61 b 1).f1).length c428_1) ∧ w'.cell? ⟨a.block, a.off + 5 + 2, none⟩ = some (.int .i64 ((rd_T61 b 1).f2)) ∧ w'.cell? ⟨a.block, a.off + 5 + 3, none⟩ = some (.int .i64 ((rd_T61 b 1).f3)) ∧ w'.cell? ⟨a.block, a.off + 5 + 4, none⟩ = some (.int .i64 ((rd_T61 b 1).f4)) ∧ w'.cell? ⟨a.block, a.off + 10, none⟩ = some (.int .i64 ((rd_T61 b 2).f0)) ∧ w'.cell? ⟨a.block, a.off + 10 + 1, none⟩ = some (.slice cM ((rd_T61 b 2).f1).length c429_1) ∧ w'.cell? ⟨a.block, a.off + 10 + 2, none⟩ = some (.int .i64 ((rd_T61 b 2).f2)) ∧ w'.cell? ⟨a.block, a.off + 10 + 3, none⟩ = some (.int .i64 ((rd_T61 b 2).f3)) ∧ w'.cell? ⟨a.block, a.off + 10 + 4, none⟩ = some (.int .i64 ((rd_T61 b 2).f4))) (ds := []) #[false, false, false, false, false, false, false, false, false, false, false, false, false, false, false] kr_ rfl rfl ⟨(hx_ HB a3), (hx_ HB a2), (hx_ HB a1), (hx_ HB a0), (hx_ HB aZ), (hx_ HB a8), (hx_ HB a7), (hx_ HB a6), (hx_ HB a5), (hx_ HB a4), (hx_ HB bd), (hx_ HB bc), (hx_ HB bb), (hx_ HB ba), (hx_ HB a9)⟩ (fun hHeld => ?_); refine with_tabW mul_Filter.tab11 mul_Filter.bits11 (fun HT_ HW_ => ?_)
  generalize w18.drew = w20 at c HB cj cm cp ac ad ae af ag ah ai aj ak al am an ao ap aq hHeld ⊢
  refine pn_ 0 32 ao_ ?_
  refine pn_ 1 33 ao_ ?_
  refine pn_ 3 35 ao_ ?_
  refine pn_ 4 36 ao_ ?_
  refine pn_ 6 38 ao_ ?_
  refine pn_ 7 39 ao_ ?_
  refine pn_ 9 41 ao_ ?_
  refine tn_ 2 34 tw_ hHeld ?_
  refine tn_ 5 37 tw_ hHeld ?_
  refine tn_ 8 40 tw_ hHeld ?_
  refine onn_ 10 42 #[true, true, true, true, true, true, true, true, true, true, true, false, false, false, false] rfl rfl on_ (by decide) (fun K hK => ?_)
  refine goes_ Tryz.func33 kr_ rfl #[.agg #[.int .i64 ((rd_T61 b 0).f0), .slice cK ((rd_T61 b 0).f1).length c427_1, .int .i64 ((rd_T61 b 0).f2), .int .i64 ((rd_T61 b 0).f3), .int .i64 ((rd_T61 b 0).f4)], .agg #[.int .i64 ((rd_T61 b 1).f0), .slice cL ((rd_T61 b 1).f1).length c428_1, .int .i64 ((rd_T61 b 1).f2), .int .i64 ((rd_T61 b 1).f3), .int .i64 ((rd_T61 b 1).f4)], .agg #[.int .i64 ((rd_T61 b 2).f0), .slice cM ((rd_T61 b 2).f1).length c429_1, .int .i64 ((rd_T61 b 2).f2), .int .i64 ((rd_T61 b 2).f3), .int .i64 ((rd_T61 b 2).f4)], .func (.func 31) #[] #[]] (by rfl) rfl rfl ar_ ?_
  with_reducible refine (pPairs.calls (.inr (.inl rfl)) (fun _ => num_Quo.calls) k ((rd_T61 b 0).f0) _ _ ((rd_T61 b 0).f1) ((rd_T61 b 0).f2) ((rd_T61 b 0).f3) ((rd_T61 b 0).f4) ((rd_T61 b 1).f0) _ _ ((rd_T61 b 1).f1) ((rd_T61 b 1).f2) ((rd_T61 b 1).f3) ((rd_T61 b 1).f4) ((rd_T61 b 2).f0) _ _ ((rd_T61 b 2).f1) ((rd_T61 b 2).f2) ((rd_T61 b 2).f3) ((rd_T61 b 2).f4) dW dX _ ?_ ?_ ?_ ?_ ?_ ?_ ?_ eb.out).mono ?_
  exact ca_ ((cb_ cj.out HB.out))
  exact dn.out
  exact ca_ ((cb_ cm.out HB.out))
  exact dp.out
  exact ca_ ((cb_ cp.out HB.out))
  exact dq.out
  exact ca_ ((cb_ HRtab.out HB.out))
  rintro e w21 ⟨en, rfl, b0, hb⟩
  refine ⟨_, rfl, ?_⟩
  have dF := a_ (Kd.N_lower (nm_ (ok' := fun k_ => (w.heap.size ≤ k_) ∧ k_ ≠ bK) b0 (fun k_ hk_ => ⟨(Nat.le_trans (bz_ bel_) hk_), (Kd.freshB (bk_ c.out) k_ hk_)⟩)) (bz_ bel_))
  replace HB := hq_ hb
  clear hb b0
  refine hK.out _ _ ⟨(hx_ HB a3), (hx_ HB a2), (hx_ HB a1), (hx_ HB a0), (hx_ HB aZ), (hx_ HB a8), (hx_ HB a7), (hx_ HB a6), (hx_ HB a5), (hx_ HB a4), (hx_ HB bd), (hx_ HB bc), (hx_ HB bb), (hx_ HB ba), (hx_ HB a9)⟩ (fun hHeld => ?_)
  clear hK K
  refine nor_ (N := some 42) ?_
  refine pn_ 11 43 ao_ ?_
  refine pn_ 12 44 ao_ ?_
  refine pn_ 13 4 ao_ ?_
  refine pn_ 14 5 ao_ ?_
  refine done_ dn_ ?_
  try go_wp2
  go_ret2
  exact ⟨_, er_, by refine vN_ ?_; exact nm_ dF.out (fun _ hk => hk.1), bel_⟩
 rw [ig_ c10] at H
 have c10b0 : (J == 6) = false := be_.mpr c10
 have c10b1 : (J != 6) = true := ni_.mpr c10
 by_cases c22 : J = 7
 rotate_left
 ·
  rw [ig_ c22] at H
  have c22b0 : (J == 7) = false := be_.mpr c22
  have c22b1 : (J != 7) = true := ni_.mpr c22
  by_cases c34 : 2 < (b.length : Int)
  rotate_left
  ·
   rw [ig_ c34] at H
   exact ab_ H
  rw [ip_ c34] at H
  have c34b0 : decide (2 < (b.length : Int)) = true := dt_ c34
  have c34b1 : decide (2 < b.length) = true := dt_ (by omega)
  clear c34
  replace H := bs_.mp H
  obtain ⟨⟨d6, d7⟩, dA, H⟩ := H
  try dsimp only at H
  have ed := a_ dA
  clear dA
  simp only [Option.some.injEq, Prod.mk.injEq] at H
  obtain ⟨rfl, rfl⟩ := H
  go_enter Tryz.func10, Tryz.ntmps10
  try go_wp2_with (first | ((with_reducible refine gate_dst (N := 2) rfl ?_); refine bxe_ (N := 2) (cs := #[.int .i64 J, .slice bP M.length c0_1, .slice bQ O.length c0_2, .slice bR P.length c0_3, .slice bS Q.length c0_4, .slice bT U.length c0_5, .int .i64 aX, .slice bU V.length c0_7]) (t := 32) ?_; intro bK hg w36 hbox hb; have c := a_ (hbox); have bX := a_ (by rw [hg]; exact (bz_ bel_) : w.heap.size ≤ bK); have cJ := bX; replace HB := hq_ hb; clear hb hbox hg; obtain ⟨_, _, _, _, _, _, _, _, _, _, _, _, _, _, _, _⟩ := cel8_ c.out) | ((with_reducible refine gate_callee (f := 27) rfl ?_); refine goesL_ (some 9) rfl rfl Tryz.func27 kr_ rfl #[.agg #[.int .i64 J, .slice bP M.length c0_1, .slice bQ O.length c0_2, .slice bR P.length c0_3, .slice bS Q.length c0_4, .slice bT U.length c0_5, .int .i64 aX, .slice bU V.length c0_7], .slice A1 b.length c1, .int .i64 5, .int .i64 7] rfl ar_ ?_; (with_reducible refine (prop_Fits.calls k J _ _ M _ _ O _ _ P _ _ Q _ _ U aX _ _ V _ _ b 5 7 true _ ?_ ?_ ?_ ?_ ?_ ?_ ?_ ?_ ?_ ?_ ?_ ?_ ?_ ?_ A3.out).mono ?_); exact ca_ ((cb_ b1.out HB.out)); exact b2.out; exact ca_ ((cb_ b3.out HB.out)); exact b4.out; exact ca_ ((cb_ b5.out HB.out)); exact b6.out; exact ca_ ((cb_ b7.out HB.out)); exact b8.out; exact ca_ ((cb_ b9.out HB.out)); exact ca.out; exact ca_ ((cb_ cb.out HB.out)); exact cc.out; exact ca_ ((cb_ aY.out HB.out)); exact dj.out; rintro e w38 ⟨rfl, hb⟩; refine ⟨_, rfl, ?_⟩; replace c := a_ (bq_ c.out hb); replace HB := hq_ hb; clear hb))
  replace c := a_ (blk_drew c.out)
  replace HB := a_ (below_drew1 HB.out)
  have p423 : 0 ≤ (0 : Int) := (by omega)
  have bN : 0 < (b.length : Int) := dq_
  obtain ⟨a, bL, c423_1, cf, v, x, y, z, A, W, X⟩ := at_T61 aY.out 0 p423 bN
  have d := A
  (try rw [t0_] at d)
  (try rw [n05_] at d)
  (try rw [Addr.add_zero'] at d)
  have g := z
  (try rw [t0_] at g)
  (try rw [n05_] at g)
  (try rw [Addr.add_zero'] at g)
  have l := y
  (try rw [t0_] at l)
  (try rw [n05_] at l)
  (try rw [Addr.add_zero'] at l)
  have m := x
  (try rw [t0_] at m)
  (try rw [n05_] at m)
  (try rw [Addr.add_zero'] at m)
  have o := v
  (try rw [t0_] at o)
  (try rw [n05_] at o)
  (try rw [Addr.add_zero'] at o)
  cases cf
  have dk : (0 < b.length) = True := et_ (by omega)
  (try rw [t0_] at v)
  (try rw [n05_] at v)
  (try rw [Addr.add_zero'] at v)
  (try rw [t0_] at x)
  (try rw [n05_] at x)
  (try rw [Addr.add_zero'] at x)
  (try rw [t0_] at y)
  (try rw [n05_] at y)
  (try rw [Addr.add_zero'] at y)
  (try rw [t0_] at z)
  (try rw [n05_] at z)
  (try rw [Addr.add_zero'] at z)
  (try rw [t0_] at A)
  (try rw [n05_] at A)
  (try rw [Addr.add_zero'] at A)
  replace v := hx_ HB v
  replace x := hx_ HB x
  replace y := hx_ HB y
  replace z := hx_ HB z
  replace A := hx_ HB A
  have Y := a_ X
  have bV := a_ W
  clear X W
  replace p423 := et_ p423
  replace bN := et_ bN
  have p425 : 0 ≤ (1 : Int) := (by omega)
  have bO : 1 < (b.length : Int) := dq_
  obtain ⟨bZ, bM, c425_1, cg, B, E, F, G, I, Z, aa⟩ := at_T61 aY.out 1 p425 bO
  have p := I
  (try rw [t1_] at p)
  (try rw [n15_] at p)
  (try simp only [Nat.reduceMul, Nat.reduceEqDiff, Go.Addr.add, ↓reduceIte] at p)
  have q := G
  (try rw [t1_] at q)
  (try rw [n15_] at q)
  (try simp only [Nat.reduceMul, Nat.reduceEqDiff, Go.Addr.add, ↓reduceIte] at q)
  have r := F
  (try rw [t1_] at r)
  (try rw [n15_] at r)
  (try simp only [Nat.reduceMul, Nat.reduceEqDiff, Go.Addr.add, ↓reduceIte] at r)
  have s := E
  (try rw [t1_] at s)
  (try rw [n15_] at s)
  (try simp only [Nat.reduceMul, Nat.reduceEqDiff, Go.Addr.add, ↓reduceIte] at s)
  have u := B
  (try rw [t1_] at u)
  (try rw [n15_] at u)
  (try simp only [Nat.reduceMul, Nat.reduceEqDiff, Go.Addr.add, ↓reduceIte] at u)
  obtain rfl : a = bZ := (by injection cg)
  (try simp only [t1_, Nat.reduceMul, Nat.reduceEqDiff, Go.Addr.add, ↓reduceIte] at B)
  (try simp only [t1_, Nat.reduceMul, Nat.reduceEqDiff, Go.Addr.add, ↓reduceIte] at E)
  (try simp only [t1_, Nat.reduceMul, Nat.reduceEqDiff, Go.Addr.add, ↓reduceIte] at F)
  (try simp only [t1_, Nat.reduceMul, Nat.reduceEqDiff, Go.Addr.add, ↓reduceIte] at G)
  (try simp only [t1_, Nat.reduceMul, Nat.reduceEqDiff, Go.Addr.add, ↓reduceIte] at I)
  have dl : (1 < b.length) = True := et_ (by omega)
  (try rw [t1_] at B)
  (try rw [n15_] at B)
  (try rw [t1_] at E)
  (try rw [n15_] at E)
  (try rw [t1_] at F)
  (try rw [n15_] at F)
  (try rw [t1_] at G)
  (try rw [n15_] at G)
  (try rw [t1_] at I)
  (try rw [n15_] at I)
  replace B := hx_ HB B
  replace E := hx_ HB E
  replace F := hx_ HB F
  replace G := hx_ HB G
  replace I := hx_ HB I
  have ab := a_ aa
  have bW := a_ Z
  clear aa Z
  replace p425 := et_ p425
  replace bO := et_ bO
  refine start_ (n := 10) (S := fun w' => w'.cell? a = some (.int .i64 ((rd_T61 b 0).f0)) ∧ w'.cell? ⟨a.block, a.off + 1, none⟩ = some (.slice bL ((rd_T61 b 0).f1).length c423_1) ∧ w'.cell? ⟨a.block, a.off + 2, none⟩ = some (.int .i64 ((rd_T61 b 0).f2)) ∧ w'.cell? ⟨a.block, a.off + 3, none⟩ = some (.int .i64 ((rd_T61 b 0).f3)) ∧ w'.cell? ⟨a.block, a.off + 4, none⟩ = some (.int .i64 ((rd_T61 b 0).f4)) ∧ w'.cell? ⟨a.block, a.off + 5, none⟩ = some (.int .i64 ((rd_T61 b 1).f0)) ∧ w'.cell? ⟨a.block, a.off + 5 + 1, none⟩ = some (.slice bM ((rd_T61 b 1).f1).length c425_1) ∧ w'.cell? ⟨a.block, a.off + 5 + 2, none⟩ = some (.int .i64 ((rd_T61 b 1).f2)) ∧ w'.cell? ⟨a.block, a.off + 5 + 3, none⟩ = some (.int .i64 ((rd_T61 b 1).f3)) ∧ w'.cell? ⟨a.block, a.off + 5 + 4, none⟩ = some (.int .i64 ((rd_T61 b 1).f4))) (ds := []) #[false, false, false, false, false, false, false, false, false, false] kr_ rfl rfl ⟨(hx_ HB o), (hx_ HB m), (hx_ HB l), (hx_ HB g), (hx_ HB d), (hx_ HB u), (hx_ HB s), (hx_ HB r), (hx_ HB q), (hx_ HB p)⟩ (fun hHeld => ?_); refine with_tabW mul_Filter.tab3 mul_Filter.bits3 (fun HT_ HW_ => ?_)
  generalize w38.drew = w39 at c HB Y ab v x y z A B E F G I hHeld ⊢
  refine pn_ 0 11 ao_ ?_
  refine pn_ 1 12 ao_ ?_
  refine pn_ 4 15 ao_ ?_
  refine pn_ 5 16 ao_ ?_
  refine tn_ 2 13 tw_ hHeld ?_
  refine tn_ 6 17 tw_ hHeld ?_
  refine onn_ 3 14 #[true, true, true, true, true, true, true, false, false, false] rfl rfl on_ (by decide) (fun K hK => ?_)
  refine goes_ Tryz.func28 kr_ rfl #[.agg #[.int .i64 ((rd_T61 b 0).f0), .slice bL ((rd_T61 b 0).f1).length c423_1, .int .i64 ((rd_T61 b 0).f2), .int .i64 ((rd_T61 b 0).f3), .int .i64 ((rd_T61 b 0).f4)]] (by rfl) rfl rfl ar_ ?_
  with_reducible refine (dom_Dom_Size.calls ((rd_T61 b 0).f0) _ _ ((rd_T61 b 0).f1) ((rd_T61 b 0).f2) ((rd_T61 b 0).f3) ((rd_T61 b 0).f4) cd _ ?_ ?_ A6.out).mono ?_
  exact ca_ ((cb_ Y.out HB.out))
  exact bV.out
  rintro e w40 ⟨rfl, hb⟩
  refine ⟨_, rfl, ?_⟩
  replace c := a_ (bq_ c.out hb)
  replace HB := hq_ hb
  clear hb
  refine hK.out _ _ ⟨(hx_ HB o), (hx_ HB m), (hx_ HB l), (hx_ HB g), (hx_ HB d), (hx_ HB u), (hx_ HB s), (hx_ HB r), (hx_ HB q), (hx_ HB p)⟩ (fun hHeld => ?_)
  clear hK K
  refine nor_ (N := some 14) ?_
  refine onn_ 7 18 #[true, true, true, true, true, true, true, true, false, false] rfl rfl on_ (by decide) (fun K hK => ?_)
  refine goes_ Tryz.func28 kr_ rfl #[.agg #[.int .i64 ((rd_T61 b 1).f0), .slice bM ((rd_T61 b 1).f1).length c425_1, .int .i64 ((rd_T61 b 1).f2), .int .i64 ((rd_T61 b 1).f3), .int .i64 ((rd_T61 b 1).f4)]] (by rfl) rfl rfl ar_ ?_
  with_reducible refine (dom_Dom_Size.calls ((rd_T61 b 1).f0) _ _ ((rd_T61 b 1).f1) ((rd_T61 b 1).f2) ((rd_T61 b 1).f3) ((rd_T61 b 1).f4) ce _ ?_ ?_ A8.out).mono ?_
  exact ca_ ((cb_ ab.out HB.out))
  exact bW.out
  rintro e w41 ⟨rfl, hb⟩
  refine ⟨_, rfl, ?_⟩
  replace c := a_ (bq_ c.out hb)
  replace HB := hq_ hb
  clear hb
  refine hK.out _ _ ⟨(hx_ HB o), (hx_ HB m), (hx_ HB l), (hx_ HB g), (hx_ HB d), (hx_ HB u), (hx_ HB s), (hx_ HB r), (hx_ HB q), (hx_ HB p)⟩ (fun hHeld => ?_)
  clear hK K
  refine nor_ (N := some 18) ?_
  refine pn_ 8 19 ao_ ?_
  refine pn_ 9 20 ao_ ?_
  refine done_ dn_ ?_
  obtain ⟨_, _, _, _, _, _, _, _, _, _, _, _, _, _, _, _⟩ := cel8_ c.out
  try go_wp2
  replace c := a_ (blk_drew c.out)
  replace HB := a_ (below_drew1 HB.out)
  have p441 : 0 ≤ (0 : Int) := (by omega)
  have cZ : 0 < (b.length : Int) := dq_
  obtain ⟨dK, cQ, c441_1, d8, aI, aJ, aK, aL, aM, cA, cB⟩ := at_T61 aY.out 0 p441 cZ
  have bu := aM
  (try rw [t0_] at bu)
  (try rw [n05_] at bu)
  (try rw [Addr.add_zero'] at bu)
  have bv := aL
  (try rw [t0_] at bv)
  (try rw [n05_] at bv)
  (try rw [Addr.add_zero'] at bv)
  have bw := aK
  (try rw [t0_] at bw)
  (try rw [n05_] at bw)
  (try rw [Addr.add_zero'] at bw)
  have bx := aJ
  (try rw [t0_] at bx)
  (try rw [n05_] at bx)
  (try rw [Addr.add_zero'] at bx)
  have bz := aI
  (try rw [t0_] at bz)
  (try rw [n05_] at bz)
  (try rw [Addr.add_zero'] at bz)
  obtain rfl : a = dK := (by injection d8)
  have ek : (0 < b.length) = True := et_ (by omega)
  (try rw [t0_] at aI)
  (try rw [n05_] at aI)
  (try rw [Addr.add_zero'] at aI)
  (try rw [t0_] at aJ)
  (try rw [n05_] at aJ)
  (try rw [Addr.add_zero'] at aJ)
  (try rw [t0_] at aK)
  (try rw [n05_] at aK)
  (try rw [Addr.add_zero'] at aK)
  (try rw [t0_] at aL)
  (try rw [n05_] at aL)
  (try rw [Addr.add_zero'] at aL)
  (try rw [t0_] at aM)
  (try rw [n05_] at aM)
  (try rw [Addr.add_zero'] at aM)
  replace aI := hx_ HB aI
  replace aJ := hx_ HB aJ
  replace aK := hx_ HB aK
  replace aL := hx_ HB aL
  replace aM := hx_ HB aM
  have cC := a_ cB
  have dv := a_ cA
  clear cB cA
  replace p441 := et_ p441
  replace cZ := et_ cZ
  have p442 : 0 ≤ (1 : Int) := (by omega)
  have c0 : 1 < (b.length : Int) := dq_
  obtain ⟨dL, cR, c442_1, d9, aN, aO, aP, aQ, aR, cD, cE⟩ := at_T61 aY.out 1 p442 c0
  have bA := aR
  (try rw [t1_] at bA)
  (try rw [n15_] at bA)
  (try simp only [Nat.reduceMul, Nat.reduceEqDiff, Go.Addr.add, ↓reduceIte] at bA)
  have bB := aQ
  (try rw [t1_] at bB)
  (try rw [n15_] at bB)
  (try simp only [Nat.reduceMul, Nat.reduceEqDiff, Go.Addr.add, ↓reduceIte] at bB)
  have bC := aP
  (try rw [t1_] at bC)
  (try rw [n15_] at bC)
  (try simp only [Nat.reduceMul, Nat.reduceEqDiff, Go.Addr.add, ↓reduceIte] at bC)
  have bD := aO
  (try rw [t1_] at bD)
  (try rw [n15_] at bD)
  (try simp only [Nat.reduceMul, Nat.reduceEqDiff, Go.Addr.add, ↓reduceIte] at bD)
  have bE := aN
  (try rw [t1_] at bE)
  (try rw [n15_] at bE)
  (try simp only [Nat.reduceMul, Nat.reduceEqDiff, Go.Addr.add, ↓reduceIte] at bE)
  obtain rfl : a = dL := (by injection d9)
  (try simp only [t1_, Nat.reduceMul, Nat.reduceEqDiff, Go.Addr.add, ↓reduceIte] at aN)
  (try simp only [t1_, Nat.reduceMul, Nat.reduceEqDiff, Go.Addr.add, ↓reduceIte] at aO)
  (try simp only [t1_, Nat.reduceMul, Nat.reduceEqDiff, Go.Addr.add, ↓reduceIte] at aP)
  (try simp only [t1_, Nat.reduceMul, Nat.reduceEqDiff, Go.Addr.add, ↓reduceIte] at aQ)
  (try simp only [t1_, Nat.reduceMul, Nat.reduceEqDiff, Go.Addr.add, ↓reduceIte] at aR)
  have el : (1 < b.length) = True := et_ (by omega)
  (try rw [t1_] at aN)
  (try rw [n15_] at aN)
  (try rw [t1_] at aO)
  (try rw [n15_] at aO)
  (try rw [t1_] at aP)
  (try rw [n15_] at aP)
  (try rw [t1_] at aQ)
  (try rw [n15_] at aQ)
  (try rw [t1_] at aR)
  (try rw [n15_] at aR)
  replace aN := hx_ HB aN
  replace aO := hx_ HB aO
  replace aP := hx_ HB aP
  replace aQ := hx_ HB aQ
  replace aR := hx_ HB aR
  have cF := a_ cE
  have dw := a_ cD
  clear cE cD
  replace p442 := et_ p442
  replace c0 := et_ c0
  have p443 : 0 ≤ (2 : Int) := (by omega)
  have c2 : 2 < (b.length : Int) := dq_
  obtain ⟨dM, cS, c443_1, ea, aS, aT, aU, aV, aW, cG, cH⟩ := at_T61 aY.out 2 p443 c2
  have bF := aW
  (try rw [t2_] at bF)
  (try rw [n25_] at bF)
  (try simp only [Nat.reduceMul, Nat.reduceEqDiff, Go.Addr.add, ↓reduceIte] at bF)
  have bG := aV
  (try rw [t2_] at bG)
  (try rw [n25_] at bG)
  (try simp only [Nat.reduceMul, Nat.reduceEqDiff, Go.Addr.add, ↓reduceIte] at bG)
  have bH := aU
  (try rw [t2_] at bH)
  (try rw [n25_] at bH)
  (try simp only [Nat.reduceMul, Nat.reduceEqDiff, Go.Addr.add, ↓reduceIte] at bH)
  have bI := aT
  (try rw [t2_] at bI)
  (try rw [n25_] at bI)
  (try simp only [Nat.reduceMul, Nat.reduceEqDiff, Go.Addr.add, ↓reduceIte] at bI)
  have bJ := aS
  (try rw [t2_] at bJ)
  (try rw [n25_] at bJ)
  (try simp only [Nat.reduceMul, Nat.reduceEqDiff, Go.Addr.add, ↓reduceIte] at bJ)
  obtain rfl : a = dM := (by injection ea)
  (try simp only [t2_, Nat.reduceMul, Nat.reduceEqDiff, Go.Addr.add, ↓reduceIte] at aS)
  (try simp only [t2_, Nat.reduceMul, Nat.reduceEqDiff, Go.Addr.add, ↓reduceIte] at aT)
  (try simp only [t2_, Nat.reduceMul, Nat.reduceEqDiff, Go.Addr.add, ↓reduceIte] at aU)
  (try simp only [t2_, Nat.reduceMul, Nat.reduceEqDiff, Go.Addr.add, ↓reduceIte] at aV)
  (try simp only [t2_, Nat.reduceMul, Nat.reduceEqDiff, Go.Addr.add, ↓reduceIte] at aW)
  have em : (2 < b.length) = True := et_ (by omega)
  (try rw [t2_] at aS)
  (try rw [n25_] at aS)
  (try rw [t2_] at aT)
  (try rw [n25_] at aT)
  (try rw [t2_] at aU)
  (try rw [n25_] at aU)
  (try rw [t2_] at aV)
  (try rw [n25_] at aV)
  (try rw [t2_] at aW)
  (try rw [n25_] at aW)
  replace aS := hx_ HB aS
  replace aT := hx_ HB aT
  replace aU := hx_ HB aU
  replace aV := hx_ HB aV
  replace aW := hx_ HB aW
  have cI := a_ cH
  have dx := a_ cG
  clear cH cG
  replace p443 := et_ p443
  replace c2 := et_ c2
  refine start_ (n := 15) (S := fun w' => w'.cell? a = some (.int .i64 ((rd_T61 b 0).f0)) ∧ w'.cell? ⟨a.block, a.off + 1, none⟩ = some (.slice cQ ((rd_T61 b 0).f1).length c441_1) ∧ w'.cell? ⟨a.block, a.off + 2, none⟩ = some (.int .i64 ((rd_T61 b 0).f2)) ∧ w'.cell? ⟨a.block, a.off + 3, none⟩ = some (.int .i64 ((rd_T61 b 0).f3)) ∧ w'.cell? ⟨a.block, a.off + 4, none⟩ = some (.int .i64 ((rd_T61 b 0).f4)) ∧ w'.cell? ⟨a.block, a.off + 5, none⟩ = some (.int .i64 ((rd_T61 b 1).f0)) ∧ w'.cell? ⟨a.block, a.off + 5 + 1, none⟩ = some (.slice cR ((rd_T61 b 1).f1).length c442_1) ∧ w'.cell? ⟨a.block, a.off + 5 + 2, none⟩ = some (.int .i64 ((rd_T61 b 1).f2)) ∧ w'.cell? ⟨a.block, a.off + 5 + 3, none⟩ = some (.int .i64 ((rd_T61 b 1).f3)) ∧ w'.cell? ⟨a.block, a.off + 5 + 4, none⟩ = some (.int .i64 ((rd_T61 b 1).f4)) ∧ w'.cell? ⟨a.block, a.off + 10, none⟩ = some (.int .i64 ((rd_T61 b 2).f0)) ∧ w'.cell? ⟨a.block, a.off + 10 + 1, none⟩ = some (.slice cS ((rd_T61 b 2).f1).length c443_1) ∧ w'.cell? ⟨a.block, a.off + 10 + 2, none⟩ = some (.int .i64 ((rd_T61 b 2).f2)) ∧ w'.cell? ⟨a.block, a.off + 10 + 3, none⟩ = some (.int .i64 ((rd_T61 b 2).f3)) ∧ w'.cell? ⟨a.block, a.off + 10 + 4, none⟩ = some (.int .i64 ((rd_T61 b 2).f4))) (ds := []) #[false, false, false, false, false, false, false, false, false, false, false, false, false, false, false] kr_ rfl rfl ⟨(hx_ HB bz), (hx_ HB bx), (hx_ HB bw), (hx_ HB bv), (hx_ HB bu), (hx_ HB bE), (hx_ HB bD), (hx_ HB bC), (hx_ HB bB), (hx_ HB bA), (hx_ HB bJ), (hx_ HB bI), (hx_ HB bH), (hx_ HB bG), (hx_ HB bF)⟩ (fun hHeld => ?_); refine with_tabW mul_Filter.tab11 mul_Filter.bits11 (fun HT_ HW_ => ?_)
  generalize w41.drew = w43 at c HB cC cF cI aI aJ aK aL aM aN aO aP aQ aR aS aT aU aV aW hHeld ⊢
  refine pn_ 0 32 ao_ ?_
  refine pn_ 1 33 ao_ ?_
  refine pn_ 3 35 ao_ ?_
  refine pn_ 4 36 ao_ ?_
  refine pn_ 6 38 ao_ ?_
  refine pn_ 7 39 ao_ ?_
  refine pn_ 9 41 ao_ ?_
  refine tn_ 2 34 tw_ hHeld ?_
  refine tn_ 5 37 tw_ hHeld ?_
  refine tn_ 8 40 tw_ hHeld ?_
  refine onn_ 10 42 #[true, true, true, true, true, true, true, true, true, true, true, false, false, false, false] rfl rfl on_ (by decide) (fun K hK => ?_)
  refine goes_ Tryz.func33 kr_ rfl #[.agg #[.int .i64 ((rd_T61 b 0).f0), .slice cQ ((rd_T61 b 0).f1).length c441_1, .int .i64 ((rd_T61 b 0).f2), .int .i64 ((rd_T61 b 0).f3), .int .i64 ((rd_T61 b 0).f4)], .agg #[.int .i64 ((rd_T61 b 1).f0), .slice cR ((rd_T61 b 1).f1).length c442_1, .int .i64 ((rd_T61 b 1).f2), .int .i64 ((rd_T61 b 1).f3), .int .i64 ((rd_T61 b 1).f4)], .agg #[.int .i64 ((rd_T61 b 2).f0), .slice cS ((rd_T61 b 2).f1).length c443_1, .int .i64 ((rd_T61 b 2).f2), .int .i64 ((rd_T61 b 2).f3), .int .i64 ((rd_T61 b 2).f4)], .func (.func 30) #[] #[]] (by rfl) rfl rfl ar_ ?_
  with_reducible refine (pPairs.calls (.inl rfl) num_Mul.calls k ((rd_T61 b 0).f0) _ _ ((rd_T61 b 0).f1) ((rd_T61 b 0).f2) ((rd_T61 b 0).f3) ((rd_T61 b 0).f4) ((rd_T61 b 1).f0) _ _ ((rd_T61 b 1).f1) ((rd_T61 b 1).f2) ((rd_T61 b 1).f3) ((rd_T61 b 1).f4) ((rd_T61 b 2).f0) _ _ ((rd_T61 b 2).f1) ((rd_T61 b 2).f2) ((rd_T61 b 2).f3) ((rd_T61 b 2).f4) d6 d7 _ ?_ ?_ ?_ ?_ ?_ ?_ ?_ ed.out).mono ?_
  exact ca_ ((cb_ cC.out HB.out))
  exact dv.out
  exact ca_ ((cb_ cF.out HB.out))
  exact dw.out
  exact ca_ ((cb_ cI.out HB.out))
  exact dx.out
  exact ca_ ((cb_ HRtab.out HB.out))
  rintro e w44 ⟨ep, rfl, b0, hb⟩
  refine ⟨_, rfl, ?_⟩
  have dN := a_ (Kd.N_lower (nm_ (ok' := fun k_ => (w.heap.size ≤ k_) ∧ k_ ≠ bK) b0 (fun k_ hk_ => ⟨(Nat.le_trans (bz_ bel_) hk_), (Kd.freshB (bk_ c.out) k_ hk_)⟩)) (bz_ bel_))
  replace HB := hq_ hb
  clear hb b0
  refine hK.out _ _ ⟨(hx_ HB bz), (hx_ HB bx), (hx_ HB bw), (hx_ HB bv), (hx_ HB bu), (hx_ HB bE), (hx_ HB bD), (hx_ HB bC), (hx_ HB bB), (hx_ HB bA), (hx_ HB bJ), (hx_ HB bI), (hx_ HB bH), (hx_ HB bG), (hx_ HB bF)⟩ (fun hHeld => ?_)
  clear hK K
  refine nor_ (N := some 42) ?_
  refine pn_ 11 43 ao_ ?_
  refine pn_ 12 44 ao_ ?_
  refine pn_ 13 4 ao_ ?_
  refine pn_ 14 5 ao_ ?_
  refine done_ dn_ ?_
  try go_wp2
  go_ret2
  exact ⟨_, er_, by refine vN_ ?_; exact nm_ dN.out (fun _ hk => hk.1), bel_⟩
 rw [ip_ c22] at H
 have c22b0 : (J == 7) = true := beq_iff_eq.mpr c22
 have c22b1 : (J != 7) = false := bn_.mpr c22
 clear c22
 by_cases c23 : 2 < (b.length : Int)
 rotate_left
 ·
  rw [ig_ c23] at H
  exact ab_ H
 rw [ip_ c23] at H
 have c23b0 : decide (2 < (b.length : Int)) = true := dt_ c23
 have c23b1 : decide (2 < b.length) = true := dt_ (by omega)
 clear c23
 replace H := bs_.mp H
 obtain ⟨⟨d1, d2⟩, dz, H⟩ := H
 try dsimp only at H
 have ec := a_ dz
 clear dz
 simp only [Option.some.injEq, Prod.mk.injEq] at H
 obtain ⟨rfl, rfl⟩ := H
 go_enter Tryz.func10, Tryz.ntmps10
 try go_wp2_with (first | ((with_reducible refine gate_dst (N := 2) rfl ?_); refine bxe_ (N := 2) (cs := #[.int .i64 J, .slice bP M.length c0_1, .slice bQ O.length c0_2, .slice bR P.length c0_3, .slice bS Q.length c0_4, .slice bT U.length c0_5, .int .i64 aX, .slice bU V.length c0_7]) (t := 32) ?_; intro bK hg w25 hbox hb; have c := a_ (hbox); have bX := a_ (by rw [hg]; exact (bz_ bel_) : w.heap.size ≤ bK); have cJ := bX; replace HB := hq_ hb; clear hb hbox hg; obtain ⟨_, _, _, _, _, _, _, _, _, _, _, _, _, _, _, _⟩ := cel8_ c.out) | ((with_reducible refine gate_callee (f := 27) rfl ?_); refine goesL_ (some 9) rfl rfl Tryz.func27 kr_ rfl #[.agg #[.int .i64 J, .slice bP M.length c0_1, .slice bQ O.length c0_2, .slice bR P.length c0_3, .slice bS Q.length c0_4, .slice bT U.length c0_5, .int .i64 aX, .slice bU V.length c0_7], .slice A1 b.length c1, .int .i64 5, .int .i64 7] rfl ar_ ?_; (with_reducible refine (prop_Fits.calls k J _ _ M _ _ O _ _ P _ _ Q _ _ U aX _ _ V _ _ b 5 7 true _ ?_ ?_ ?_ ?_ ?_ ?_ ?_ ?_ ?_ ?_ ?_ ?_ ?_ ?_ A3.out).mono ?_); exact ca_ ((cb_ b1.out HB.out)); exact b2.out; exact ca_ ((cb_ b3.out HB.out)); exact b4.out; exact ca_ ((cb_ b5.out HB.out)); exact b6.out; exact ca_ ((cb_ b7.out HB.out)); exact b8.out; exact ca_ ((cb_ b9.out HB.out)); exact ca.out; exact ca_ ((cb_ cb.out HB.out)); exact cc.out; exact ca_ ((cb_ aY.out HB.out)); exact dj.out; rintro e w27 ⟨rfl, hb⟩; refine ⟨_, rfl, ?_⟩; replace c := a_ (bq_ c.out hb); replace HB := hq_ hb; clear hb))
 replace c := a_ (blk_drew c.out)
 replace HB := a_ (below_drew1 HB.out)
 have p423 : 0 ≤ (0 : Int) := (by omega)
 have bN : 0 < (b.length : Int) := dq_
 obtain ⟨a, bL, c423_1, cf, v, x, y, z, A, W, X⟩ := at_T61 aY.out 0 p423 bN
 have d := A
 (try rw [t0_] at d)
 (try rw [n05_] at d)
 (try rw [Addr.add_zero'] at d)
 have g := z
 (try rw [t0_] at g)
 (try rw [n05_] at g)
 (try rw [Addr.add_zero'] at g)
 have l := y
 (try rw [t0_] at l)
 (try rw [n05_] at l)
 (try rw [Addr.add_zero'] at l)
 have m := x
 (try rw [t0_] at m)
 (try rw [n05_] at m)
 (try rw [Addr.add_zero'] at m)
 have o := v
 (try rw [t0_] at o)
 (try rw [n05_] at o)
 (try rw [Addr.add_zero'] at o)
 cases cf
 have dk : (0 < b.length) = True := et_ (by omega)
 (try rw [t0_] at v)
 (try rw [n05_] at v)
 (try rw [Addr.add_zero'] at v)
 (try rw [t0_] at x)
 (try rw [n05_] at x)
 (try rw [Addr.add_zero'] at x)
 (try rw [t0_] at y)
 (try rw [n05_] at y)
 (try rw [Addr.add_zero'] at y)
 (try rw [t0_] at z)
 (try rw [n05_] at z)
 (try rw [Addr.add_zero'] at z)
 (try rw [t0_] at A)
 (try rw [n05_] at A)
 (try rw [Addr.add_zero'] at A)
 replace v := hx_ HB v
 replace x := hx_ HB x
 replace y := hx_ HB y
 replace z := hx_ HB z
 replace A := hx_ HB A
 have Y := a_ X
 have bV := a_ W
 clear X W
 replace p423 := et_ p423
 replace bN := et_ bN
 have p425 : 0 ≤ (1 : Int) := (by omega)
 have bO : 1 < (b.length : Int) := dq_
 obtain ⟨bZ, bM, c425_1, cg, B, E, F, G, I, Z, aa⟩ := at_T61 aY.out 1 p425 bO
 have p := I
 (try rw [t1_] at p)
 (try rw [n15_] at p)
 (try simp only [Nat.reduceMul, Nat.reduceEqDiff, Go.Addr.add, ↓reduceIte] at p)
 have q := G
 (try rw [t1_] at q)
 (try rw [n15_] at q)
 (try simp only [Nat.reduceMul, Nat.reduceEqDiff, Go.Addr.add, ↓reduceIte] at q)
 have r := F
 (try rw [t1_] at r)
 (try rw [n15_] at r)
 (try simp only [Nat.reduceMul, Nat.reduceEqDiff, Go.Addr.add, ↓reduceIte] at r)
 have s := E
 (try rw [t1_] at s)
 (try rw [n15_] at s)
 (try simp only [Nat.reduceMul, Nat.reduceEqDiff, Go.Addr.add, ↓reduceIte] at s)
 have u := B
 (try rw [t1_] at u)
 (try rw [n15_] at u)
 (try simp only [Nat.reduceMul, Nat.reduceEqDiff, Go.Addr.add, ↓reduceIte] at u)
 obtain rfl : a = bZ := (by injection cg)
 (try simp only [t1_, Nat.reduceMul, Nat.reduceEqDiff, Go.Addr.add, ↓reduceIte] at B)
 (try simp only [t1_, Nat.reduceMul, Nat.reduceEqDiff, Go.Addr.add, ↓reduceIte] at E)
 (try simp only [t1_, Nat.reduceMul, Nat.reduceEqDiff, Go.Addr.add, ↓reduceIte] at F)
 (try simp only [t1_, Nat.reduceMul, Nat.reduceEqDiff, Go.Addr.add, ↓reduceIte] at G)
 (try simp only [t1_, Nat.reduceMul, Nat.reduceEqDiff, Go.Addr.add, ↓reduceIte] at I)
 have dl : (1 < b.length) = True := et_ (by omega)
 (try rw [t1_] at B)
 (try rw [n15_] at B)
 (try rw [t1_] at E)
 (try rw [n15_] at E)
 (try rw [t1_] at F)
 (try rw [n15_] at F)
 (try rw [t1_] at G)
 (try rw [n15_] at G)
 (try rw [t1_] at I)
 (try rw [n15_] at I)
 replace B := hx_ HB B
 replace E := hx_ HB E
 replace F := hx_ HB F
 replace G := hx_ HB G
 replace I := hx_ HB I
 have ab := a_ aa
 have bW := a_ Z
 clear aa Z
 replace p425 := et_ p425
 replace bO := et_ bO
 refine start_ (n := 10) (S := fun w' => w'.cell? a = some (.int .i64 ((rd_T61 b 0).f0)) ∧ w'.cell? ⟨a.block, a.off + 1, none⟩ = some (.slice bL ((rd_T61 b 0).f1).length c423_1) ∧ w'.cell? ⟨a.block, a.off + 2, none⟩ = some (.int .i64 ((rd_T61 b 0).f2)) ∧ w'.cell? ⟨a.block, a.off + 3, none⟩ = some (.int .i64 ((rd_T61 b 0).f3)) ∧ w'.cell? ⟨a.block, a.off + 4, none⟩ = some (.int .i64 ((rd_T61 b 0).f4)) ∧ w'.cell? ⟨a.block, a.off + 5, none⟩ = some (.int .i64 ((rd_T61 b 1).f0)) ∧ w'.cell? ⟨a.block, a.off + 5 + 1, none⟩ = some (.slice bM ((rd_T61 b 1).f1).length c425_1) ∧ w'.cell? ⟨a.block, a.off + 5 + 2, none⟩ = some (.int .i64 ((rd_T61 b 1).f2)) ∧ w'.cell? ⟨a.block, a.off + 5 + 3, none⟩ = some (.int .i64 ((rd_T61 b 1).f3)) ∧ w'.cell? ⟨a.block, a.off + 5 + 4, none⟩ = some (.int .i64 ((rd_T61 b 1).f4))) (ds := []) #[false, false, false, false, false, false, false, false, false, false] kr_ rfl rfl ⟨(hx_ HB o), (hx_ HB m), (hx_ HB l), (hx_ HB g), (hx_ HB d), (hx_ HB u), (hx_ HB s), (hx_ HB r), (hx_ HB q), (hx_ HB p)⟩ (fun hHeld => ?_); refine with_tabW mul_Filter.tab3 mul_Filter.bits3 (fun HT_ HW_ => ?_)
 generalize w27.drew = w28 at c HB Y ab v x y z A B E F G I hHeld ⊢
 refine pn_ 0 11 ao_ ?_
 refine pn_ 1 12 ao_ ?_
 refine pn_ 4 15 ao_ ?_
 refine pn_ 5 16 ao_ ?_
 refine tn_ 2 13 tw_ hHeld ?_
 refine tn_ 6 17 tw_ hHeld ?_
 refine onn_ 3 14 #[true, true, true, true, true, true, true, false, false, false] rfl rfl on_ (by decide) (fun K hK => ?_)
 refine goes_ Tryz.func28 kr_ rfl #[.agg #[.int .i64 ((rd_T61 b 0).f0), .slice bL ((rd_T61 b 0).f1).length c423_1, .int .i64 ((rd_T61 b 0).f2), .int .i64 ((rd_T61 b 0).f3), .int .i64 ((rd_T61 b 0).f4)]] (by rfl) rfl rfl ar_ ?_
 with_reducible refine (dom_Dom_Size.calls ((rd_T61 b 0).f0) _ _ ((rd_T61 b 0).f1) ((rd_T61 b 0).f2) ((rd_T61 b 0).f3) ((rd_T61 b 0).f4) cd _ ?_ ?_ A6.out).mono ?_
 exact ca_ ((cb_ Y.out HB.out))
 exact bV.out
 rintro e w29 ⟨rfl, hb⟩
 refine ⟨_, rfl, ?_⟩
 replace c := a_ (bq_ c.out hb)
 replace HB := hq_ hb
 clear hb
 refine hK.out _ _ ⟨(hx_ HB o), (hx_ HB m), (hx_ HB l), (hx_ HB g), (hx_ HB d), (hx_ HB u), (hx_ HB s), (hx_ HB r), (hx_ HB q), (hx_ HB p)⟩ (fun hHeld => ?_)
 clear hK K
 refine nor_ (N := some 14) ?_
 refine onn_ 7 18 #[true, true, true, true, true, true, true, true, false, false] rfl rfl on_ (by decide) (fun K hK => ?_)
 refine goes_ Tryz.func28 kr_ rfl #[.agg #[.int .i64 ((rd_T61 b 1).f0), .slice bM ((rd_T61 b 1).f1).length c425_1, .int .i64 ((rd_T61 b 1).f2), .int .i64 ((rd_T61 b 1).f3), .int .i64 ((rd_T61 b 1).f4)]] (by rfl) rfl rfl ar_ ?_
 with_reducible refine (dom_Dom_Size.calls ((rd_T61 b 1).f0) _ _ ((rd_T61 b 1).f1) ((rd_T61 b 1).f2) ((rd_T61 b 1).f3) ((rd_T61 b 1).f4) ce _ ?_ ?_ A8.out).mono ?_
 exact ca_ ((cb_ ab.out HB.out))
 exact bW.out
 rintro e w30 ⟨rfl, hb⟩
 refine ⟨_, rfl, ?_⟩
 replace c := a_ (bq_ c.out hb)
 replace HB := hq_ hb
 clear hb
 refine hK.out _ _ ⟨(hx_ HB o), (hx_ HB m), (hx_ HB l), (hx_ HB g), (hx_ HB d), (hx_ HB u), (hx_ HB s), (hx_ HB r), (hx_ HB q), (hx_ HB p)⟩ (fun hHeld => ?_)
 clear hK K
 refine nor_ (N := some 18) ?_
 refine pn_ 8 19 ao_ ?_
 refine pn_ 9 20 ao_ ?_
 refine done_ dn_ ?_
 obtain ⟨_, _, _, _, _, _, _, _, _, _, _, _, _, _, _, _⟩ := cel8_ c.out
 try go_wp2
 replace c := a_ (blk_drew c.out)
 replace HB := a_ (below_drew1 HB.out)
 have p434 : 0 ≤ (0 : Int) := (by omega)
 have cW : 0 < (b.length : Int) := dq_
 obtain ⟨dG, cN, c434_1, d3, ar, au, av, aw, ax, cq, cr⟩ := at_T61 aY.out 0 p434 cW
 have be := ax
 (try rw [t0_] at be)
 (try rw [n05_] at be)
 (try rw [Addr.add_zero'] at be)
 have bf := aw
 (try rw [t0_] at bf)
 (try rw [n05_] at bf)
 (try rw [Addr.add_zero'] at bf)
 have bg := av
 (try rw [t0_] at bg)
 (try rw [n05_] at bg)
 (try rw [Addr.add_zero'] at bg)
 have bh := au
 (try rw [t0_] at bh)
 (try rw [n05_] at bh)
 (try rw [Addr.add_zero'] at bh)
 have bi := ar
 (try rw [t0_] at bi)
 (try rw [n05_] at bi)
 (try rw [Addr.add_zero'] at bi)
 obtain rfl : a = dG := (by injection d3)
 have eh : (0 < b.length) = True := et_ (by omega)
 (try rw [t0_] at ar)
 (try rw [n05_] at ar)
 (try rw [Addr.add_zero'] at ar)
 (try rw [t0_] at au)
 (try rw [n05_] at au)
 (try rw [Addr.add_zero'] at au)
 (try rw [t0_] at av)
 (try rw [n05_] at av)
 (try rw [Addr.add_zero'] at av)
 (try rw [t0_] at aw)
 (try rw [n05_] at aw)
 (try rw [Addr.add_zero'] at aw)
 (try rw [t0_] at ax)
 (try rw [n05_] at ax)
 (try rw [Addr.add_zero'] at ax)
 replace ar := hx_ HB ar
 replace au := hx_ HB au
 replace av := hx_ HB av
 replace aw := hx_ HB aw
 replace ax := hx_ HB ax
 have ct := a_ cr
 have dr := a_ cq
 clear cr cq
 replace p434 := et_ p434
 replace cW := et_ cW
 have p435 : 0 ≤ (1 : Int) := (by omega)
 have cX : 1 < (b.length : Int) := dq_
 obtain ⟨dH, cO, c435_1, d4, ay, az, aA, aB, aC, cu, cv⟩ := at_T61 aY.out 1 p435 cX
 have bj := aC
 (try rw [t1_] at bj)
 (try rw [n15_] at bj)
 (try simp only [Nat.reduceMul, Nat.reduceEqDiff, Go.Addr.add, ↓reduceIte] at bj)
 have bk := aB
 (try rw [t1_] at bk)
 (try rw [n15_] at bk)
 (try simp only [Nat.reduceMul, Nat.reduceEqDiff, Go.Addr.add, ↓reduceIte] at bk)
 have bl := aA
 (try rw [t1_] at bl)
 (try rw [n15_] at bl)
 (try simp only [Nat.reduceMul, Nat.reduceEqDiff, Go.Addr.add, ↓reduceIte] at bl)
 have bm := az
 (try rw [t1_] at bm)
 (try rw [n15_] at bm)
 (try simp only [Nat.reduceMul, Nat.reduceEqDiff, Go.Addr.add, ↓reduceIte] at bm)
 have bn := ay
 (try rw [t1_] at bn)
 (try rw [n15_] at bn)
 (try simp only [Nat.reduceMul, Nat.reduceEqDiff, Go.Addr.add, ↓reduceIte] at bn)
 obtain rfl : a = dH := (by injection d4)
 (try simp only [t1_, Nat.reduceMul, Nat.reduceEqDiff, Go.Addr.add, ↓reduceIte] at ay)
 (try simp only [t1_, Nat.reduceMul, Nat.reduceEqDiff, Go.Addr.add, ↓reduceIte] at az)
 (try simp only [t1_, Nat.reduceMul, Nat.reduceEqDiff, Go.Addr.add, ↓reduceIte] at aA)
 (try simp only [t1_, Nat.reduceMul, Nat.reduceEqDiff, Go.Addr.add, ↓reduceIte] at aB)
 (try simp only [t1_, Nat.reduceMul, Nat.reduceEqDiff, Go.Addr.add, ↓reduceIte] at aC)
 have ei : (1 < b.length) = True := et_ (by omega)
 (try rw [t1_] at ay)
 (try rw [n15_] at ay)
 (try rw [t1_] at az)
 (try rw [n15_] at az)
 (try rw [t1_] at aA)
 (try rw [n15_] at aA)
 (try rw [t1_] at aB)
 (try rw [n15_] at aB)
 (try rw [t1_] at aC)
 (try rw [n15_] at aC)
 replace ay := hx_ HB ay
 replace az := hx_ HB az
 replace aA := hx_ HB aA
 replace aB := hx_ HB aB
 replace aC := hx_ HB aC
 have cw := a_ cv
 have dt := a_ cu
 clear cv cu
 replace p435 := et_ p435
 replace cX := et_ cX
 have p436 : 0 ≤ (2 : Int) := (by omega)
 have cY : 2 < (b.length : Int) := dq_
 obtain ⟨dI, cP, c436_1, d5, aD, aE, aF, aG, aH, cx, cy⟩ := at_T61 aY.out 2 p436 cY
 have bo := aH
 (try rw [t2_] at bo)
 (try rw [n25_] at bo)
 (try simp only [Nat.reduceMul, Nat.reduceEqDiff, Go.Addr.add, ↓reduceIte] at bo)
 have bp := aG
 (try rw [t2_] at bp)
 (try rw [n25_] at bp)
 (try simp only [Nat.reduceMul, Nat.reduceEqDiff, Go.Addr.add, ↓reduceIte] at bp)
 have bq := aF
 (try rw [t2_] at bq)
 (try rw [n25_] at bq)
 (try simp only [Nat.reduceMul, Nat.reduceEqDiff, Go.Addr.add, ↓reduceIte] at bq)
 have br := aE
 (try rw [t2_] at br)
 (try rw [n25_] at br)
 (try simp only [Nat.reduceMul, Nat.reduceEqDiff, Go.Addr.add, ↓reduceIte] at br)
 have bs := aD
 (try rw [t2_] at bs)
 (try rw [n25_] at bs)
 (try simp only [Nat.reduceMul, Nat.reduceEqDiff, Go.Addr.add, ↓reduceIte] at bs)
 obtain rfl : a = dI := (by injection d5)
 (try simp only [t2_, Nat.reduceMul, Nat.reduceEqDiff, Go.Addr.add, ↓reduceIte] at aD)
 (try simp only [t2_, Nat.reduceMul, Nat.reduceEqDiff, Go.Addr.add, ↓reduceIte] at aE)
 (try simp only [t2_, Nat.reduceMul, Nat.reduceEqDiff, Go.Addr.add, ↓reduceIte] at aF)
 (try simp only [t2_, Nat.reduceMul, Nat.reduceEqDiff, Go.Addr.add, ↓reduceIte] at aG)
 (try simp only [t2_, Nat.reduceMul, Nat.reduceEqDiff, Go.Addr.add, ↓reduceIte] at aH)
 have ej : (2 < b.length) = True := et_ (by omega)
 (try rw [t2_] at aD)
 (try rw [n25_] at aD)
 (try rw [t2_] at aE)
 (try rw [n25_] at aE)
 (try rw [t2_] at aF)
 (try rw [n25_] at aF)
 (try rw [t2_] at aG)
 (try rw [n25_] at aG)
 (try rw [t2_] at aH)
 (try rw [n25_] at aH)
 replace aD := hx_ HB aD
 replace aE := hx_ HB aE
 replace aF := hx_ HB aF
 replace aG := hx_ HB aG
 replace aH := hx_ HB aH
 have cz := a_ cy
 have du := a_ cx
 clear cy cx
 replace p436 := et_ p436
 replace cY := et_ cY
 refine start_ (n := 15) (S := fun w' => w'.cell? a = some (.int .i64 ((rd_T61 b 0).f0)) ∧ w'.cell? ⟨a.block, a.off + 1, none⟩ = some (.slice cN ((rd_T61 b 0).f1).length c434_1) ∧ w'.cell? ⟨a.block, a.off + 2, none⟩ = some (.int .i64 ((rd_T61 b 0).f2)) ∧ w'.cell? ⟨a.block, a.off + 3, none⟩ = some (.int .i64 ((rd_T61 b 0).f3)) ∧ w'.cell? ⟨a.block, a.off + 4, none⟩ = some (.int .i64 ((rd_T61 b 0).f4)) ∧ w'.cell? ⟨a.block, a.off + 5, none⟩ = some (.int .i64 ((rd_T61 b 1).f0)) ∧ w'.cell? ⟨a.block, a.off + 5 + 1, none⟩ = some (.slice cO ((rd_T61 b 1).f1).length c435_1) ∧ w'.cell? ⟨a.block, a.off + 5 + 2, none⟩ = some (.int .i64 ((rd_T61 b 1).f2)) ∧ w'.cell? ⟨a.block, a.off + 5 + 3, none⟩ = some (.int .i64 ((rd_T61 b 1).f3)) ∧ w'.cell? ⟨a.block, a.off + 5 + 4, none⟩ = some (.int .i64 ((rd_T61 b 1).f4)) ∧ w'.cell? ⟨a.block, a.off + 10, none⟩ = some (.int .i64 ((rd_T61 b 2).f0)) ∧ w'.cell? ⟨a.block, a.off + 10 + 1, none⟩ = some (.slice cP ((rd_T61 b 2).f1).length c436_1) ∧ w'.cell? ⟨a.block, a.off + 10 + 2, none⟩ = some (.int .i64 ((rd_T61 b 2).f2)) ∧ w'.cell? ⟨a.block, a.off + 10 + 3, none⟩ = some (.int .i64 ((rd_T61 b 2).f3)) ∧ w'.cell? ⟨a.block, a.off + 10 + 4, none⟩ = some (.int .i64 ((rd_T61 b 2).f4))) (ds := []) #[false, false, false, false, false, false, false, false, false, false, false, false, false, false, false] kr_ rfl rfl ⟨(hx_ HB bi), (hx_ HB bh), (hx_ HB bg), (hx_ HB bf), (hx_ HB be), (hx_ HB bn), (hx_ HB bm), (hx_ HB bl), (hx_ HB bk), (hx_ HB bj), (hx_ HB bs), (hx_ HB br), (hx_ HB bq), (hx_ HB bp), (hx_ HB bo)⟩ (fun hHeld => ?_); refine with_tabW mul_Filter.tab11 mul_Filter.bits11 (fun HT_ HW_ => ?_)
 generalize w30.drew = w32 at c HB ct cw cz ar au av aw ax ay az aA aB aC aD aE aF aG aH hHeld ⊢
 refine pn_ 0 32 ao_ ?_
 refine pn_ 1 33 ao_ ?_
 refine pn_ 3 35 ao_ ?_
 refine pn_ 4 36 ao_ ?_
 refine pn_ 6 38 ao_ ?_
 refine pn_ 7 39 ao_ ?_
 refine pn_ 9 41 ao_ ?_
 refine tn_ 2 34 tw_ hHeld ?_
 refine tn_ 5 37 tw_ hHeld ?_
 refine tn_ 8 40 tw_ hHeld ?_
 refine onn_ 10 42 #[true, true, true, true, true, true, true, true, true, true, true, false, false, false, false] rfl rfl on_ (by decide) (fun K hK => ?_)
 refine goes_ Tryz.func33 kr_ rfl #[.agg #[.int .i64 ((rd_T61 b 0).f0), .slice cN ((rd_T61 b 0).f1).length c434_1, .int .i64 ((rd_T61 b 0).f2), .int .i64 ((rd_T61 b 0).f3), .int .i64 ((rd_T61 b 0).f4)], .agg #[.int .i64 ((rd_T61 b 1).f0), .slice cO ((rd_T61 b 1).f1).length c435_1, .int .i64 ((rd_T61 b 1).f2), .int .i64 ((rd_T61 b 1).f3), .int .i64 ((rd_T61 b 1).f4)], .agg #[.int .i64 ((rd_T61 b 2).f0), .slice cP ((rd_T61 b 2).f1).length c436_1, .int .i64 ((rd_T61 b 2).f2), .int .i64 ((rd_T61 b 2).f3), .int .i64 ((rd_T61 b 2).f4)], .func (.func 32) #[] #[]] (by rfl) rfl rfl ar_ ?_
 with_reducible refine (pPairs.calls (.inr (.inr rfl)) (fun _ => num_Rem.calls) k ((rd_T61 b 0).f0) _ _ ((rd_T61 b 0).f1) ((rd_T61 b 0).f2) ((rd_T61 b 0).f3) ((rd_T61 b 0).f4) ((rd_T61 b 1).f0) _ _ ((rd_T61 b 1).f1) ((rd_T61 b 1).f2) ((rd_T61 b 1).f3) ((rd_T61 b 1).f4) ((rd_T61 b 2).f0) _ _ ((rd_T61 b 2).f1) ((rd_T61 b 2).f2) ((rd_T61 b 2).f3) ((rd_T61 b 2).f4) d1 d2 _ ?_ ?_ ?_ ?_ ?_ ?_ ?_ ec.out).mono ?_
 exact ca_ ((cb_ ct.out HB.out))
 exact dr.out
 exact ca_ ((cb_ cw.out HB.out))
 exact dt.out
 exact ca_ ((cb_ cz.out HB.out))
 exact du.out
 exact ca_ ((cb_ HRtab.out HB.out))
 rintro e w33 ⟨eo, rfl, b0, hb⟩
 refine ⟨_, rfl, ?_⟩
 have dJ := a_ (Kd.N_lower (nm_ (ok' := fun k_ => (w.heap.size ≤ k_) ∧ k_ ≠ bK) b0 (fun k_ hk_ => ⟨(Nat.le_trans (bz_ bel_) hk_), (Kd.freshB (bk_ c.out) k_ hk_)⟩)) (bz_ bel_))
 replace HB := hq_ hb
 clear hb b0
 refine hK.out _ _ ⟨(hx_ HB bi), (hx_ HB bh), (hx_ HB bg), (hx_ HB bf), (hx_ HB be), (hx_ HB bn), (hx_ HB bm), (hx_ HB bl), (hx_ HB bk), (hx_ HB bj), (hx_ HB bs), (hx_ HB br), (hx_ HB bq), (hx_ HB bp), (hx_ HB bo)⟩ (fun hHeld => ?_)
 clear hK K
 refine nor_ (N := some 42) ?_
 refine pn_ 11 43 ao_ ?_
 refine pn_ 12 44 ao_ ?_
 refine pn_ 13 4 ao_ ?_
 refine pn_ 14 5 ao_ ?_
 refine done_ dn_ ?_
 try go_wp2
 go_ret2
 exact ⟨_, er_, by refine vN_ ?_; exact nm_ dJ.out (fun _ hk => hk.1), bel_⟩

end Go.Proofs.YtbhhbgoamomacaaGreatDoor.XMulRefuses
