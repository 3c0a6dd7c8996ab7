-- by xprint.py, a program of this session, over the kit's print
import Derived.Test.YtiofjnhmogeenaaGreatDoorXERex0
import Derived.Test.YtiofjnhmogeenaaGreatDoorXERex7
import Derived.Test.YtiofjnhmogeenaaGreatDoorXERex10
import Derived.Test.YtiofjnhmogeenaaGreatDoorXERex14
import Derived.Test.YtiofjnhmogeenaaGreatDoorXERex15
import Derived.Test.YtiofjnhmogeenaaGreatDoorSq
namespace Go.Proofs.YtiofjnhmogeenaaGreatDoor.XExtRefuses
open Go.RowKit Go.Proofs.YtiofjnhmogeenaaGreatDoor.Sq Go.Proofs.YtiofjnhmogeenaaGreatDoorW.PrintWords Go.Proofs.YtiofjnhmogeenaaGreatDoorW.PrintLast Go.Proofs.YtiofjnhmogeenaaGreatDoorW.PrintMore
attribute [local go_sem] max2_int min2_int max_two min_two max_three min_three max_four min_four   -- for this text's walks alone
set_option linter.unusedVariables false
set_option linter.unusedSimpArgs false

/-! ### ext_Filter: function 10 -/
def ext_Filter.f (k : Nat) (b : Int) (g : List Int) (l : List Int) (m : List Int) (n : List Int) (o : List Int) (p : Int) (q : List (List Int)) (a : List (S61)) : Option ((List (S61)) × Bool) := (prop_Fits.f k b g l m n o p q a 8 10).bind fun r => (if r = true then (if b = 8 then (if 0 < (a.length : Int) then (if 1 < (a.length : Int) then ((ext_absolute.f k ((rd_T61 a 0).f0) ((rd_T61 a 0).f1) ((rd_T61 a 0).f2) ((rd_T61 a 0).f3) ((rd_T61 a 0).f4) ((rd_T61 a 1).f0) ((rd_T61 a 1).f1) ((rd_T61 a 1).f2) ((rd_T61 a 1).f3) ((rd_T61 a 1).f4)).bind fun c => (some (c.1, c.2))) else (none)) else (none)) else (if 0 < (a.length : Int) then ((dom_Dom_Size.f ((rd_T61 a 0).f0) ((rd_T61 a 0).f1) ((rd_T61 a 0).f2) ((rd_T61 a 0).f3) ((rd_T61 a 0).f4)).bind fun s => (if 1 < (a.length : Int) then ((dom_Dom_Size.f ((rd_T61 a 1).f0) ((rd_T61 a 1).f1) ((rd_T61 a 1).f2) ((rd_T61 a 1).f3) ((rd_T61 a 1).f4)).bind fun t => (if (wrap64 (s * t)) > 4096 then (none) else (if b = 9 then (if 2 < (a.length : Int) then ((pPairs.f ext_Filter_1.f k ((rd_T61 a 0).f0) ((rd_T61 a 0).f1) ((rd_T61 a 0).f2) ((rd_T61 a 0).f3) ((rd_T61 a 0).f4) ((rd_T61 a 1).f0) ((rd_T61 a 1).f1) ((rd_T61 a 1).f2) ((rd_T61 a 1).f3) ((rd_T61 a 1).f4) ((rd_T61 a 2).f0) ((rd_T61 a 2).f1) ((rd_T61 a 2).f2) ((rd_T61 a 2).f3) ((rd_T61 a 2).f4)).bind fun d => (if d.2 = true then (some (d.1, true)) else (some (([] : List (S61)), false)))) else (none)) else (if 2 < (a.length : Int) then ((pPairs.f ext_Filter_2.f k ((rd_T61 a 0).f0) ((rd_T61 a 0).f1) ((rd_T61 a 0).f2) ((rd_T61 a 0).f3) ((rd_T61 a 0).f4) ((rd_T61 a 1).f0) ((rd_T61 a 1).f1) ((rd_T61 a 1).f2) ((rd_T61 a 1).f3) ((rd_T61 a 1).f4) ((rd_T61 a 2).f0) ((rd_T61 a 2).f1) ((rd_T61 a 2).f2) ((rd_T61 a 2).f3) ((rd_T61 a 2).f4)).bind fun e => (if e.2 = true then (some (e.1, true)) else (some (([] : List (S61)), false)))) else (none))))) else (none))) else (none))) else (some (([] : List (S61)), false)))
theorem ext_Filter.mono : ∀ a b c d e g l m n k, LeO (ext_Filter.f k a b c d e g l m n) (ext_Filter.f (k + 1) a b c d e g l m n) := by
 intro a b c d e g l m n k
 unfold ext_Filter.f
 have m0 := @ext_absolute.mono
 have m1 := @prop_Fits.mono
 have m2 := @pPairs.mono ext_Filter_1.f
 have m3 := @pPairs.mono ext_Filter_2.f
 exact leo_
def ext_Filter.T4 : Bool × List (List Nat × List Nat) := (true, [([], []), ([0], [0]), ([1], [1]), ([], []), ([3], [3]), ([4], [4]), ([2, 5], [2, 5]), ([6], [6]), ([6], [6]), ([7, 6, 0, 1, 2, 3, 4, 5, 6, 7, 8], [7]), ([8, 9, 0, 1, 2, 3, 4, 5, 6, 7, 8, 9], [8])])
def ext_Filter.B4 : List Nat := [0, 1, 3, 0, 8, 24, 63, 127, 127, 511, 1023]
theorem ext_Filter.tab4 : rtab .any (opsOf Tryz.f10 4) = ext_Filter.T4 := by kernel_rfl
theorem ext_Filter.bits4 : waitsOk ext_Filter.T4.2 ext_Filter.B4 = true := by kernel_rfl
def ext_Filter.T5 : Bool × List (List Nat × List Nat) := (true, [([], []), ([0], [0]), ([1], [1]), ([2], [2]), ([], []), ([4], [4]), ([5], [5]), ([6, 3], [6]), ([3, 7], [3, 7]), ([8], [8]), ([9, 7, 0, 1, 2, 3, 4, 5, 6, 7, 8, 9], [9])])
def ext_Filter.B5 : List Nat := [0, 1, 3, 7, 0, 16, 48, 127, 255, 511, 1023]
theorem ext_Filter.tab5 : rtab .any (opsOf Tryz.f10 5) = ext_Filter.T5 := by kernel_rfl
theorem ext_Filter.bits5 : waitsOk ext_Filter.T5.2 ext_Filter.B5 = true := by kernel_rfl
def ext_Filter.T8 : Bool × List (List Nat × List Nat) := (true, [([], []), ([0], [0]), ([1], [1]), ([], []), ([3], [3]), ([4], [4]), ([], []), ([6], [6]), ([7], [7]), ([2, 5, 8], [2, 5, 8]), ([9], [9]), ([10], [10]), ([10], [10]), ([11, 9, 0, 1, 2, 3, 4, 5, 6, 7, 8, 9, 10, 11], [11]), ([12, 13, 0, 1, 2, 3, 4, 5, 6, 7, 8, 9, 10, 11, 12, 13], [12])])
def ext_Filter.B8 : List Nat := [0, 1, 3, 0, 8, 24, 0, 64, 192, 511, 1023, 2047, 2047, 4095, 16383]
theorem ext_Filter.tab8 : rtab .any (opsOf Tryz.f10 8) = ext_Filter.T8 := by kernel_rfl
theorem ext_Filter.bits8 : waitsOk ext_Filter.T8.2 ext_Filter.B8 = true := by kernel_rfl
def ext_Filter.T14 : Bool × List (List Nat × List Nat) := (true, [([], []), ([0], [0]), ([1], [1]), ([], []), ([3], [3]), ([4], [4]), ([], []), ([6], [6]), ([7], [7]), ([2, 5, 8], [2, 5, 8]), ([9], [9]), ([10], [10]), ([10], [10]), ([11, 9, 0, 1, 2, 3, 4, 5, 6, 7, 8, 9, 10, 11], [11]), ([12, 13, 0, 1, 2, 3, 4, 5, 6, 7, 8, 9, 10, 11, 12, 13], [12])])
def ext_Filter.B14 : List Nat := [0, 1, 3, 0, 8, 24, 0, 64, 192, 511, 1023, 2047, 2047, 4095, 16383]
theorem ext_Filter.tab14 : rtab .any (opsOf Tryz.f10 14) = ext_Filter.T14 := by kernel_rfl
theorem ext_Filter.bits14 : waitsOk ext_Filter.T14.2 ext_Filter.B14 = true := by kernel_rfl
set_option maxHeartbeats 8000000 in
set_option maxRecDepth 100000 in
theorem ext_Filter.calls (k : Nat) (av : Int) (bv : Option Addr) (c0_1 : Nat) (a1 : List Int) (bw : Option Addr) (c0_2 : Nat) (a2 : List Int) (bx : Option Addr) (c0_3 : Nat) (a3 : List Int) (bz : Option Addr) (c0_4 : Nat) (a4 : List Int) (bA : Option Addr) (c0_5 : Nat) (a5 : List Int) (a8 : Int) (bB : Option Addr) (c0_7 : Nat) (a6 : List (List Int)) (A1 : Option Addr) (c1 : Nat) (b : List (S61)) (r1 : List (S61)) (r2 : Bool) (w : World) (df : Kd.C (Kd.int .i64) w bv a1.length a1) (dg : a1.length ≤ c0_1) (dh : Kd.C (Kd.int .i64) w bw a2.length a2) (di : a2.length ≤ c0_2) (dj : Kd.C (Kd.int .i64) w bx a3.length a3) (dk : a3.length ≤ c0_3) (dl : Kd.C (Kd.int .i64) w bz a4.length a4) (dm : a4.length ≤ c0_4) (dn : Kd.C (Kd.int .i64) w bA a5.length a5) (dp : a5.length ≤ c0_5) (dq : Kd.C (Kd.slice 3 (Kd.int .i64)) w bB a6.length a6) (dr : a6.length ≤ c0_7) (dO : Kd.C k61 w A1 b.length b) (dP : b.length ≤ c1) (hrtab : Kd.C (Kd.int .u8) w (some ⟨0, 0, none⟩) tabL.length tabL) (h : ext_Filter.f k av a1 a2 a3 a4 a5 a8 a6 b = some (r1, r2)) :
  Calls Tryz.prog 10 #[.agg #[.int .i64 av, .slice bv a1.length c0_1, .slice bw a2.length c0_2, .slice bx a3.length c0_3, .slice bz a4.length c0_4, .slice bA a5.length c0_5, .int .i64 a8, .slice bB a6.length c0_7], .slice A1 b.length c1] w fun e w' => ∃ dQ : Value, e = .returned (.tuple #[dQ, .bool r2]) ∧ Kd.N k61 61 w' w.heap.size (fun k_ => (w.heap.size ≤ k_)) dQ r1 ∧ Below w.heap.size w w' := by
 have hu32 := Tryz.underlying32
 have hu61 := Tryz.underlying61
 have cf := a_ df
 have cg := a_ dg
 clear df dg
 have ch := a_ dh
 have ci := a_ di
 clear dh di
 have cj := a_ dj
 have ck := a_ dk
 clear dj dk
 have cl := a_ dl
 have cm := a_ dm
 clear dl dm
 have cn := a_ dn
 have co := a_ dp
 clear dn dp
 have cp := a_ dq
 have cq := a_ dr
 clear dq dr
 have a7 := a_ dO
 have cK := a_ dP
 clear dO dP
 have HRtab := a_ hrtab
 clear hrtab
 have HB := a_ (Below.refl w.heap.size w)
 unfold ext_Filter.f at h
 have H := h
 clear h
 replace H := bo_ H
 obtain ⟨dU, A3, H⟩ := H
 try dsimp only at H
 by_cases c4 : dU = true
 rotate_left
 ·
  replace c4 := bf_.mpr c4
  subst c4
  have H1 : (some (([] : List (S61)), false)) = some (r1, r2) := by rw [ig_ (show ¬ (false = true) by decide)] at H; exact H
  clear H
  have H := H1
  clear H1
  simp only [Option.some.injEq, Prod.mk.injEq] at H
  obtain ⟨rfl, rfl⟩ := H
  go_enter Tryz.func10, Tryz.ntmps10
  go_wp2_with (first | ((with_reducible refine gate_dst (N := 2) rfl ?_); refine bxe_ (N := 2) (cs := #[.int .i64 av, .slice bv a1.length c0_1, .slice bw a2.length c0_2, .slice bx a3.length c0_3, .slice bz a4.length c0_4, .slice bA a5.length c0_5, .int .i64 a8, .slice bB a6.length c0_7]) (t := 32) ?_; intro bf hg w67 hbox hb; have c := a_ (hbox); have bC := a_ (by rw [hg]; exact (bz_ bel_) : w.heap.size ≤ bf); have cB := bC; replace HB := hq_ hb; clear hb hbox hg; obtain ⟨_, _, _, _, _, _, _, _, _, _, _, _, _, _, _, _⟩ := cel8_ c.out) | ((with_reducible refine gate_callee (f := 27) rfl ?_); refine goesL_ (some 11) rfl rfl Tryz.func27 kr_ rfl #[.agg #[.int .i64 av, .slice bv a1.length c0_1, .slice bw a2.length c0_2, .slice bx a3.length c0_3, .slice bz a4.length c0_4, .slice bA a5.length c0_5, .int .i64 a8, .slice bB a6.length c0_7], .slice A1 b.length c1, .int .i64 8, .int .i64 10] rfl ar_ ?_; (with_reducible refine (prop_Fits.calls k av _ _ a1 _ _ a2 _ _ a3 _ _ a4 _ _ a5 a8 _ _ a6 _ _ b 8 10 false _ ?_ ?_ ?_ ?_ ?_ ?_ ?_ ?_ ?_ ?_ ?_ ?_ ?_ ?_ A3.out).mono ?_); exact ca_ ((cb_ cf.out HB.out)); exact cg.out; exact ca_ ((cb_ ch.out HB.out)); exact ci.out; exact ca_ ((cb_ cj.out HB.out)); exact ck.out; exact ca_ ((cb_ cl.out HB.out)); exact cm.out; exact ca_ ((cb_ cn.out HB.out)); exact co.out; exact ca_ ((cb_ cp.out HB.out)); exact cq.out; exact ca_ ((cb_ a7.out HB.out)); exact cK.out; rintro e w69 ⟨rfl, hb⟩; refine ⟨_, rfl, ?_⟩; replace HB := hq_ hb; clear hb))
  go_ret2
  exact ⟨_, er_, by first | exact Kd.S_nil _ _ _ _ _ | exact Kd.N_nil _ _ _ _ _ | exact Kd.V_nil _ _ _ _ _ | exact Kd.Q_nil _ _ _ _ _ | exact Kd.R_nil _ _ _ _ _, bel_⟩
 subst c4
 rw [ip_ rfl] at H
 by_cases c5 : av = 8
 ·
  rw [ip_ c5] at H
  have c5b0 : (av == 8) = true := beq_iff_eq.mpr c5
  have c5b1 : (av != 8) = false := bn_.mpr c5
  clear c5
  by_cases c6 : 0 < (b.length : Int)
  rotate_left
  ·
   rw [ig_ c6] at H
   exact ab_ H
  rw [ip_ c6] at H
  have c6b0 : decide (0 < (b.length : Int)) = true := dt_ c6
  have c6b1 : decide (0 < b.length) = true := dt_ (by omega)
  clear c6
  by_cases c7 : 1 < (b.length : Int)
  rotate_left
  ·
   rw [ig_ c7] at H
   exact ab_ H
  rw [ip_ c7] at H
  have c7b0 : decide (1 < (b.length : Int)) = true := dt_ c7
  have c7b1 : decide (1 < b.length) = true := dt_ (by omega)
  clear c7
  replace H := bs_.mp H
  obtain ⟨⟨dV, dW⟩, dR, H⟩ := H
  try dsimp only at H
  have A8 := a_ dR
  clear dR
  simp only [Option.some.injEq, Prod.mk.injEq] at H
  obtain ⟨rfl, rfl⟩ := H
  go_enter Tryz.func10, Tryz.ntmps10
  try go_wp2_with (first | ((with_reducible refine gate_dst (N := 2) rfl ?_); refine bxe_ (N := 2) (cs := #[.int .i64 av, .slice bv a1.length c0_1, .slice bw a2.length c0_2, .slice bx a3.length c0_3, .slice bz a4.length c0_4, .slice bA a5.length c0_5, .int .i64 a8, .slice bB a6.length c0_7]) (t := 32) ?_; intro bf hg w9 hbox hb; have c := a_ (hbox); have bC := a_ (by rw [hg]; exact (bz_ bel_) : w.heap.size ≤ bf); have cB := bC; replace HB := hq_ hb; clear hb hbox hg; obtain ⟨_, _, _, _, _, _, _, _, _, _, _, _, _, _, _, _⟩ := cel8_ c.out) | ((with_reducible refine gate_callee (f := 27) rfl ?_); refine goesL_ (some 11) rfl rfl Tryz.func27 kr_ rfl #[.agg #[.int .i64 av, .slice bv a1.length c0_1, .slice bw a2.length c0_2, .slice bx a3.length c0_3, .slice bz a4.length c0_4, .slice bA a5.length c0_5, .int .i64 a8, .slice bB a6.length c0_7], .slice A1 b.length c1, .int .i64 8, .int .i64 10] rfl ar_ ?_; (with_reducible refine (prop_Fits.calls k av _ _ a1 _ _ a2 _ _ a3 _ _ a4 _ _ a5 a8 _ _ a6 _ _ b 8 10 true _ ?_ ?_ ?_ ?_ ?_ ?_ ?_ ?_ ?_ ?_ ?_ ?_ ?_ ?_ A3.out).mono ?_); exact ca_ ((cb_ cf.out HB.out)); exact cg.out; exact ca_ ((cb_ ch.out HB.out)); exact ci.out; exact ca_ ((cb_ cj.out HB.out)); exact ck.out; exact ca_ ((cb_ cl.out HB.out)); exact cm.out; exact ca_ ((cb_ cn.out HB.out)); exact co.out; exact ca_ ((cb_ cp.out HB.out)); exact cq.out; exact ca_ ((cb_ a7.out HB.out)); exact cK.out; rintro e w11 ⟨rfl, hb⟩; refine ⟨_, rfl, ?_⟩; replace c := a_ (bq_ c.out hb); replace HB := hq_ hb; clear hb; obtain ⟨_, _, _, _, _, _, _, _, _, _, _, _, _, _, _, _⟩ := cel8_ c.out))
  replace c := a_ (blk_drew c.out)
  replace HB := a_ (below_drew1 HB.out)
  have p439 : 0 ≤ (0 : Int) := (by omega)
  have c3 : 0 < (b.length : Int) := dq_
  obtain ⟨a0, c0, c439_1, dX, bk, bl, bm, bn, bo, cL, cM⟩ := at_T61 a7.out 0 p439 c3
  have bD := bo
  (try rw [t0_] at bD)
  (try rw [n05_] at bD)
  (try rw [Addr.add_zero'] at bD)
  have bE := bn
  (try rw [t0_] at bE)
  (try rw [n05_] at bE)
  (try rw [Addr.add_zero'] at bE)
  have bF := bm
  (try rw [t0_] at bF)
  (try rw [n05_] at bF)
  (try rw [Addr.add_zero'] at bF)
  have bG := bl
  (try rw [t0_] at bG)
  (try rw [n05_] at bG)
  (try rw [Addr.add_zero'] at bG)
  have bH := bk
  (try rw [t0_] at bH)
  (try rw [n05_] at bH)
  (try rw [Addr.add_zero'] at bH)
  cases dX
  have d3 : (0 < b.length) = True := et_ (by omega)
  (try rw [t0_] at bk)
  (try rw [n05_] at bk)
  (try rw [Addr.add_zero'] at bk)
  (try rw [t0_] at bl)
  (try rw [n05_] at bl)
  (try rw [Addr.add_zero'] at bl)
  (try rw [t0_] at bm)
  (try rw [n05_] at bm)
  (try rw [Addr.add_zero'] at bm)
  (try rw [t0_] at bn)
  (try rw [n05_] at bn)
  (try rw [Addr.add_zero'] at bn)
  (try rw [t0_] at bo)
  (try rw [n05_] at bo)
  (try rw [Addr.add_zero'] at bo)
  replace bk := hx_ HB bk
  replace bl := hx_ HB bl
  replace bm := hx_ HB bm
  replace bn := hx_ HB bn
  replace bo := hx_ HB bo
  have cN := a_ cM
  have dw := a_ cL
  clear cM cL
  replace p439 := et_ p439
  replace c3 := et_ c3
  have p440 : 0 ≤ (1 : Int) := (by omega)
  have c8 : 1 < (b.length : Int) := dq_
  obtain ⟨dE, c2, c440_1, dY, bp, bq, br, bs, bu, cO, cP⟩ := at_T61 a7.out 1 p440 c8
  have bI := bu
  (try rw [t1_] at bI)
  (try rw [n15_] at bI)
  (try simp only [Nat.reduceMul, Nat.reduceEqDiff, Go.Addr.add, ↓reduceIte] at bI)
  have bJ := bs
  (try rw [t1_] at bJ)
  (try rw [n15_] at bJ)
  (try simp only [Nat.reduceMul, Nat.reduceEqDiff, Go.Addr.add, ↓reduceIte] at bJ)
  have bK := br
  (try rw [t1_] at bK)
  (try rw [n15_] at bK)
  (try simp only [Nat.reduceMul, Nat.reduceEqDiff, Go.Addr.add, ↓reduceIte] at bK)
  have bL := bq
  (try rw [t1_] at bL)
  (try rw [n15_] at bL)
  (try simp only [Nat.reduceMul, Nat.reduceEqDiff, Go.Addr.add, ↓reduceIte] at bL)
  have bM := bp
  (try rw [t1_] at bM)
  (try rw [n15_] at bM)
  (try simp only [Nat.reduceMul, Nat.reduceEqDiff, Go.Addr.add, ↓reduceIte] at bM)
  obtain rfl : a0 = dE := (by injection dY)
  (try simp only [t1_, Nat.reduceMul, Nat.reduceEqDiff, Go.Addr.add, ↓reduceIte] at bp)
  (try simp only [t1_, Nat.reduceMul, Nat.reduceEqDiff, Go.Addr.add, ↓reduceIte] at bq)
  (try simp only [t1_, Nat.reduceMul, Nat.reduceEqDiff, Go.Addr.add, ↓reduceIte] at br)
  (try simp only [t1_, Nat.reduceMul, Nat.reduceEqDiff, Go.Addr.add, ↓reduceIte] at bs)
  (try simp only [t1_, Nat.reduceMul, Nat.reduceEqDiff, Go.Addr.add, ↓reduceIte] at bu)
  have d4 : (1 < b.length) = True := et_ (by omega)
  (try rw [t1_] at bp)
  (try rw [n15_] at bp)
  (try rw [t1_] at bq)
  (try rw [n15_] at bq)
  (try rw [t1_] at br)
  (try rw [n15_] at br)
  (try rw [t1_] at bs)
  (try rw [n15_] at bs)
  (try rw [t1_] at bu)
  (try rw [n15_] at bu)
  replace bp := hx_ HB bp
  replace bq := hx_ HB bq
  replace br := hx_ HB br
  replace bs := hx_ HB bs
  replace bu := hx_ HB bu
  have cQ := a_ cP
  have dx := a_ cO
  clear cP cO
  replace p440 := et_ p440
  replace c8 := et_ c8
  refine start_ (n := 11) (S := fun w' => w'.cell? a0 = some (.int .i64 ((rd_T61 b 0).f0)) ∧ w'.cell? ⟨a0.block, a0.off + 1, none⟩ = some (.slice c0 ((rd_T61 b 0).f1).length c439_1) ∧ w'.cell? ⟨a0.block, a0.off + 2, none⟩ = some (.int .i64 ((rd_T61 b 0).f2)) ∧ w'.cell? ⟨a0.block, a0.off + 3, none⟩ = some (.int .i64 ((rd_T61 b 0).f3)) ∧ w'.cell? ⟨a0.block, a0.off + 4, none⟩ = some (.int .i64 ((rd_T61 b 0).f4)) ∧ w'.cell? ⟨a0.block, a0.off + 5, none⟩ = some (.int .i64 ((rd_T61 b 1).f0)) ∧ w'.cell? ⟨a0.block, a0.off + 5 + 1, none⟩ = some (.slice c2 ((rd_T61 b 1).f1).length c440_1) ∧ w'.cell? ⟨a0.block, a0.off + 5 + 2, none⟩ = some (.int .i64 ((rd_T61 b 1).f2)) ∧ w'.cell? ⟨a0.block, a0.off + 5 + 3, none⟩ = some (.int .i64 ((rd_T61 b 1).f3)) ∧ w'.cell? ⟨a0.block, a0.off + 5 + 4, none⟩ = some (.int .i64 ((rd_T61 b 1).f4))) (ds := []) #[false, false, false, false, false, false, false, false, false, false, false] kr_ rfl rfl ⟨(hx_ HB bH), (hx_ HB bG), (hx_ HB bF), (hx_ HB bE), (hx_ HB bD), (hx_ HB bM), (hx_ HB bL), (hx_ HB bK), (hx_ HB bJ), (hx_ HB bI)⟩ (fun hHeld => ?_); refine with_tabW ext_Filter.tab4 ext_Filter.bits4 (fun HT_ HW_ => ?_)
  generalize w11.drew = w13 at c HB cN cQ bk bl bm bn bo bp bq br bs bu hHeld ⊢
  refine pn_ 0 16 ao_ ?_
  refine pn_ 1 17 ao_ ?_
  refine pn_ 3 19 ao_ ?_
  refine pn_ 4 20 ao_ ?_
  refine tn_ 2 18 tw_ hHeld ?_
  refine tn_ 5 21 tw_ hHeld ?_
  refine onn_ 6 22 #[true, true, true, true, true, true, true, false, false, false, false] rfl rfl on_ (by decide) (fun K hK => ?_)
  refine goes_ Tryz.func28 kr_ rfl #[.agg #[.int .i64 ((rd_T61 b 0).f0), .slice c0 ((rd_T61 b 0).f1).length c439_1, .int .i64 ((rd_T61 b 0).f2), .int .i64 ((rd_T61 b 0).f3), .int .i64 ((rd_T61 b 0).f4)], .agg #[.int .i64 ((rd_T61 b 1).f0), .slice c2 ((rd_T61 b 1).f1).length c440_1, .int .i64 ((rd_T61 b 1).f2), .int .i64 ((rd_T61 b 1).f3), .int .i64 ((rd_T61 b 1).f4)]] (by rfl) rfl rfl ar_ ?_
  with_reducible refine (ext_absolute.calls k ((rd_T61 b 0).f0) _ _ ((rd_T61 b 0).f1) ((rd_T61 b 0).f2) ((rd_T61 b 0).f3) ((rd_T61 b 0).f4) ((rd_T61 b 1).f0) _ _ ((rd_T61 b 1).f1) ((rd_T61 b 1).f2) ((rd_T61 b 1).f3) ((rd_T61 b 1).f4) dV dW _ ?_ ?_ ?_ ?_ ?_ A8.out).mono ?_
  exact ca_ ((cb_ cN.out HB.out))
  exact dw.out
  exact ca_ ((cb_ cQ.out HB.out))
  exact dx.out
  exact ca_ ((cb_ HRtab.out HB.out))
  rintro e w14 ⟨d6, rfl, b8, hb⟩
  refine ⟨_, rfl, ?_⟩
  have dF := a_ (Kd.N_lower (nm_ (ok' := fun k_ => (w.heap.size ≤ k_) ∧ k_ ≠ bf) b8 (fun k_ hk_ => ⟨(Nat.le_trans (bz_ bel_) hk_), (Kd.freshB (bk_ c.out) k_ hk_)⟩)) (bz_ bel_))
  replace HB := hq_ hb
  clear hb b8
  refine hK.out _ _ ⟨(hx_ HB bH), (hx_ HB bG), (hx_ HB bF), (hx_ HB bE), (hx_ HB bD), (hx_ HB bM), (hx_ HB bL), (hx_ HB bK), (hx_ HB bJ), (hx_ HB bI)⟩ (fun hHeld => ?_)
  clear hK K
  refine nor_ (N := some 22) ?_
  refine pn_ 7 23 ao_ ?_
  refine pn_ 8 24 ao_ ?_
  refine pn_ 9 4 ao_ ?_
  refine pn_ 10 5 ao_ ?_
  refine done_ dn_ ?_
  try go_wp2
  go_ret2
  exact ⟨_, er_, by refine vN_ ?_; exact nm_ dF.out (fun _ hk => hk.1), bel_⟩
 rw [ig_ c5] at H
 have c5b0 : (av == 8) = false := be_.mpr c5
 have c5b1 : (av != 8) = true := ni_.mpr c5
 by_cases c15 : 0 < (b.length : Int)
 rotate_left
 ·
  rw [ig_ c15] at H
  exact ab_ H
 rw [ip_ c15] at H
 have c15b0 : decide (0 < (b.length : Int)) = true := dt_ c15
 have c15b1 : decide (0 < b.length) = true := dt_ (by omega)
 clear c15
 replace H := bo_ H
 obtain ⟨cC, dt, H⟩ := H
 try dsimp only at H
 by_cases c17 : 1 < (b.length : Int)
 rotate_left
 ·
  rw [ig_ c17] at H
  exact ab_ H
 rw [ip_ c17] at H
 have c17b0 : decide (1 < (b.length : Int)) = true := dt_ c17
 have c17b1 : decide (1 < b.length) = true := dt_ (by omega)
 clear c17
 replace H := bo_ H
 obtain ⟨cD, du, H⟩ := H
 try dsimp only at H
 by_cases c19 : (wrap64 (cC * cD)) > 4096
 ·
  rw [ip_ c19] at H
  exact ab_ H
 rw [ig_ c19] at H
 have c19b0 : decide (4096 < (wrap64 (cC * cD))) = false := df_ c19
 clear c19
 by_cases c20 : av = 9
 ·
  rw [ip_ c20] at H
  have c20b0 : (av == 9) = true := beq_iff_eq.mpr c20
  have c20b1 : (av != 9) = false := bn_.mpr c20
  clear c20
  by_cases c21 : 2 < (b.length : Int)
  rotate_left
  ·
   rw [ig_ c21] at H
   exact ab_ H
  rw [ip_ c21] at H
  have c21b0 : decide (2 < (b.length : Int)) = true := dt_ c21
  have c21b1 : decide (2 < b.length) = true := dt_ (by omega)
  clear c21
  replace H := bs_.mp H
  obtain ⟨⟨dA, dZ⟩, dB, H⟩ := H
  try dsimp only at H
  have dS := a_ dB
  clear dB
  by_cases c23 : dZ = true
  ·
   subst c23
   rw [ip_ rfl] at H
   simp only [Option.some.injEq, Prod.mk.injEq] at H
   obtain ⟨rfl, rfl⟩ := H
   go_enter Tryz.func10, Tryz.ntmps10
   try go_wp2_with (first | ((with_reducible refine gate_dst (N := 2) rfl ?_); refine bxe_ (N := 2) (cs := #[.int .i64 av, .slice bv a1.length c0_1, .slice bw a2.length c0_2, .slice bx a3.length c0_3, .slice bz a4.length c0_4, .slice bA a5.length c0_5, .int .i64 a8, .slice bB a6.length c0_7]) (t := 32) ?_; intro bf hg w24 hbox hb; have c := a_ (hbox); have bC := a_ (by rw [hg]; exact (bz_ bel_) : w.heap.size ≤ bf); have cB := bC; replace HB := hq_ hb; clear hb hbox hg; obtain ⟨_, _, _, _, _, _, _, _, _, _, _, _, _, _, _, _⟩ := cel8_ c.out) | ((with_reducible refine gate_callee (f := 27) rfl ?_); refine goesL_ (some 11) rfl rfl Tryz.func27 kr_ rfl #[.agg #[.int .i64 av, .slice bv a1.length c0_1, .slice bw a2.length c0_2, .slice bx a3.length c0_3, .slice bz a4.length c0_4, .slice bA a5.length c0_5, .int .i64 a8, .slice bB a6.length c0_7], .slice A1 b.length c1, .int .i64 8, .int .i64 10] rfl ar_ ?_; (with_reducible refine (prop_Fits.calls k av _ _ a1 _ _ a2 _ _ a3 _ _ a4 _ _ a5 a8 _ _ a6 _ _ b 8 10 true _ ?_ ?_ ?_ ?_ ?_ ?_ ?_ ?_ ?_ ?_ ?_ ?_ ?_ ?_ A3.out).mono ?_); exact ca_ ((cb_ cf.out HB.out)); exact cg.out; exact ca_ ((cb_ ch.out HB.out)); exact ci.out; exact ca_ ((cb_ cj.out HB.out)); exact ck.out; exact ca_ ((cb_ cl.out HB.out)); exact cm.out; exact ca_ ((cb_ cn.out HB.out)); exact co.out; exact ca_ ((cb_ cp.out HB.out)); exact cq.out; exact ca_ ((cb_ a7.out HB.out)); exact cK.out; rintro e w26 ⟨rfl, hb⟩; refine ⟨_, rfl, ?_⟩; replace c := a_ (bq_ c.out hb); replace HB := hq_ hb; clear hb; obtain ⟨_, _, _, _, _, _, _, _, _, _, _, _, _, _, _, _⟩ := cel8_ c.out))
   replace c := a_ (blk_drew c.out)
   replace HB := a_ (below_drew1 HB.out)
   have p445 : 0 ≤ (0 : Int) := (by omega)
   have bi : 0 < (b.length : Int) := dq_
   obtain ⟨a, bg, c445_1, ct, v, x, y, z, A, a9, ba⟩ := at_T61 a7.out 0 p445 bi
   have d := A
   (try rw [t0_] at d)
   (try rw [n05_] at d)
   (try rw [Addr.add_zero'] at d)
   have g := z
   (try rw [t0_] at g)
   (try rw [n05_] at g)
   (try rw [Addr.add_zero'] at g)
   have l := y
   (try rw [t0_] at l)
   (try rw [n05_] at l)
   (try rw [Addr.add_zero'] at l)
   have m := x
   (try rw [t0_] at m)
   (try rw [n05_] at m)
   (try rw [Addr.add_zero'] at m)
   have o := v
   (try rw [t0_] at o)
   (try rw [n05_] at o)
   (try rw [Addr.add_zero'] at o)
   cases ct
   have cR : (0 < b.length) = True := et_ (by omega)
   (try rw [t0_] at v)
   (try rw [n05_] at v)
   (try rw [Addr.add_zero'] at v)
   (try rw [t0_] at x)
   (try rw [n05_] at x)
   (try rw [Addr.add_zero'] at x)
   (try rw [t0_] at y)
   (try rw [n05_] at y)
   (try rw [Addr.add_zero'] at y)
   (try rw [t0_] at z)
   (try rw [n05_] at z)
   (try rw [Addr.add_zero'] at z)
   (try rw [t0_] at A)
   (try rw [n05_] at A)
   (try rw [Addr.add_zero'] at A)
   replace v := hx_ HB v
   replace x := hx_ HB x
   replace y := hx_ HB y
   replace z := hx_ HB z
   replace A := hx_ HB A
   have bb := a_ ba
   have bN := a_ a9
   clear ba a9
   replace p445 := et_ p445
   replace bi := et_ bi
   have p447 : 0 ≤ (1 : Int) := (by omega)
   have bj : 1 < (b.length : Int) := dq_
   obtain ⟨b7, bh, c447_1, cu, B, E, F, G, I, bc, bd⟩ := at_T61 a7.out 1 p447 bj
   have p := I
   (try rw [t1_] at p)
   (try rw [n15_] at p)
   (try simp only [Nat.reduceMul, Nat.reduceEqDiff, Go.Addr.add, ↓reduceIte] at p)
   have q := G
   (try rw [t1_] at q)
   (try rw [n15_] at q)
   (try simp only [Nat.reduceMul, Nat.reduceEqDiff, Go.Addr.add, ↓reduceIte] at q)
   have r := F
   (try rw [t1_] at r)
   (try rw [n15_] at r)
   (try simp only [Nat.reduceMul, Nat.reduceEqDiff, Go.Addr.add, ↓reduceIte] at r)
   have s := E
   (try rw [t1_] at s)
   (try rw [n15_] at s)
   (try simp only [Nat.reduceMul, Nat.reduceEqDiff, Go.Addr.add, ↓reduceIte] at s)
   have u := B
   (try rw [t1_] at u)
   (try rw [n15_] at u)
   (try simp only [Nat.reduceMul, Nat.reduceEqDiff, Go.Addr.add, ↓reduceIte] at u)
   obtain rfl : a = b7 := (by injection cu)
   (try simp only [t1_, Nat.reduceMul, Nat.reduceEqDiff, Go.Addr.add, ↓reduceIte] at B)
   (try simp only [t1_, Nat.reduceMul, Nat.reduceEqDiff, Go.Addr.add, ↓reduceIte] at E)
   (try simp only [t1_, Nat.reduceMul, Nat.reduceEqDiff, Go.Addr.add, ↓reduceIte] at F)
   (try simp only [t1_, Nat.reduceMul, Nat.reduceEqDiff, Go.Addr.add, ↓reduceIte] at G)
   (try simp only [t1_, Nat.reduceMul, Nat.reduceEqDiff, Go.Addr.add, ↓reduceIte] at I)
   have cS : (1 < b.length) = True := et_ (by omega)
   (try rw [t1_] at B)
   (try rw [n15_] at B)
   (try rw [t1_] at E)
   (try rw [n15_] at E)
   (try rw [t1_] at F)
   (try rw [n15_] at F)
   (try rw [t1_] at G)
   (try rw [n15_] at G)
   (try rw [t1_] at I)
   (try rw [n15_] at I)
   replace B := hx_ HB B
   replace E := hx_ HB E
   replace F := hx_ HB F
   replace G := hx_ HB G
   replace I := hx_ HB I
   have be := a_ bd
   have bO := a_ bc
   clear bd bc
   replace p447 := et_ p447
   replace bj := et_ bj
   refine start_ (n := 11) (S := fun w' => w'.cell? a = some (.int .i64 ((rd_T61 b 0).f0)) ∧ w'.cell? ⟨a.block, a.off + 1, none⟩ = some (.slice bg ((rd_T61 b 0).f1).length c445_1) ∧ w'.cell? ⟨a.block, a.off + 2, none⟩ = some (.int .i64 ((rd_T61 b 0).f2)) ∧ w'.cell? ⟨a.block, a.off + 3, none⟩ = some (.int .i64 ((rd_T61 b 0).f3)) ∧ w'.cell? ⟨a.block, a.off + 4, none⟩ = some (.int .i64 ((rd_T61 b 0).f4)) ∧ w'.cell? ⟨a.block, a.off + 5, none⟩ = some (.int .i64 ((rd_T61 b 1).f0)) ∧ w'.cell? ⟨a.block, a.off + 5 + 1, none⟩ = some (.slice bh ((rd_T61 b 1).f1).length c447_1) ∧ w'.cell? ⟨a.block, a.off + 5 + 2, none⟩ = some (.int .i64 ((rd_T61 b 1).f2)) ∧ w'.cell? ⟨a.block, a.off + 5 + 3, none⟩ = some (.int .i64 ((rd_T61 b 1).f3)) ∧ w'.cell? ⟨a.block, a.off + 5 + 4, none⟩ = some (.int .i64 ((rd_T61 b 1).f4))) (ds := []) #[false, false, false, false, false, false, false, false, false, false, false] kr_ rfl rfl ⟨(hx_ HB o), (hx_ HB m), (hx_ HB l), (hx_ HB g), (hx_ HB d), (hx_ HB u), (hx_ HB s), (hx_ HB r), (hx_ HB q), (hx_ HB p)⟩ (fun hHeld => ?_); refine with_tabW ext_Filter.tab5 ext_Filter.bits5 (fun HT_ HW_ => ?_)
   generalize w26.drew = w28 at c HB bb be v x y z A B E F G I hHeld ⊢
   refine pn_ 0 25 ao_ ?_
   refine pn_ 1 26 ao_ ?_
   refine pn_ 4 29 ao_ ?_
   refine pn_ 5 30 ao_ ?_
   refine tn_ 2 27 tw_ hHeld ?_
   refine tn_ 6 31 tw_ hHeld ?_
   refine onn_ 3 28 #[true, true, true, true, true, true, true, false, false, false, false] rfl rfl on_ (by decide) (fun K hK => ?_)
   refine goes_ Tryz.func29 kr_ rfl #[.agg #[.int .i64 ((rd_T61 b 0).f0), .slice bg ((rd_T61 b 0).f1).length c445_1, .int .i64 ((rd_T61 b 0).f2), .int .i64 ((rd_T61 b 0).f3), .int .i64 ((rd_T61 b 0).f4)]] (by rfl) rfl rfl ar_ ?_
   with_reducible refine (dom_Dom_Size.calls ((rd_T61 b 0).f0) _ _ ((rd_T61 b 0).f1) ((rd_T61 b 0).f2) ((rd_T61 b 0).f3) ((rd_T61 b 0).f4) cC _ ?_ ?_ dt.out).mono ?_
   exact ca_ ((cb_ bb.out HB.out))
   exact bN.out
   rintro e w29 ⟨rfl, hb⟩
   refine ⟨_, rfl, ?_⟩
   replace c := a_ (bq_ c.out hb)
   replace HB := hq_ hb
   clear hb
   refine hK.out _ _ ⟨(hx_ HB o), (hx_ HB m), (hx_ HB l), (hx_ HB g), (hx_ HB d), (hx_ HB u), (hx_ HB s), (hx_ HB r), (hx_ HB q), (hx_ HB p)⟩ (fun hHeld => ?_)
   clear hK K
   refine nor_ (N := some 28) ?_
   refine onn_ 7 32 #[true, true, true, true, true, true, true, true, false, false, false] rfl rfl on_ (by decide) (fun K hK => ?_)
   refine goes_ Tryz.func29 kr_ rfl #[.agg #[.int .i64 ((rd_T61 b 1).f0), .slice bh ((rd_T61 b 1).f1).length c447_1, .int .i64 ((rd_T61 b 1).f2), .int .i64 ((rd_T61 b 1).f3), .int .i64 ((rd_T61 b 1).f4)]] (by rfl) rfl rfl ar_ ?_
   with_reducible refine (dom_Dom_Size.calls ((rd_T61 b 1).f0) _ _ ((rd_T61 b 1).f1) ((rd_T61 b 1).f2) ((rd_T61 b 1).f3) ((rd_T61 b 1).f4) cD _ ?_ ?_ du.out).mono ?_
   exact ca_ ((cb_ be.out HB.out))
   exact bO.out
   rintro e w30 ⟨rfl, hb⟩
   refine ⟨_, rfl, ?_⟩
   replace c := a_ (bq_ c.out hb)
   replace HB := hq_ hb
   clear hb
   refine hK.out _ _ ⟨(hx_ HB o), (hx_ HB m), (hx_ HB l), (hx_ HB g), (hx_ HB d), (hx_ HB u), (hx_ HB s), (hx_ HB r), (hx_ HB q), (hx_ HB p)⟩ (fun hHeld => ?_)
   clear hK K
   refine nor_ (N := some 32) ?_
   refine pn_ 8 33 ao_ ?_
   refine pn_ 9 34 ao_ ?_
   refine pn_ 10 6 ao_ ?_
   refine done_ dn_ ?_
   obtain ⟨_, _, _, _, _, _, _, _, _, _, _, _, _, _, _, _⟩ := cel8_ c.out
   try go_wp2
   replace c := a_ (blk_drew c.out)
   replace HB := a_ (below_drew1 HB.out)
   have p449 : 0 ≤ (0 : Int) := (by omega)
   have cv : 0 < (b.length : Int) := dq_
   obtain ⟨cT, b9, c449_1, c9, J, M, O, P, Q, bP, bQ⟩ := at_T61 a7.out 0 p449 cv
   have aw := Q
   (try rw [t0_] at aw)
   (try rw [n05_] at aw)
   (try rw [Addr.add_zero'] at aw)
   have ax := P
   (try rw [t0_] at ax)
   (try rw [n05_] at ax)
   (try rw [Addr.add_zero'] at ax)
   have ay := O
   (try rw [t0_] at ay)
   (try rw [n05_] at ay)
   (try rw [Addr.add_zero'] at ay)
   have az := M
   (try rw [t0_] at az)
   (try rw [n05_] at az)
   (try rw [Addr.add_zero'] at az)
   have aA := J
   (try rw [t0_] at aA)
   (try rw [n05_] at aA)
   (try rw [Addr.add_zero'] at aA)
   obtain rfl : a = cT := (by injection c9)
   have dG : (0 < b.length) = True := et_ (by omega)
   (try rw [t0_] at J)
   (try rw [n05_] at J)
   (try rw [Addr.add_zero'] at J)
   (try rw [t0_] at M)
   (try rw [n05_] at M)
   (try rw [Addr.add_zero'] at M)
   (try rw [t0_] at O)
   (try rw [n05_] at O)
   (try rw [Addr.add_zero'] at O)
   (try rw [t0_] at P)
   (try rw [n05_] at P)
   (try rw [Addr.add_zero'] at P)
   (try rw [t0_] at Q)
   (try rw [n05_] at Q)
   (try rw [Addr.add_zero'] at Q)
   replace J := hx_ HB J
   replace M := hx_ HB M
   replace O := hx_ HB O
   replace P := hx_ HB P
   replace Q := hx_ HB Q
   have bR := a_ bQ
   have cE := a_ bP
   clear bQ bP
   replace p449 := et_ p449
   replace cv := et_ cv
   have p450 : 0 ≤ (1 : Int) := (by omega)
   have cw : 1 < (b.length : Int) := dq_
   obtain ⟨cU, ca, c450_1, da, U, V, W, X, Y, bS, bT⟩ := at_T61 a7.out 1 p450 cw
   have aB := Y
   (try rw [t1_] at aB)
   (try rw [n15_] at aB)
   (try simp only [Nat.reduceMul, Nat.reduceEqDiff, Go.Addr.add, ↓reduceIte] at aB)
   have aC := X
   (try rw [t1_] at aC)
   (try rw [n15_] at aC)
   (try simp only [Nat.reduceMul, Nat.reduceEqDiff, Go.Addr.add, ↓reduceIte] at aC)
   have aD := W
   (try rw [t1_] at aD)
   (try rw [n15_] at aD)
   (try simp only [Nat.reduceMul, Nat.reduceEqDiff, Go.Addr.add, ↓reduceIte] at aD)
   have aE := V
   (try rw [t1_] at aE)
   (try rw [n15_] at aE)
   (try simp only [Nat.reduceMul, Nat.reduceEqDiff, Go.Addr.add, ↓reduceIte] at aE)
   have aF := U
   (try rw [t1_] at aF)
   (try rw [n15_] at aF)
   (try simp only [Nat.reduceMul, Nat.reduceEqDiff, Go.Addr.add, ↓reduceIte] at aF)
   obtain rfl : a = cU := (by injection da)
   (try simp only [t1_, Nat.reduceMul, Nat.reduceEqDiff, Go.Addr.add, ↓reduceIte] at U)
   (try simp only [t1_, Nat.reduceMul, Nat.reduceEqDiff, Go.Addr.add, ↓reduceIte] at V)
   (try simp only [t1_, Nat.reduceMul, Nat.reduceEqDiff, Go.Addr.add, ↓reduceIte] at W)
   (try simp only [t1_, Nat.reduceMul, Nat.reduceEqDiff, Go.Addr.add, ↓reduceIte] at X)
   (try simp only [t1_, Nat.reduceMul, Nat.reduceEqDiff, Go.Addr.add, ↓reduceIte] at Y)
   have dH : (1 < b.length) = True := et_ (by omega)
   (try rw [t1_] at U)
   (try rw [n15_] at U)
   (try rw [t1_] at V)
   (try rw [n15_] at V)
   (try rw [t1_] at W)
   (try rw [n15_] at W)
   (try rw [t1_] at X)
   (try rw [n15_] at X)
   (try rw [t1_] at Y)
   (try rw [n15_] at Y)
   replace U := hx_ HB U
   replace V := hx_ HB V
   replace W := hx_ HB W
   replace X := hx_ HB X
   replace Y := hx_ HB Y
   have bU := a_ bT
   have cF := a_ bS
   clear bT bS
   replace p450 := et_ p450
   replace cw := et_ cw
   have p451 : 0 ≤ (2 : Int) := (by omega)
   have cx : 2 < (b.length : Int) := dq_
   obtain ⟨cV, cb, c451_1, db, Z, aa, ab, ac, ad, bV, bW⟩ := at_T61 a7.out 2 p451 cx
   have aG := ad
   (try rw [t2_] at aG)
   (try rw [n25_] at aG)
   (try simp only [Nat.reduceMul, Nat.reduceEqDiff, Go.Addr.add, ↓reduceIte] at aG)
   have aH := ac
   (try rw [t2_] at aH)
   (try rw [n25_] at aH)
   (try simp only [Nat.reduceMul, Nat.reduceEqDiff, Go.Addr.add, ↓reduceIte] at aH)
   have aI := ab
   (try rw [t2_] at aI)
   (try rw [n25_] at aI)
   (try simp only [Nat.reduceMul, Nat.reduceEqDiff, Go.Addr.add, ↓reduceIte] at aI)
   have aJ := aa
   (try rw [t2_] at aJ)
   (try rw [n25_] at aJ)
   (try simp only [Nat.reduceMul, Nat.reduceEqDiff, Go.Addr.add, ↓reduceIte] at aJ)
   have aK := Z
   (try rw [t2_] at aK)
   (try rw [n25_] at aK)
   (try simp only [Nat.reduceMul, Nat.reduceEqDiff, Go.Addr.add, ↓reduceIte] at aK)
   obtain rfl : a = cV := (by injection db)
   (try simp only [t2_, Nat.reduceMul, Nat.reduceEqDiff, Go.Addr.add, ↓reduceIte] at Z)
   (try simp only [t2_, Nat.reduceMul, Nat.reduceEqDiff, Go.Addr.add, ↓reduceIte] at aa)
   (try simp only [t2_, Nat.reduceMul, Nat.reduceEqDiff, Go.Addr.add, ↓reduceIte] at ab)
   (try simp only [t2_, Nat.reduceMul, Nat.reduceEqDiff, Go.Addr.add, ↓reduceIte] at ac)
   (try simp only [t2_, Nat.reduceMul, Nat.reduceEqDiff, Go.Addr.add, ↓reduceIte] at ad)
   have dI : (2 < b.length) = True := et_ (by omega)
   (try rw [t2_] at Z)
   (try rw [n25_] at Z)
   (try rw [t2_] at aa)
   (try rw [n25_] at aa)
   (try rw [t2_] at ab)
   (try rw [n25_] at ab)
   (try rw [t2_] at ac)
   (try rw [n25_] at ac)
   (try rw [t2_] at ad)
   (try rw [n25_] at ad)
   replace Z := hx_ HB Z
   replace aa := hx_ HB aa
   replace ab := hx_ HB ab
   replace ac := hx_ HB ac
   replace ad := hx_ HB ad
   have bX := a_ bW
   have cG := a_ bV
   clear bW bV
   replace p451 := et_ p451
   replace cx := et_ cx
   refine start_ (n := 15) (S := fun w' => w'.cell? a = some (.int .i64 ((rd_T61 b 0).f0)) ∧ w'.cell? ⟨a.block, a.off + 1, none⟩ = some (.slice b9 ((rd_T61 b 0).f1).length c449_1) ∧ w'.cell? ⟨a.block, a.off + 2, none⟩ = some (.int .i64 ((rd_T61 b 0).f2)) ∧ w'.cell? ⟨a.block, a.off + 3, none⟩ = some (.int .i64 ((rd_T61 b 0).f3)) ∧ w'.cell? ⟨a.block, a.off + 4, none⟩ = some (.int .i64 ((rd_T61 b 0).f4)) ∧ w'.cell? ⟨a.block, a.off + 5, none⟩ = some (.int .i64 ((rd_T61 b 1).f0)) ∧ w'.cell? ⟨a.block, a.off + 5 + 1, none⟩ = some (.slice ca ((rd_T61 b 1).f1).length c450_1) ∧ w'.cell? ⟨a.block, a.off + 5 + 2, none⟩ = some (.int .i64 ((rd_T61 b 1).f2)) ∧ w'.cell? ⟨a.block, a.off + 5 + 3, none⟩ = some (.int .i64 ((rd_T61 b 1).f3)) ∧ w'.cell? ⟨a.block, a.off + 5 + 4, none⟩ = some (.int .i64 ((rd_T61 b 1).f4)) ∧ w'.cell? ⟨a.block, a.off + 10, none⟩ = some (.int .i64 ((rd_T61 b 2).f0)) ∧ w'.cell? ⟨a.block, a.off + 10 + 1, none⟩ = some (.slice cb ((rd_T61 b 2).f1).length c451_1) ∧ w'.cell? ⟨a.block, a.off + 10 + 2, none⟩ = some (.int .i64 ((rd_T61 b 2).f2)) ∧ w'.cell? ⟨a.block, a.off + 10 + 3, none⟩ = some (.int .i64 ((rd_T61 b 2).f3)) ∧ w'.cell? ⟨a.block, a.off + 10 + 4, none⟩ = some (.int .i64 ((rd_T61 b 2).f4))) (ds := []) #[false, false, false, false, false, false, false, false, false, false, false, false, false, false, false] kr_ rfl rfl ⟨(hx_ HB aA), (hx_ HB az), (hx_ HB ay), (hx_ HB ax), (hx_ HB aw), (hx_ HB aF), (hx_ HB aE), (hx_ HB aD), (hx_ HB aC), (hx_ HB aB), (hx_ HB aK), (hx_ HB aJ), (hx_ HB aI), (hx_ HB aH), (hx_ HB aG)⟩ (fun hHeld => ?_); refine with_tabW ext_Filter.tab14 ext_Filter.bits14 (fun HT_ HW_ => ?_)
   generalize w30.drew = w32 at c HB bR bU bX J M O P Q U V W X Y Z aa ab ac ad hHeld ⊢
   refine pn_ 0 88 ao_ ?_
   refine pn_ 1 89 ao_ ?_
   refine pn_ 3 91 ao_ ?_
   refine pn_ 4 92 ao_ ?_
   refine pn_ 6 94 ao_ ?_
   refine pn_ 7 95 ao_ ?_
   refine tn_ 2 90 tw_ hHeld ?_
   refine tn_ 5 93 tw_ hHeld ?_
   refine tn_ 8 96 tw_ hHeld ?_
   refine onn_ 9 97 #[true, true, true, true, true, true, true, true, true, true, false, false, false, false, false] rfl rfl on_ (by decide) (fun K hK => ?_)
   refine goes_ Tryz.func32 kr_ rfl #[.agg #[.int .i64 ((rd_T61 b 0).f0), .slice b9 ((rd_T61 b 0).f1).length c449_1, .int .i64 ((rd_T61 b 0).f2), .int .i64 ((rd_T61 b 0).f3), .int .i64 ((rd_T61 b 0).f4)], .agg #[.int .i64 ((rd_T61 b 1).f0), .slice ca ((rd_T61 b 1).f1).length c450_1, .int .i64 ((rd_T61 b 1).f2), .int .i64 ((rd_T61 b 1).f3), .int .i64 ((rd_T61 b 1).f4)], .agg #[.int .i64 ((rd_T61 b 2).f0), .slice cb ((rd_T61 b 2).f1).length c451_1, .int .i64 ((rd_T61 b 2).f2), .int .i64 ((rd_T61 b 2).f3), .int .i64 ((rd_T61 b 2).f4)], .func (.func 33) #[] #[]] (by rfl) rfl rfl ar_ ?_
   with_reducible refine (pPairs.calls (.inl rfl) ext_Filter_1.calls k ((rd_T61 b 0).f0) _ _ ((rd_T61 b 0).f1) ((rd_T61 b 0).f2) ((rd_T61 b 0).f3) ((rd_T61 b 0).f4) ((rd_T61 b 1).f0) _ _ ((rd_T61 b 1).f1) ((rd_T61 b 1).f2) ((rd_T61 b 1).f3) ((rd_T61 b 1).f4) ((rd_T61 b 2).f0) _ _ ((rd_T61 b 2).f1) ((rd_T61 b 2).f2) ((rd_T61 b 2).f3) ((rd_T61 b 2).f4) dA true _ ?_ ?_ ?_ ?_ ?_ ?_ ?_ dS.out).mono ?_
   exact ca_ ((cb_ bR.out HB.out))
   exact cE.out
   exact ca_ ((cb_ bU.out HB.out))
   exact cF.out
   exact ca_ ((cb_ bX.out HB.out))
   exact cG.out
   exact ca_ ((cb_ HRtab.out HB.out))
   rintro e w33 ⟨d0, rfl, b8, hb⟩
   refine ⟨_, rfl, ?_⟩
   have dJ := a_ (Kd.N_lower (nm_ (ok' := fun k_ => (w.heap.size ≤ k_) ∧ k_ ≠ bf) b8 (fun k_ hk_ => ⟨(Nat.le_trans (bz_ bel_) hk_), (Kd.freshB (bk_ c.out) k_ hk_)⟩)) (bz_ bel_))
   replace c := a_ (bq_ c.out hb)
   replace HB := hq_ hb
   clear hb b8
   refine hK.out _ _ ⟨(hx_ HB aA), (hx_ HB az), (hx_ HB ay), (hx_ HB ax), (hx_ HB aw), (hx_ HB aF), (hx_ HB aE), (hx_ HB aD), (hx_ HB aC), (hx_ HB aB), (hx_ HB aK), (hx_ HB aJ), (hx_ HB aI), (hx_ HB aH), (hx_ HB aG)⟩ (fun hHeld => ?_)
   clear hK K
   refine nor_ (N := some 97) ?_
   refine pn_ 10 87 ao_ ?_
   refine pn_ 11 98 ao_ ?_
   refine pn_ 12 99 ao_ ?_
   refine pn_ 13 7 ao_ ?_
   refine pn_ 14 8 ao_ ?_
   refine done_ dn_ ?_
   try go_wp2
   go_ret2
   exact ⟨_, er_, by refine vN_ ?_; exact nm_ dJ.out (fun _ hk => hk.1), bel_⟩
  replace c23 := bf_.mpr c23
  subst c23
  have H1 : (some (([] : List (S61)), false)) = some (r1, r2) := by rw [ig_ (show ¬ (false = true) by decide)] at H; exact H
  clear H
  have H := H1
  clear H1
  simp only [Option.some.injEq, Prod.mk.injEq] at H
  obtain ⟨rfl, rfl⟩ := H
  go_enter Tryz.func10, Tryz.ntmps10
  try go_wp2_with (first | ((with_reducible refine gate_dst (N := 2) rfl ?_); refine bxe_ (N := 2) (cs := #[.int .i64 av, .slice bv a1.length c0_1, .slice bw a2.length c0_2, .slice bx a3.length c0_3, .slice bz a4.length c0_4, .slice bA a5.length c0_5, .int .i64 a8, .slice bB a6.length c0_7]) (t := 32) ?_; intro bf hg w34 hbox hb; have c := a_ (hbox); have bC := a_ (by rw [hg]; exact (bz_ bel_) : w.heap.size ≤ bf); have cB := bC; replace HB := hq_ hb; clear hb hbox hg; obtain ⟨_, _, _, _, _, _, _, _, _, _, _, _, _, _, _, _⟩ := cel8_ c.out) | ((with_reducible refine gate_callee (f := 27) rfl ?_); refine goesL_ (some 11) rfl rfl Tryz.func27 kr_ rfl #[.agg #[.int .i64 av, .slice bv a1.length c0_1, .slice bw a2.length c0_2, .slice bx a3.length c0_3, .slice bz a4.length c0_4, .slice bA a5.length c0_5, .int .i64 a8, .slice bB a6.length c0_7], .slice A1 b.length c1, .int .i64 8, .int .i64 10] rfl ar_ ?_; (with_reducible refine (prop_Fits.calls k av _ _ a1 _ _ a2 _ _ a3 _ _ a4 _ _ a5 a8 _ _ a6 _ _ b 8 10 true _ ?_ ?_ ?_ ?_ ?_ ?_ ?_ ?_ ?_ ?_ ?_ ?_ ?_ ?_ A3.out).mono ?_); exact ca_ ((cb_ cf.out HB.out)); exact cg.out; exact ca_ ((cb_ ch.out HB.out)); exact ci.out; exact ca_ ((cb_ cj.out HB.out)); exact ck.out; exact ca_ ((cb_ cl.out HB.out)); exact cm.out; exact ca_ ((cb_ cn.out HB.out)); exact co.out; exact ca_ ((cb_ cp.out HB.out)); exact cq.out; exact ca_ ((cb_ a7.out HB.out)); exact cK.out; rintro e w36 ⟨rfl, hb⟩; refine ⟨_, rfl, ?_⟩; replace c := a_ (bq_ c.out hb); replace HB := hq_ hb; clear hb; obtain ⟨_, _, _, _, _, _, _, _, _, _, _, _, _, _, _, _⟩ := cel8_ c.out))
  replace c := a_ (blk_drew c.out)
  replace HB := a_ (below_drew1 HB.out)
  have p445 : 0 ≤ (0 : Int) := (by omega)
  have bi : 0 < (b.length : Int) := dq_
  obtain ⟨a, bg, c445_1, ct, v, x, y, z, A, a9, ba⟩ := at_T61 a7.out 0 p445 bi
  have d := A
  (try rw [t0_] at d)
  (try rw [n05_] at d)
  (try rw [Addr.add_zero'] at d)
  have g := z
  (try rw [t0_] at g)
  (try rw [n05_] at g)
  (try rw [Addr.add_zero'] at g)
  have l := y
  (try rw [t0_] at l)
  (try rw [n05_] at l)
  (try rw [Addr.add_zero'] at l)
  have m := x
  (try rw [t0_] at m)
  (try rw [n05_] at m)
  (try rw [Addr.add_zero'] at m)
  have o := v
  (try rw [t0_] at o)
  (try rw [n05_] at o)
  (try rw [Addr.add_zero'] at o)
  cases ct
  have cR : (0 < b.length) = True := et_ (by omega)
  (try rw [t0_] at v)
  (try rw [n05_] at v)
  (try rw [Addr.add_zero'] at v)
  (try rw [t0_] at x)
  (try rw [n05_] at x)
  (try rw [Addr.add_zero'] at x)
  (try rw [t0_] at y)
  (try rw [n05_] at y)
  (try rw [Addr.add_zero'] at y)
  (try rw [t0_] at z)
  (try rw [n05_] at z)
  (try rw [Addr.add_zero'] at z)
  (try rw [t0_] at A)
  (try rw [n05_] at A)
  (try rw [Addr.add_zero'] at A)
  replace v := hx_ HB v
  replace x := hx_ HB x
  replace y := hx_ HB y
  replace z := hx_ HB z
  replace A := hx_ HB A
  have bb := a_ ba
  have bN := a_ a9
  clear ba a9
  replace p445 := et_ p445
  replace bi := et_ bi
  have p447 : 0 ≤ (1 : Int) := (by omega)
  have bj : 1 < (b.length : Int) := dq_
  obtain ⟨b7, bh, c447_1, cu, B, E, F, G, I, bc, bd⟩ := at_T61 a7.out 1 p447 bj
  have p := I
  (try rw [t1_] at p)
  (try rw [n15_] at p)
  (try simp only [Nat.reduceMul, Nat.reduceEqDiff, Go.Addr.add, ↓reduceIte] at p)
  have q := G
  (try rw [t1_] at q)
  (try rw [n15_] at q)
  (try simp only [Nat.reduceMul, Nat.reduceEqDiff, Go.Addr.add, ↓reduceIte] at q)
  have r := F
  (try rw [t1_] at r)
  (try rw [n15_] at r)
  (try simp only [Nat.reduceMul, Nat.reduceEqDiff, Go.Addr.add, ↓reduceIte] at r)
  have s := E
  (try rw [t1_] at s)
  (try rw [n15_] at s)
  (try simp only [Nat.reduceMul, Nat.reduceEqDiff, Go.Addr.add, ↓reduceIte] at s)
  have u := B
  (try rw [t1_] at u)
  (try rw [n15_] at u)
  (try simp only [Nat.reduceMul, Nat.reduceEqDiff, Go.Addr.add, ↓reduceIte] at u)
  obtain rfl : a = b7 := (by injection cu)
  (try simp only [t1_, Nat.reduceMul, Nat.reduceEqDiff, Go.Addr.add, ↓reduceIte] at B)
  (try simp only [t1_, Nat.reduceMul, Nat.reduceEqDiff, Go.Addr.add, ↓reduceIte] at E)
  (try simp only [t1_, Nat.reduceMul, Nat.reduceEqDiff, Go.Addr.add, ↓reduceIte] at F)
  (try simp only [t1_, Nat.reduceMul, Nat.reduceEqDiff, Go.Addr.add, ↓reduceIte] at G)
  (try simp only [t1_, Nat.reduceMul, Nat.reduceEqDiff, Go.Addr.add, ↓reduceIte] at I)
  have cS : (1 < b.length) = True := et_ (by omega)
  (try rw [t1_] at B)
  (try rw [n15_] at B)
  (try rw [t1_] at E)
  (try rw [n15_] at E)
  (try rw [t1_] at F)
  (try rw [n15_] at F)
  (try rw [t1_] at G)
  (try rw [n15_] at G)
  (try rw [t1_] at I)
  (try rw [n15_] at I)
  replace B := hx_ HB B
  replace E := hx_ HB E
  replace F := hx_ HB F
  replace G := hx_ HB G
  replace I := hx_ HB I
  have be := a_ bd
  have bO := a_ bc
  clear bd bc
  replace p447 := et_ p447
  replace bj := et_ bj
  refine start_ (n := 11) (S := fun w' => w'.cell? a = some (.int .i64 ((rd_T61 b 0).f0)) ∧ w'.cell? ⟨a.block, a.off + 1, none⟩ = some (.slice bg ((rd_T61 b 0).f1).length c445_1) ∧ w'.cell? ⟨a.block, a.off + 2, none⟩ = some (.int .i64 ((rd_T61 b 0).f2)) ∧ w'.cell? ⟨a.block, a.off + 3, none⟩ = some (.int .i64 ((rd_T61 b 0).f3)) ∧ w'.cell? ⟨a.block, a.off + 4, none⟩ = some (.int .i64 ((rd_T61 b 0).f4)) ∧ w'.cell? ⟨a.block, a.off + 5, none⟩ = some (.int .i64 ((rd_T61 b 1).f0)) ∧ w'.cell? ⟨a.block, a.off + 5 + 1, none⟩ = some (.slice bh ((rd_T61 b 1).f1).length c447_1) ∧ w'.cell? ⟨a.block, a.off + 5 + 2, none⟩ = some (.int .i64 ((rd_T61 b 1).f2)) ∧ w'.cell? ⟨a.block, a.off + 5 + 3, none⟩ = some (.int .i64 ((rd_T61 b 1).f3)) ∧ w'.cell? ⟨a.block, a.off + 5 + 4, none⟩ = some (.int .i64 ((rd_T61 b 1).f4))) (ds := []) #[false, false, false, false, false, false, false, false, false, false, false] kr_ rfl rfl ⟨(hx_ HB o), (hx_ HB m), (hx_ HB l), (hx_ HB g), (hx_ HB d), (hx_ HB u), (hx_ HB s), (hx_ HB r), (hx_ HB q), (hx_ HB p)⟩ (fun hHeld => ?_); refine with_tabW ext_Filter.tab5 ext_Filter.bits5 (fun HT_ HW_ => ?_)
  generalize w36.drew = w38 at c HB bb be v x y z A B E F G I hHeld ⊢
  refine pn_ 0 25 ao_ ?_
  refine pn_ 1 26 ao_ ?_
  refine pn_ 4 29 ao_ ?_
  refine pn_ 5 30 ao_ ?_
  refine tn_ 2 27 tw_ hHeld ?_
  refine tn_ 6 31 tw_ hHeld ?_
  refine onn_ 3 28 #[true, true, true, true, true, true, true, false, false, false, false] rfl rfl on_ (by decide) (fun K hK => ?_)
  refine goes_ Tryz.func29 kr_ rfl #[.agg #[.int .i64 ((rd_T61 b 0).f0), .slice bg ((rd_T61 b 0).f1).length c445_1, .int .i64 ((rd_T61 b 0).f2), .int .i64 ((rd_T61 b 0).f3), .int .i64 ((rd_T61 b 0).f4)]] (by rfl) rfl rfl ar_ ?_
  with_reducible refine (dom_Dom_Size.calls ((rd_T61 b 0).f0) _ _ ((rd_T61 b 0).f1) ((rd_T61 b 0).f2) ((rd_T61 b 0).f3) ((rd_T61 b 0).f4) cC _ ?_ ?_ dt.out).mono ?_
  exact ca_ ((cb_ bb.out HB.out))
  exact bN.out
  rintro e w39 ⟨rfl, hb⟩
  refine ⟨_, rfl, ?_⟩
  replace c := a_ (bq_ c.out hb)
  replace HB := hq_ hb
  clear hb
  refine hK.out _ _ ⟨(hx_ HB o), (hx_ HB m), (hx_ HB l), (hx_ HB g), (hx_ HB d), (hx_ HB u), (hx_ HB s), (hx_ HB r), (hx_ HB q), (hx_ HB p)⟩ (fun hHeld => ?_)
  clear hK K
  refine nor_ (N := some 28) ?_
  refine onn_ 7 32 #[true, true, true, true, true, true, true, true, false, false, false] rfl rfl on_ (by decide) (fun K hK => ?_)
  refine goes_ Tryz.func29 kr_ rfl #[.agg #[.int .i64 ((rd_T61 b 1).f0), .slice bh ((rd_T61 b 1).f1).length c447_1, .int .i64 ((rd_T61 b 1).f2), .int .i64 ((rd_T61 b 1).f3), .int .i64 ((rd_T61 b 1).f4)]] (by rfl) rfl rfl ar_ ?_
  with_reducible refine (dom_Dom_Size.calls ((rd_T61 b 1).f0) _ _ ((rd_T61 b 1).f1) ((rd_T61 b 1).f2) ((rd_T61 b 1).f3) ((rd_T61 b 1).f4) cD _ ?_ ?_ du.out).mono ?_
  exact ca_ ((cb_ be.out HB.out))
  exact bO.out
  rintro e w40 ⟨rfl, hb⟩
  refine ⟨_, rfl, ?_⟩
  replace c := a_ (bq_ c.out hb)
  replace HB := hq_ hb
  clear hb
  refine hK.out _ _ ⟨(hx_ HB o), (hx_ HB m), (hx_ HB l), (hx_ HB g), (hx_ HB d), (hx_ HB u), (hx_ HB s), (hx_ HB r), (hx_ HB q), (hx_ HB p)⟩ (fun hHeld => ?_)
  clear hK K
  refine nor_ (N := some 32) ?_
  refine pn_ 8 33 ao_ ?_
  refine pn_ 9 34 ao_ ?_
  refine pn_ 10 6 ao_ ?_
  refine done_ dn_ ?_
  obtain ⟨_, _, _, _, _, _, _, _, _, _, _, _, _, _, _, _⟩ := cel8_ c.out
  try go_wp2
  replace HB := a_ (below_drew1 HB.out)
  have p449 : 0 ≤ (0 : Int) := (by omega)
  have cv : 0 < (b.length : Int) := dq_
  obtain ⟨cT, b9, c449_1, c9, J, M, O, P, Q, bP, bQ⟩ := at_T61 a7.out 0 p449 cv
  have aw := Q
  (try rw [t0_] at aw)
  (try rw [n05_] at aw)
  (try rw [Addr.add_zero'] at aw)
  have ax := P
  (try rw [t0_] at ax)
  (try rw [n05_] at ax)
  (try rw [Addr.add_zero'] at ax)
  have ay := O
  (try rw [t0_] at ay)
  (try rw [n05_] at ay)
  (try rw [Addr.add_zero'] at ay)
  have az := M
  (try rw [t0_] at az)
  (try rw [n05_] at az)
  (try rw [Addr.add_zero'] at az)
  have aA := J
  (try rw [t0_] at aA)
  (try rw [n05_] at aA)
  (try rw [Addr.add_zero'] at aA)
  obtain rfl : a = cT := (by injection c9)
  have dG : (0 < b.length) = True := et_ (by omega)
  (try rw [t0_] at J)
  (try rw [n05_] at J)
  (try rw [Addr.add_zero'] at J)
  (try rw [t0_] at M)
  (try rw [n05_] at M)
  (try rw [Addr.add_zero'] at M)
  (try rw [t0_] at O)
  (try rw [n05_] at O)
  (try rw [Addr.add_zero'] at O)
  (try rw [t0_] at P)
  (try rw [n05_] at P)
  (try rw [Addr.add_zero'] at P)
  (try rw [t0_] at Q)
  (try rw [n05_] at Q)
  (try rw [Addr.add_zero'] at Q)
  replace J := hx_ HB J
  replace M := hx_ HB M
  replace O := hx_ HB O
  replace P := hx_ HB P
  replace Q := hx_ HB Q
  have bR := a_ bQ
  have cE := a_ bP
  clear bQ bP
  replace p449 := et_ p449
  replace cv := et_ cv
  have p450 : 0 ≤ (1 : Int) := (by omega)
  have cw : 1 < (b.length : Int) := dq_
  obtain ⟨cU, ca, c450_1, da, U, V, W, X, Y, bS, bT⟩ := at_T61 a7.out 1 p450 cw
  have aB := Y
  (try rw [t1_] at aB)
  (try rw [n15_] at aB)
  (try simp only [Nat.reduceMul, Nat.reduceEqDiff, Go.Addr.add, ↓reduceIte] at aB)
  have aC := X
  (try rw [t1_] at aC)
  (try rw [n15_] at aC)
  (try simp only [Nat.reduceMul, Nat.reduceEqDiff, Go.Addr.add, ↓reduceIte] at aC)
  have aD := W
  (try rw [t1_] at aD)
  (try rw [n15_] at aD)
  (try simp only [Nat.reduceMul, Nat.reduceEqDiff, Go.Addr.add, ↓reduceIte] at aD)
  have aE := V
  (try rw [t1_] at aE)
  (try rw [n15_] at aE)
  (try simp only [Nat.reduceMul, Nat.reduceEqDiff, Go.Addr.add, ↓reduceIte] at aE)
  have aF := U
  (try rw [t1_] at aF)
  (try rw [n15_] at aF)
  (try simp only [Nat.reduceMul, Nat.reduceEqDiff, Go.Addr.add, ↓reduceIte] at aF)
  obtain rfl : a = cU := (by injection da)
  (try simp only [t1_, Nat.reduceMul, Nat.reduceEqDiff, Go.Addr.add, ↓reduceIte] at U)
  (try simp only [t1_, Nat.reduceMul, Nat.reduceEqDiff, Go.Addr.add, ↓reduceIte] at V)
  (try simp only [t1_, Nat.reduceMul, Nat.reduceEqDiff, Go.Addr.add, ↓reduceIte] at W)
  (try simp only [t1_, Nat.reduceMul, Nat.reduceEqDiff, Go.Addr.add, ↓reduceIte] at X)
  (try simp only [t1_, Nat.reduceMul, Nat.reduceEqDiff, Go.Addr.add, ↓reduceIte] at Y)
  have dH : (1 < b.length) = True := et_ (by omega)
  (try rw [t1_] at U)
  (try rw [n15_] at U)
  (try rw [t1_] at V)
  (try rw [n15_] at V)
  (try rw [t1_] at W)
  (try rw [n15_] at W)
  (try rw [t1_] at X)
  (try rw [n15_] at X)
  (try rw [t1_] at Y)
  (try rw [n15_] at Y)
  replace U := hx_ HB U
  replace V := hx_ HB V
  replace W := hx_ HB W
  replace X := hx_ HB X
  replace Y := hx_ HB Y
  have bU := a_ bT
  have cF := a_ bS
  clear bT bS
  replace p450 := et_ p450
  replace cw := et_ cw
  have p451 : 0 ≤ (2 : Int) := (by omega)
  have cx : 2 < (b.length : Int) := dq_
  obtain ⟨cV, cb, c451_1, db, Z, aa, ab, ac, ad, bV, bW⟩ := at_T61 a7.out 2 p451 cx
  have aG := ad
  (try rw [t2_] at aG)
  (try rw [n25_] at aG)
  (try simp only [Nat.reduceMul, Nat.reduceEqDiff, Go.Addr.add, ↓reduceIte] at aG)
  have aH := ac
  (try rw [t2_] at aH)
  (try rw [n25_] at aH)
  (try simp only [Nat.reduceMul, Nat.reduceEqDiff, Go.Addr.add, ↓reduceIte] at aH)
  have aI := ab
  (try rw [t2_] at aI)
  (try rw [n25_] at aI)
  (try simp only [Nat.reduceMul, Nat.reduceEqDiff, Go.Addr.add, ↓reduceIte] at aI)
  have aJ := aa
  (try rw [t2_] at aJ)
  (try rw [n25_] at aJ)
  (try simp only [Nat.reduceMul, Nat.reduceEqDiff, Go.Addr.add, ↓reduceIte] at aJ)
  have aK := Z
  (try rw [t2_] at aK)
  (try rw [n25_] at aK)
  (try simp only [Nat.reduceMul, Nat.reduceEqDiff, Go.Addr.add, ↓reduceIte] at aK)
  obtain rfl : a = cV := (by injection db)
  (try simp only [t2_, Nat.reduceMul, Nat.reduceEqDiff, Go.Addr.add, ↓reduceIte] at Z)
  (try simp only [t2_, Nat.reduceMul, Nat.reduceEqDiff, Go.Addr.add, ↓reduceIte] at aa)
  (try simp only [t2_, Nat.reduceMul, Nat.reduceEqDiff, Go.Addr.add, ↓reduceIte] at ab)
  (try simp only [t2_, Nat.reduceMul, Nat.reduceEqDiff, Go.Addr.add, ↓reduceIte] at ac)
  (try simp only [t2_, Nat.reduceMul, Nat.reduceEqDiff, Go.Addr.add, ↓reduceIte] at ad)
  have dI : (2 < b.length) = True := et_ (by omega)
  (try rw [t2_] at Z)
  (try rw [n25_] at Z)
  (try rw [t2_] at aa)
  (try rw [n25_] at aa)
  (try rw [t2_] at ab)
  (try rw [n25_] at ab)
  (try rw [t2_] at ac)
  (try rw [n25_] at ac)
  (try rw [t2_] at ad)
  (try rw [n25_] at ad)
  replace Z := hx_ HB Z
  replace aa := hx_ HB aa
  replace ab := hx_ HB ab
  replace ac := hx_ HB ac
  replace ad := hx_ HB ad
  have bX := a_ bW
  have cG := a_ bV
  clear bW bV
  replace p451 := et_ p451
  replace cx := et_ cx
  refine start_ (n := 15) (S := fun w' => w'.cell? a = some (.int .i64 ((rd_T61 b 0).f0)) ∧ w'.cell? ⟨a.block, a.off + 1, none⟩ = some (.slice b9 ((rd_T61 b 0).f1).length c449_1) ∧ w'.cell? ⟨a.block, a.off + 2, none⟩ = some (.int .i64 ((rd_T61 b 0).f2)) ∧ w'.cell? ⟨a.block, a.off + 3, none⟩ = some (.int .i64 ((rd_T61 b 0).f3)) ∧ w'.cell? ⟨a.block, a.off + 4, none⟩ = some (.int .i64 ((rd_T61 b 0).f4)) ∧ w'.cell? ⟨a.block, a.off + 5, none⟩ = some (.int .i64 ((rd_T61 b 1).f0)) ∧ w'.cell? ⟨a.block, a.off + 5 + 1, none⟩ = some (.slice ca ((rd_T61 b 1).f1).length c450_1) ∧ w'.cell? ⟨a.block, a.off + 5 + 2, none⟩ = some (.int .i64 ((rd_T61 b 1).f2)) ∧ w'.cell? ⟨a.block, a.off + 5 + 3, none⟩ = some (.int .i64 ((rd_T61 b 1).f3)) ∧ w'.cell? ⟨a.block, a.off + 5 + 4, none⟩ = some (.int .i64 ((rd_T61 b 1).f4)) ∧ w'.cell? ⟨a.block, a.off + 10, none⟩ = some (.int .i64 ((rd_T61 b 2).f0)) ∧ w'.cell? ⟨a.block, a.off + 10 + 1, none⟩ = some (.slice cb ((rd_T61 b 2).f1).length c451_1) ∧ w'.cell? ⟨a.block, a.off + 10 + 2, none⟩ = some (.int .i64 ((rd_T61 b 2).f2)) ∧ w'.cell? ⟨a.block, a.off + 10 + 3, none⟩ = some (.int .i64 ((rd_T61 b 2).f3)) ∧ w'.cell? ⟨a.block, a.off + 10 + 4, none⟩ = some (.int .i64 ((rd_T61 b 2).f4))) (ds := []) #[false, false, false, false, false, false, false, false, false, false, false, false, false, false, false] kr_ rfl rfl ⟨(hx_ HB aA), (hx_ HB az), (hx_ HB ay), (hx_ HB ax), (hx_ HB aw), (hx_ HB aF), (hx_ HB aE), (hx_ HB aD), (hx_ HB aC), (hx_ HB aB), (hx_ HB aK), (hx_ HB aJ), (hx_ HB aI), (hx_ HB aH), (hx_ HB aG)⟩ (fun hHeld => ?_); refine with_tabW ext_Filter.tab14 ext_Filter.bits14 (fun HT_ HW_ => ?_)
  generalize w40.drew = w42 at c HB bR bU bX J M O P Q U V W X Y Z aa ab ac ad hHeld ⊢
  refine pn_ 0 88 ao_ ?_
  refine pn_ 1 89 ao_ ?_
  refine pn_ 3 91 ao_ ?_
  refine pn_ 4 92 ao_ ?_
  refine pn_ 6 94 ao_ ?_
  refine pn_ 7 95 ao_ ?_
  refine tn_ 2 90 tw_ hHeld ?_
  refine tn_ 5 93 tw_ hHeld ?_
  refine tn_ 8 96 tw_ hHeld ?_
  refine onn_ 9 97 #[true, true, true, true, true, true, true, true, true, true, false, false, false, false, false] rfl rfl on_ (by decide) (fun K hK => ?_)
  refine goes_ Tryz.func32 kr_ rfl #[.agg #[.int .i64 ((rd_T61 b 0).f0), .slice b9 ((rd_T61 b 0).f1).length c449_1, .int .i64 ((rd_T61 b 0).f2), .int .i64 ((rd_T61 b 0).f3), .int .i64 ((rd_T61 b 0).f4)], .agg #[.int .i64 ((rd_T61 b 1).f0), .slice ca ((rd_T61 b 1).f1).length c450_1, .int .i64 ((rd_T61 b 1).f2), .int .i64 ((rd_T61 b 1).f3), .int .i64 ((rd_T61 b 1).f4)], .agg #[.int .i64 ((rd_T61 b 2).f0), .slice cb ((rd_T61 b 2).f1).length c451_1, .int .i64 ((rd_T61 b 2).f2), .int .i64 ((rd_T61 b 2).f3), .int .i64 ((rd_T61 b 2).f4)], .func (.func 33) #[] #[]] (by rfl) rfl rfl ar_ ?_
  with_reducible refine (pPairs.calls (.inl rfl) ext_Filter_1.calls k ((rd_T61 b 0).f0) _ _ ((rd_T61 b 0).f1) ((rd_T61 b 0).f2) ((rd_T61 b 0).f3) ((rd_T61 b 0).f4) ((rd_T61 b 1).f0) _ _ ((rd_T61 b 1).f1) ((rd_T61 b 1).f2) ((rd_T61 b 1).f3) ((rd_T61 b 1).f4) ((rd_T61 b 2).f0) _ _ ((rd_T61 b 2).f1) ((rd_T61 b 2).f2) ((rd_T61 b 2).f3) ((rd_T61 b 2).f4) dA false _ ?_ ?_ ?_ ?_ ?_ ?_ ?_ dS.out).mono ?_
  exact ca_ ((cb_ bR.out HB.out))
  exact cE.out
  exact ca_ ((cb_ bU.out HB.out))
  exact cF.out
  exact ca_ ((cb_ bX.out HB.out))
  exact cG.out
  exact ca_ ((cb_ HRtab.out HB.out))
  rintro e w43 ⟨d0, rfl, b8, hb⟩
  refine ⟨_, rfl, ?_⟩
  replace HB := hq_ hb
  clear hb b8
  refine hK.out _ _ ⟨(hx_ HB aA), (hx_ HB az), (hx_ HB ay), (hx_ HB ax), (hx_ HB aw), (hx_ HB aF), (hx_ HB aE), (hx_ HB aD), (hx_ HB aC), (hx_ HB aB), (hx_ HB aK), (hx_ HB aJ), (hx_ HB aI), (hx_ HB aH), (hx_ HB aG)⟩ (fun hHeld => ?_)
  clear hK K
  refine nor_ (N := some 97) ?_
  refine pn_ 10 87 ao_ ?_
  refine pn_ 11 98 ao_ ?_
  refine pn_ 12 99 ao_ ?_
  refine pn_ 13 7 ao_ ?_
  refine pn_ 14 8 ao_ ?_
  refine done_ dn_ ?_
  try go_wp2
  go_ret2
  exact ⟨_, er_, by first | exact Kd.S_nil _ _ _ _ _ | exact Kd.N_nil _ _ _ _ _ | exact Kd.V_nil _ _ _ _ _ | exact Kd.Q_nil _ _ _ _ _ | exact Kd.R_nil _ _ _ _ _, bel_⟩
 rw [ig_ c20] at H
 have c20b0 : (av == 9) = false := be_.mpr c20
 have c20b1 : (av != 9) = true := ni_.mpr c20
 by_cases c44 : 2 < (b.length : Int)
 rotate_left
 ·
  rw [ig_ c44] at H
  exact ab_ H
 rw [ip_ c44] at H
 have c44b0 : decide (2 < (b.length : Int)) = true := dt_ c44
 have c44b1 : decide (2 < b.length) = true := dt_ (by omega)
 clear c44
 replace H := bs_.mp H
 obtain ⟨⟨dC, d1⟩, dD, H⟩ := H
 try dsimp only at H
 have dT := a_ dD
 clear dD
 by_cases c46 : d1 = true
 ·
  subst c46
  rw [ip_ rfl] at H
  simp only [Option.some.injEq, Prod.mk.injEq] at H
  obtain ⟨rfl, rfl⟩ := H
  go_enter Tryz.func10, Tryz.ntmps10
  try go_wp2_with (first | ((with_reducible refine gate_dst (N := 2) rfl ?_); refine bxe_ (N := 2) (cs := #[.int .i64 av, .slice bv a1.length c0_1, .slice bw a2.length c0_2, .slice bx a3.length c0_3, .slice bz a4.length c0_4, .slice bA a5.length c0_5, .int .i64 a8, .slice bB a6.length c0_7]) (t := 32) ?_; intro bf hg w47 hbox hb; have c := a_ (hbox); have bC := a_ (by rw [hg]; exact (bz_ bel_) : w.heap.size ≤ bf); have cB := bC; replace HB := hq_ hb; clear hb hbox hg; obtain ⟨_, _, _, _, _, _, _, _, _, _, _, _, _, _, _, _⟩ := cel8_ c.out) | ((with_reducible refine gate_callee (f := 27) rfl ?_); refine goesL_ (some 11) rfl rfl Tryz.func27 kr_ rfl #[.agg #[.int .i64 av, .slice bv a1.length c0_1, .slice bw a2.length c0_2, .slice bx a3.length c0_3, .slice bz a4.length c0_4, .slice bA a5.length c0_5, .int .i64 a8, .slice bB a6.length c0_7], .slice A1 b.length c1, .int .i64 8, .int .i64 10] rfl ar_ ?_; (with_reducible refine (prop_Fits.calls k av _ _ a1 _ _ a2 _ _ a3 _ _ a4 _ _ a5 a8 _ _ a6 _ _ b 8 10 true _ ?_ ?_ ?_ ?_ ?_ ?_ ?_ ?_ ?_ ?_ ?_ ?_ ?_ ?_ A3.out).mono ?_); exact ca_ ((cb_ cf.out HB.out)); exact cg.out; exact ca_ ((cb_ ch.out HB.out)); exact ci.out; exact ca_ ((cb_ cj.out HB.out)); exact ck.out; exact ca_ ((cb_ cl.out HB.out)); exact cm.out; exact ca_ ((cb_ cn.out HB.out)); exact co.out; exact ca_ ((cb_ cp.out HB.out)); exact cq.out; exact ca_ ((cb_ a7.out HB.out)); exact cK.out; rintro e w49 ⟨rfl, hb⟩; refine ⟨_, rfl, ?_⟩; replace c := a_ (bq_ c.out hb); replace HB := hq_ hb; clear hb; obtain ⟨_, _, _, _, _, _, _, _, _, _, _, _, _, _, _, _⟩ := cel8_ c.out))
  replace c := a_ (blk_drew c.out)
  replace HB := a_ (below_drew1 HB.out)
  have p445 : 0 ≤ (0 : Int) := (by omega)
  have bi : 0 < (b.length : Int) := dq_
  obtain ⟨a, bg, c445_1, ct, v, x, y, z, A, a9, ba⟩ := at_T61 a7.out 0 p445 bi
  have d := A
  (try rw [t0_] at d)
  (try rw [n05_] at d)
  (try rw [Addr.add_zero'] at d)
  have g := z
  (try rw [t0_] at g)
  (try rw [n05_] at g)
  (try rw [Addr.add_zero'] at g)
  have l := y
  (try rw [t0_] at l)
  (try rw [n05_] at l)
  (try rw [Addr.add_zero'] at l)
  have m := x
  (try rw [t0_] at m)
  (try rw [n05_] at m)
  (try rw [Addr.add_zero'] at m)
  have o := v
  (try rw [t0_] at o)
  (try rw [n05_] at o)
  (try rw [Addr.add_zero'] at o)
  cases ct
  have cR : (0 < b.length) = True := et_ (by omega)
  (try rw [t0_] at v)
  (try rw [n05_] at v)
  (try rw [Addr.add_zero'] at v)
  (try rw [t0_] at x)
  (try rw [n05_] at x)
  (try rw [Addr.add_zero'] at x)
  (try rw [t0_] at y)
  (try rw [n05_] at y)
  (try rw [Addr.add_zero'] at y)
  (try rw [t0_] at z)
  (try rw [n05_] at z)
  (try rw [Addr.add_zero'] at z)
  (try rw [t0_] at A)
  (try rw [n05_] at A)
  (try rw [Addr.add_zero'] at A)
  replace v := hx_ HB v
  replace x := hx_ HB x
  replace y := hx_ HB y
  replace z := hx_ HB z
  replace A := hx_ HB A
  have bb := a_ ba
  have bN := a_ a9
  clear ba a9
  replace p445 := et_ p445
  replace bi := et_ bi
  have p447 : 0 ≤ (1 : Int) := (by omega)
  have bj : 1 < (b.length : Int) := dq_
  obtain ⟨b7, bh, c447_1, cu, B, E, F, G, I, bc, bd⟩ := at_T61 a7.out 1 p447 bj
  have p := I
  (try rw [t1_] at p)
  (try rw [n15_] at p)
  (try simp only [Nat.reduceMul, Nat.reduceEqDiff, Go.Addr.add, ↓reduceIte] at p)
  have q := G
  (try rw [t1_] at q)
  (try rw [n15_] at q)
  (try simp only [Nat.reduceMul, Nat.reduceEqDiff, Go.Addr.add, ↓reduceIte] at q)
  have r := F
  (try rw [t1_] at r)
  (try rw [n15_] at r)
  (try simp only [Nat.reduceMul, Nat.reduceEqDiff, Go.Addr.add, ↓reduceIte] at r)
  have s := E
  (try rw [t1_] at s)
  (try rw [n15_] at s)
  (try simp only [Nat.reduceMul, Nat.reduceEqDiff, Go.Addr.add, ↓reduceIte] at s)
  have u := B
  (try rw [t1_] at u)
  (try rw [n15_] at u)
  (try simp only [Nat.reduceMul, Nat.reduceEqDiff, Go.Addr.add, ↓reduceIte] at u)
  obtain rfl : a = b7 := (by injection cu)
  (try simp only [t1_, Nat.reduceMul, Nat.reduceEqDiff, Go.Addr.add, ↓reduceIte] at B)
  (try simp only [t1_, Nat.reduceMul, Nat.reduceEqDiff, Go.Addr.add, ↓reduceIte] at E)
  (try simp only [t1_, Nat.reduceMul, Nat.reduceEqDiff, Go.Addr.add, ↓reduceIte] at F)
  (try simp only [t1_, Nat.reduceMul, Nat.reduceEqDiff, Go.Addr.add, ↓reduceIte] at G)
  (try simp only [t1_, Nat.reduceMul, Nat.reduceEqDiff, Go.Addr.add, ↓reduceIte] at I)
  have cS : (1 < b.length) = True := et_ (by omega)
  (try rw [t1_] at B)
  (try rw [n15_] at B)
  (try rw [t1_] at E)
  (try rw [n15_] at E)
  (try rw [t1_] at F)
  (try rw [n15_] at F)
  (try rw [t1_] at G)
  (try rw [n15_] at G)
  (try rw [t1_] at I)
  (try rw [n15_] at I)
  replace B := hx_ HB B
  replace E := hx_ HB E
  replace F := hx_ HB F
  replace G := hx_ HB G
  replace I := hx_ HB I
  have be := a_ bd
  have bO := a_ bc
  clear bd bc
  replace p447 := et_ p447
  replace bj := et_ bj
  refine start_ (n := 11) (S := fun w' => w'.cell? a = some (.int .i64 ((rd_T61 b 0).f0)) ∧ w'.cell? ⟨a.block, a.off + 1, none⟩ = some (.slice bg ((rd_T61 b 0).f1).length c445_1) ∧ w'.cell? ⟨a.block, a.off + 2, none⟩ = some (.int .i64 ((rd_T61 b 0).f2)) ∧ w'.cell? ⟨a.block, a.off + 3, none⟩ = some (.int .i64 ((rd_T61 b 0).f3)) ∧ w'.cell? ⟨a.block, a.off + 4, none⟩ = some (.int .i64 ((rd_T61 b 0).f4)) ∧ w'.cell? ⟨a.block, a.off + 5, none⟩ = some (.int .i64 ((rd_T61 b 1).f0)) ∧ w'.cell? ⟨a.block, a.off + 5 + 1, none⟩ = some (.slice bh ((rd_T61 b 1).f1).length c447_1) ∧ w'.cell? ⟨a.block, a.off + 5 + 2, none⟩ = some (.int .i64 ((rd_T61 b 1).f2)) ∧ w'.cell? ⟨a.block, a.off + 5 + 3, none⟩ = some (.int .i64 ((rd_T61 b 1).f3)) ∧ w'.cell? ⟨a.block, a.off + 5 + 4, none⟩ = some (.int .i64 ((rd_T61 b 1).f4))) (ds := []) #[false, false, false, false, false, false, false, false, false, false, false] kr_ rfl rfl ⟨(hx_ HB o), (hx_ HB m), (hx_ HB l), (hx_ HB g), (hx_ HB d), (hx_ HB u), (hx_ HB s), (hx_ HB r), (hx_ HB q), (hx_ HB p)⟩ (fun hHeld => ?_); refine with_tabW ext_Filter.tab5 ext_Filter.bits5 (fun HT_ HW_ => ?_)
  generalize w49.drew = w51 at c HB bb be v x y z A B E F G I hHeld ⊢
  refine pn_ 0 25 ao_ ?_
  refine pn_ 1 26 ao_ ?_
  refine pn_ 4 29 ao_ ?_
  refine pn_ 5 30 ao_ ?_
  refine tn_ 2 27 tw_ hHeld ?_
  refine tn_ 6 31 tw_ hHeld ?_
  refine onn_ 3 28 #[true, true, true, true, true, true, true, false, false, false, false] rfl rfl on_ (by decide) (fun K hK => ?_)
  refine goes_ Tryz.func29 kr_ rfl #[.agg #[.int .i64 ((rd_T61 b 0).f0), .slice bg ((rd_T61 b 0).f1).length c445_1, .int .i64 ((rd_T61 b 0).f2), .int .i64 ((rd_T61 b 0).f3), .int .i64 ((rd_T61 b 0).f4)]] (by rfl) rfl rfl ar_ ?_
  with_reducible refine (dom_Dom_Size.calls ((rd_T61 b 0).f0) _ _ ((rd_T61 b 0).f1) ((rd_T61 b 0).f2) ((rd_T61 b 0).f3) ((rd_T61 b 0).f4) cC _ ?_ ?_ dt.out).mono ?_
  exact ca_ ((cb_ bb.out HB.out))
  exact bN.out
  rintro e w52 ⟨rfl, hb⟩
  refine ⟨_, rfl, ?_⟩
  replace c := a_ (bq_ c.out hb)
  replace HB := hq_ hb
  clear hb
  refine hK.out _ _ ⟨(hx_ HB o), (hx_ HB m), (hx_ HB l), (hx_ HB g), (hx_ HB d), (hx_ HB u), (hx_ HB s), (hx_ HB r), (hx_ HB q), (hx_ HB p)⟩ (fun hHeld => ?_)
  clear hK K
  refine nor_ (N := some 28) ?_
  refine onn_ 7 32 #[true, true, true, true, true, true, true, true, false, false, false] rfl rfl on_ (by decide) (fun K hK => ?_)
  refine goes_ Tryz.func29 kr_ rfl #[.agg #[.int .i64 ((rd_T61 b 1).f0), .slice bh ((rd_T61 b 1).f1).length c447_1, .int .i64 ((rd_T61 b 1).f2), .int .i64 ((rd_T61 b 1).f3), .int .i64 ((rd_T61 b 1).f4)]] (by rfl) rfl rfl ar_ ?_
  with_reducible refine (dom_Dom_Size.calls ((rd_T61 b 1).f0) _ _ ((rd_T61 b 1).f1) ((rd_T61 b 1).f2) ((rd_T61 b 1).f3) ((rd_T61 b 1).f4) cD _ ?_ ?_ du.out).mono ?_
  exact ca_ ((cb_ be.out HB.out))
  exact bO.out
  rintro e w53 ⟨rfl, hb⟩
  refine ⟨_, rfl, ?_⟩
  replace c := a_ (bq_ c.out hb)
  replace HB := hq_ hb
  clear hb
  refine hK.out _ _ ⟨(hx_ HB o), (hx_ HB m), (hx_ HB l), (hx_ HB g), (hx_ HB d), (hx_ HB u), (hx_ HB s), (hx_ HB r), (hx_ HB q), (hx_ HB p)⟩ (fun hHeld => ?_)
  clear hK K
  refine nor_ (N := some 32) ?_
  refine pn_ 8 33 ao_ ?_
  refine pn_ 9 34 ao_ ?_
  refine pn_ 10 6 ao_ ?_
  refine done_ dn_ ?_
  obtain ⟨_, _, _, _, _, _, _, _, _, _, _, _, _, _, _, _⟩ := cel8_ c.out
  try go_wp2
  replace c := a_ (blk_drew c.out)
  replace HB := a_ (below_drew1 HB.out)
  have p456 : 0 ≤ (0 : Int) := (by omega)
  have cy : 0 < (b.length : Int) := dq_
  obtain ⟨cW, cc, c456_1, dc, ae, af, ag, ah, ai, bY, bZ⟩ := at_T61 a7.out 0 p456 cy
  have aL := ai
  (try rw [t0_] at aL)
  (try rw [n05_] at aL)
  (try rw [Addr.add_zero'] at aL)
  have aM := ah
  (try rw [t0_] at aM)
  (try rw [n05_] at aM)
  (try rw [Addr.add_zero'] at aM)
  have aN := ag
  (try rw [t0_] at aN)
  (try rw [n05_] at aN)
  (try rw [Addr.add_zero'] at aN)
  have aO := af
  (try rw [t0_] at aO)
  (try rw [n05_] at aO)
  (try rw [Addr.add_zero'] at aO)
  have aP := ae
  (try rw [t0_] at aP)
  (try rw [n05_] at aP)
  (try rw [Addr.add_zero'] at aP)
  obtain rfl : a = cW := (by injection dc)
  have dK : (0 < b.length) = True := et_ (by omega)
  (try rw [t0_] at ae)
  (try rw [n05_] at ae)
  (try rw [Addr.add_zero'] at ae)
  (try rw [t0_] at af)
  (try rw [n05_] at af)
  (try rw [Addr.add_zero'] at af)
  (try rw [t0_] at ag)
  (try rw [n05_] at ag)
  (try rw [Addr.add_zero'] at ag)
  (try rw [t0_] at ah)
  (try rw [n05_] at ah)
  (try rw [Addr.add_zero'] at ah)
  (try rw [t0_] at ai)
  (try rw [n05_] at ai)
  (try rw [Addr.add_zero'] at ai)
  replace ae := hx_ HB ae
  replace af := hx_ HB af
  replace ag := hx_ HB ag
  replace ah := hx_ HB ah
  replace ai := hx_ HB ai
  have b0 := a_ bZ
  have cH := a_ bY
  clear bZ bY
  replace p456 := et_ p456
  replace cy := et_ cy
  have p457 : 0 ≤ (1 : Int) := (by omega)
  have cz : 1 < (b.length : Int) := dq_
  obtain ⟨cX, cd, c457_1, dd, aj, ak, al, am, an, b1, b2⟩ := at_T61 a7.out 1 p457 cz
  have aQ := an
  (try rw [t1_] at aQ)
  (try rw [n15_] at aQ)
  (try simp only [Nat.reduceMul, Nat.reduceEqDiff, Go.Addr.add, ↓reduceIte] at aQ)
  have aR := am
  (try rw [t1_] at aR)
  (try rw [n15_] at aR)
  (try simp only [Nat.reduceMul, Nat.reduceEqDiff, Go.Addr.add, ↓reduceIte] at aR)
  have aS := al
  (try rw [t1_] at aS)
  (try rw [n15_] at aS)
  (try simp only [Nat.reduceMul, Nat.reduceEqDiff, Go.Addr.add, ↓reduceIte] at aS)
  have aT := ak
  (try rw [t1_] at aT)
  (try rw [n15_] at aT)
  (try simp only [Nat.reduceMul, Nat.reduceEqDiff, Go.Addr.add, ↓reduceIte] at aT)
  have aU := aj
  (try rw [t1_] at aU)
  (try rw [n15_] at aU)
  (try simp only [Nat.reduceMul, Nat.reduceEqDiff, Go.Addr.add, ↓reduceIte] at aU)
  obtain rfl : a = cX := (by injection dd)
  (try simp only [t1_, Nat.reduceMul, Nat.reduceEqDiff, Go.Addr.add, ↓reduceIte] at aj)
  (try simp only [t1_, Nat.reduceMul, Nat.reduceEqDiff, Go.Addr.add, ↓reduceIte] at ak)
  (try simp only [t1_, Nat.reduceMul, Nat.reduceEqDiff, Go.Addr.add, ↓reduceIte] at al)
  (try simp only [t1_, Nat.reduceMul, Nat.reduceEqDiff, Go.Addr.add, ↓reduceIte] at am)
  (try simp only [t1_, Nat.reduceMul, Nat.reduceEqDiff, Go.Addr.add, ↓reduceIte] at an)
  have dL : (1 < b.length) = True := et_ (by omega)
  (try rw [t1_] at aj)
  (try rw [n15_] at aj)
  (try rw [t1_] at ak)
  (try rw [n15_] at ak)
  (try rw [t1_] at al)
  (try rw [n15_] at al)
  (try rw [t1_] at am)
  (try rw [n15_] at am)
  (try rw [t1_] at an)
  (try rw [n15_] at an)
  replace aj := hx_ HB aj
  replace ak := hx_ HB ak
  replace al := hx_ HB al
  replace am := hx_ HB am
  replace an := hx_ HB an
  have b3 := a_ b2
  have cI := a_ b1
  clear b2 b1
  replace p457 := et_ p457
  replace cz := et_ cz
  have p458 : 0 ≤ (2 : Int) := (by omega)
  have cA : 2 < (b.length : Int) := dq_
  obtain ⟨cY, ce, c458_1, de, ao, ap, aq, ar, au, b4, b5⟩ := at_T61 a7.out 2 p458 cA
  have aV := au
  (try rw [t2_] at aV)
  (try rw [n25_] at aV)
  (try simp only [Nat.reduceMul, Nat.reduceEqDiff, Go.Addr.add, ↓reduceIte] at aV)
  have aW := ar
  (try rw [t2_] at aW)
  (try rw [n25_] at aW)
  (try simp only [Nat.reduceMul, Nat.reduceEqDiff, Go.Addr.add, ↓reduceIte] at aW)
  have aX := aq
  (try rw [t2_] at aX)
  (try rw [n25_] at aX)
  (try simp only [Nat.reduceMul, Nat.reduceEqDiff, Go.Addr.add, ↓reduceIte] at aX)
  have aY := ap
  (try rw [t2_] at aY)
  (try rw [n25_] at aY)
  (try simp only [Nat.reduceMul, Nat.reduceEqDiff, Go.Addr.add, ↓reduceIte] at aY)
  have aZ := ao
  (try rw [t2_] at aZ)
  (try rw [n25_] at aZ)
  (try simp only [Nat.reduceMul, Nat.reduceEqDiff, Go.Addr.add, ↓reduceIte] at aZ)
  obtain rfl : a = cY := (by injection de)
  (try simp only [t2_, Nat.reduceMul, Nat.reduceEqDiff, Go.Addr.add, ↓reduceIte] at ao)
  (try simp only [t2_, Nat.reduceMul, Nat.reduceEqDiff, Go.Addr.add, ↓reduceIte] at ap)
  (try simp only [t2_, Nat.reduceMul, Nat.reduceEqDiff, Go.Addr.add, ↓reduceIte] at aq)
  (try simp only [t2_, Nat.reduceMul, Nat.reduceEqDiff, Go.Addr.add, ↓reduceIte] at ar)
  (try simp only [t2_, Nat.reduceMul, Nat.reduceEqDiff, Go.Addr.add, ↓reduceIte] at au)
  have dM : (2 < b.length) = True := et_ (by omega)
  (try rw [t2_] at ao)
  (try rw [n25_] at ao)
  (try rw [t2_] at ap)
  (try rw [n25_] at ap)
  (try rw [t2_] at aq)
  (try rw [n25_] at aq)
  (try rw [t2_] at ar)
  (try rw [n25_] at ar)
  (try rw [t2_] at au)
  (try rw [n25_] at au)
  replace ao := hx_ HB ao
  replace ap := hx_ HB ap
  replace aq := hx_ HB aq
  replace ar := hx_ HB ar
  replace au := hx_ HB au
  have b6 := a_ b5
  have cJ := a_ b4
  clear b5 b4
  replace p458 := et_ p458
  replace cA := et_ cA
  refine start_ (n := 15) (S := fun w' => w'.cell? a = some (.int .i64 ((rd_T61 b 0).f0)) ∧ w'.cell? ⟨a.block, a.off + 1, none⟩ = some (.slice cc ((rd_T61 b 0).f1).length c456_1) ∧ w'.cell? ⟨a.block, a.off + 2, none⟩ = some (.int .i64 ((rd_T61 b 0).f2)) ∧ w'.cell? ⟨a.block, a.off + 3, none⟩ = some (.int .i64 ((rd_T61 b 0).f3)) ∧ w'.cell? ⟨a.block, a.off + 4, none⟩ = some (.int .i64 ((rd_T61 b 0).f4)) ∧ w'.cell? ⟨a.block, a.off + 5, none⟩ = some (.int .i64 ((rd_T61 b 1).f0)) ∧ w'.cell? ⟨a.block, a.off + 5 + 1, none⟩ = some (.slice cd ((rd_T61 b 1).f1).length c457_1) ∧ w'.cell? ⟨a.block, a.off + 5 + 2, none⟩ = some (.int .i64 ((rd_T61 b 1).f2)) ∧ w'.cell? ⟨a.block, a.off + 5 + 3, none⟩ = some (.int .i64 ((rd_T61 b 1).f3)) ∧ w'.cell? ⟨a.block, a.off + 5 + 4, none⟩ = some (.int .i64 ((rd_T61 b 1).f4)) ∧ w'.cell? ⟨a.block, a.off + 10, none⟩ = some (.int .i64 ((rd_T61 b 2).f0)) ∧ w'.cell? ⟨a.block, a.off + 10 + 1, none⟩ = some (.slice ce ((rd_T61 b 2).f1).length c458_1) ∧ w'.cell? ⟨a.block, a.off + 10 + 2, none⟩ = some (.int .i64 ((rd_T61 b 2).f2)) ∧ w'.cell? ⟨a.block, a.off + 10 + 3, none⟩ = some (.int .i64 ((rd_T61 b 2).f3)) ∧ w'.cell? ⟨a.block, a.off + 10 + 4, none⟩ = some (.int .i64 ((rd_T61 b 2).f4))) (ds := []) #[false, false, false, false, false, false, false, false, false, false, false, false, false, false, false] kr_ rfl rfl ⟨(hx_ HB aP), (hx_ HB aO), (hx_ HB aN), (hx_ HB aM), (hx_ HB aL), (hx_ HB aU), (hx_ HB aT), (hx_ HB aS), (hx_ HB aR), (hx_ HB aQ), (hx_ HB aZ), (hx_ HB aY), (hx_ HB aX), (hx_ HB aW), (hx_ HB aV)⟩ (fun hHeld => ?_); refine with_tabW ext_Filter.tab8 ext_Filter.bits8 (fun HT_ HW_ => ?_)
  generalize w53.drew = w55 at c HB b0 b3 b6 ae af ag ah ai aj ak al am an ao ap aq ar au hHeld ⊢
  refine pn_ 0 36 ao_ ?_
  refine pn_ 1 37 ao_ ?_
  refine pn_ 3 39 ao_ ?_
  refine pn_ 4 40 ao_ ?_
  refine pn_ 6 42 ao_ ?_
  refine pn_ 7 43 ao_ ?_
  refine tn_ 2 38 tw_ hHeld ?_
  refine tn_ 5 41 tw_ hHeld ?_
  refine tn_ 8 44 tw_ hHeld ?_
  refine onn_ 9 45 #[true, true, true, true, true, true, true, true, true, true, false, false, false, false, false] rfl rfl on_ (by decide) (fun K hK => ?_)
  refine goes_ Tryz.func32 kr_ rfl #[.agg #[.int .i64 ((rd_T61 b 0).f0), .slice cc ((rd_T61 b 0).f1).length c456_1, .int .i64 ((rd_T61 b 0).f2), .int .i64 ((rd_T61 b 0).f3), .int .i64 ((rd_T61 b 0).f4)], .agg #[.int .i64 ((rd_T61 b 1).f0), .slice cd ((rd_T61 b 1).f1).length c457_1, .int .i64 ((rd_T61 b 1).f2), .int .i64 ((rd_T61 b 1).f3), .int .i64 ((rd_T61 b 1).f4)], .agg #[.int .i64 ((rd_T61 b 2).f0), .slice ce ((rd_T61 b 2).f1).length c458_1, .int .i64 ((rd_T61 b 2).f2), .int .i64 ((rd_T61 b 2).f3), .int .i64 ((rd_T61 b 2).f4)], .func (.func 34) #[] #[]] (by rfl) rfl rfl ar_ ?_
  with_reducible refine (pPairs.calls (.inr rfl) ext_Filter_2.calls k ((rd_T61 b 0).f0) _ _ ((rd_T61 b 0).f1) ((rd_T61 b 0).f2) ((rd_T61 b 0).f3) ((rd_T61 b 0).f4) ((rd_T61 b 1).f0) _ _ ((rd_T61 b 1).f1) ((rd_T61 b 1).f2) ((rd_T61 b 1).f3) ((rd_T61 b 1).f4) ((rd_T61 b 2).f0) _ _ ((rd_T61 b 2).f1) ((rd_T61 b 2).f2) ((rd_T61 b 2).f3) ((rd_T61 b 2).f4) dC true _ ?_ ?_ ?_ ?_ ?_ ?_ ?_ dT.out).mono ?_
  exact ca_ ((cb_ b0.out HB.out))
  exact cH.out
  exact ca_ ((cb_ b3.out HB.out))
  exact cI.out
  exact ca_ ((cb_ b6.out HB.out))
  exact cJ.out
  exact ca_ ((cb_ HRtab.out HB.out))
  rintro e w56 ⟨d2, rfl, b8, hb⟩
  refine ⟨_, rfl, ?_⟩
  have dN := a_ (Kd.N_lower (nm_ (ok' := fun k_ => (w.heap.size ≤ k_) ∧ k_ ≠ bf) b8 (fun k_ hk_ => ⟨(Nat.le_trans (bz_ bel_) hk_), (Kd.freshB (bk_ c.out) k_ hk_)⟩)) (bz_ bel_))
  replace c := a_ (bq_ c.out hb)
  replace HB := hq_ hb
  clear hb b8
  refine hK.out _ _ ⟨(hx_ HB aP), (hx_ HB aO), (hx_ HB aN), (hx_ HB aM), (hx_ HB aL), (hx_ HB aU), (hx_ HB aT), (hx_ HB aS), (hx_ HB aR), (hx_ HB aQ), (hx_ HB aZ), (hx_ HB aY), (hx_ HB aX), (hx_ HB aW), (hx_ HB aV)⟩ (fun hHeld => ?_)
  clear hK K
  refine nor_ (N := some 45) ?_
  refine pn_ 10 35 ao_ ?_
  refine pn_ 11 46 ao_ ?_
  refine pn_ 12 47 ao_ ?_
  refine pn_ 13 7 ao_ ?_
  refine pn_ 14 8 ao_ ?_
  refine done_ dn_ ?_
  try go_wp2
  go_ret2
  exact ⟨_, er_, by refine vN_ ?_; exact nm_ dN.out (fun _ hk => hk.1), bel_⟩
 replace c46 := bf_.mpr c46
 subst c46
 have H1 : (some (([] : List (S61)), false)) = some (r1, r2) := by rw [ig_ (show ¬ (false = true) by decide)] at H; exact H
 clear H
 have H := H1
 clear H1
 simp only [Option.some.injEq, Prod.mk.injEq] at H
 obtain ⟨rfl, rfl⟩ := H
 go_enter Tryz.func10, Tryz.ntmps10
 try go_wp2_with (first | ((with_reducible refine gate_dst (N := 2) rfl ?_); refine bxe_ (N := 2) (cs := #[.int .i64 av, .slice bv a1.length c0_1, .slice bw a2.length c0_2, .slice bx a3.length c0_3, .slice bz a4.length c0_4, .slice bA a5.length c0_5, .int .i64 a8, .slice bB a6.length c0_7]) (t := 32) ?_; intro bf hg w57 hbox hb; have c := a_ (hbox); have bC := a_ (by rw [hg]; exact (bz_ bel_) : w.heap.size ≤ bf); have cB := bC; replace HB := hq_ hb; clear hb hbox hg; obtain ⟨_, _, _, _, _, _, _, _, _, _, _, _, _, _, _, _⟩ := cel8_ c.out) | ((with_reducible refine gate_callee (f := 27) rfl ?_); refine goesL_ (some 11) rfl rfl Tryz.func27 kr_ rfl #[.agg #[.int .i64 av, .slice bv a1.length c0_1, .slice bw a2.length c0_2, .slice bx a3.length c0_3, .slice bz a4.length c0_4, .slice bA a5.length c0_5, .int .i64 a8, .slice bB a6.length c0_7], .slice A1 b.length c1, .int .i64 8, .int .i64 10] rfl ar_ ?_; (with_reducible refine (prop_Fits.calls k av _ _ a1 _ _ a2 _ _ a3 _ _ a4 _ _ a5 a8 _ _ a6 _ _ b 8 10 true _ ?_ ?_ ?_ ?_ ?_ ?_ ?_ ?_ ?_ ?_ ?_ ?_ ?_ ?_ A3.out).mono ?_); exact ca_ ((cb_ cf.out HB.out)); exact cg.out; exact ca_ ((cb_ ch.out HB.out)); exact ci.out; exact ca_ ((cb_ cj.out HB.out)); exact ck.out; exact ca_ ((cb_ cl.out HB.out)); exact cm.out; exact ca_ ((cb_ cn.out HB.out)); exact co.out; exact ca_ ((cb_ cp.out HB.out)); exact cq.out; exact ca_ ((cb_ a7.out HB.out)); exact cK.out; rintro e w59 ⟨rfl, hb⟩; refine ⟨_, rfl, ?_⟩; replace c := a_ (bq_ c.out hb); replace HB := hq_ hb; clear hb; obtain ⟨_, _, _, _, _, _, _, _, _, _, _, _, _, _, _, _⟩ := cel8_ c.out))
 replace c := a_ (blk_drew c.out)
 replace HB := a_ (below_drew1 HB.out)
 have p445 : 0 ≤ (0 : Int) := (by omega)
 have bi : 0 < (b.length : Int) := dq_
 obtain ⟨a, bg, c445_1, ct, v, x, y, z, A, a9, ba⟩ := at_T61 a7.out 0 p445 bi
 have d := A
 (try rw [t0_] at d)
 (try rw [n05_] at d)
 (try rw [Addr.add_zero'] at d)
 have g := z
 (try rw [t0_] at g)
 (try rw [n05_] at g)
 (try rw [Addr.add_zero'] at g)
 have l := y
 (try rw [t0_] at l)
 (try rw [n05_] at l)
 (try rw [Addr.add_zero'] at l)
 have m := x
 (try rw [t0_] at m)
 (try rw [n05_] at m)
 (try rw [Addr.add_zero'] at m)
 have o := v
 (try rw [t0_] at o)
 (try rw [n05_] at o)
 (try rw [Addr.add_zero'] at o)
 cases ct
 have cR : (0 < b.length) = True := et_ (by omega)
 (try rw [t0_] at v)
 (try rw [n05_] at v)
 (try rw [Addr.add_zero'] at v)
 (try rw [t0_] at x)
 (try rw [n05_] at x)
 (try rw [Addr.add_zero'] at x)
 (try rw [t0_] at y)
 (try rw [n05_] at y)
 (try rw [Addr.add_zero'] at y)
 (try rw [t0_] at z)
 (try rw [n05_] at z)
 (try rw [Addr.add_zero'] at z)
 (try rw [t0_] at A)
 (try rw [n05_] at A)
 (try rw [Addr.add_zero'] at A)
 replace v := hx_ HB v
 replace x := hx_ HB x
 replace y := hx_ HB y
 replace z := hx_ HB z
 replace A := hx_ HB A
 have bb := a_ ba
 have bN := a_ a9
 clear ba a9
 replace p445 := et_ p445
 replace bi := et_ bi
 have p447 : 0 ≤ (1 : Int) := (by omega)
 have bj : 1 < (b.length : Int) := dq_
 obtain ⟨b7, bh, c447_1, cu, B, E, F, G, I, bc, bd⟩ := at_T61 a7.out 1 p447 bj
 have p := I
 (try rw [t1_] at p)
 (try rw [n15_] at p)
 (try simp only [Nat.reduceMul, Nat.reduceEqDiff, Go.Addr.add, ↓reduceIte] at p)
 have q := G
 (try rw [t1_] at q)
 (try rw [n15_] at q)
 (try simp only [Nat.reduceMul, Nat.reduceEqDiff, Go.Addr.add, ↓reduceIte] at q)
 have r := F
 (try rw [t1_] at r)
 (try rw [n15_] at r)
 (try simp only [Nat.reduceMul, Nat.reduceEqDiff, Go.Addr.add, ↓reduceIte] at r)
 have s := E
 (try rw [t1_] at s)
 (try rw [n15_] at s)
 (try simp only [Nat.reduceMul, Nat.reduceEqDiff, Go.Addr.add, ↓reduceIte] at s)
 have u := B
 (try rw [t1_] at u)
 (try rw [n15_] at u)
 (try simp only [Nat.reduceMul, Nat.reduceEqDiff, Go.Addr.add, ↓reduceIte] at u)
 obtain rfl : a = b7 := (by injection cu)
 (try simp only [t1_, Nat.reduceMul, Nat.reduceEqDiff, Go.Addr.add, ↓reduceIte] at B)
 (try simp only [t1_, Nat.reduceMul, Nat.reduceEqDiff, Go.Addr.add, ↓reduceIte] at E)
 (try simp only [t1_, Nat.reduceMul, Nat.reduceEqDiff, Go.Addr.add, ↓reduceIte] at F)
 (try simp only [t1_, Nat.reduceMul, Nat.reduceEqDiff, Go.Addr.add, ↓reduceIte] at G)
 (try simp only [t1_, Nat.reduceMul, Nat.reduceEqDiff, Go.Addr.add, ↓reduceIte] at I)
 have cS : (1 < b.length) = True := et_ (by omega)
 (try rw [t1_] at B)
 (try rw [n15_] at B)
 (try rw [t1_] at E)
 (try rw [n15_] at E)
 (try rw [t1_] at F)
 (try rw [n15_] at F)
 (try rw [t1_] at G)
 (try rw [n15_] at G)
 (try rw [t1_] at I)
 (try rw [n15_] at I)
 replace B := hx_ HB B
 replace E := hx_ HB E
 replace F := hx_ HB F
 replace G := hx_ HB G
 replace I := hx_ HB I
 have be := a_ bd
 have bO := a_ bc
 clear bd bc
 replace p447 := et_ p447
 replace bj := et_ bj
 refine start_ (n := 11) (S := fun w' => w'.cell? a = some (.int .i64 ((rd_T61 b 0).f0)) ∧ w'.cell? ⟨a.block, a.off + 1, none⟩ = some (.slice bg ((rd_T61 b 0).f1).length c445_1) ∧ w'.cell? ⟨a.block, a.off + 2, none⟩ = some (.int .i64 ((rd_T61 b 0).f2)) ∧ w'.cell? ⟨a.block, a.off + 3, none⟩ = some (.int .i64 ((rd_T61 b 0).f3)) ∧ w'.cell? ⟨a.block, a.off + 4, none⟩ = some (.int .i64 ((rd_T61 b 0).f4)) ∧ w'.cell? ⟨a.block, a.off + 5, none⟩ = some (.int .i64 ((rd_T61 b 1).f0)) ∧ w'.cell? ⟨a.block, a.off + 5 + 1, none⟩ = some (.slice bh ((rd_T61 b 1).f1).length c447_1) ∧ w'.cell? ⟨a.block, a.off + 5 + 2, none⟩ = some (.int .i64 ((rd_T61 b 1).f2)) ∧ w'.cell? ⟨a.block, a.off + 5 + 3, none⟩ = some (.int .i64 ((rd_T61 b 1).f3)) ∧ w'.cell? ⟨a.block, a.off + 5 + 4, none⟩ = some (.int .i64 ((rd_T61 b 1).f4))) (ds := []) #[false, false, false, false, false, false, false, false, false, false, false] kr_ rfl rfl ⟨(hx_ HB o), (hx_ HB m), (hx_ HB l), (hx_ HB g), (hx_ HB d), (hx_ HB u), (hx_ HB s), (hx_ HB r), (hx_ HB q), (hx_ HB p)⟩ (fun hHeld => ?_); refine with_tabW ext_Filter.tab5 ext_Filter.bits5 (fun HT_ HW_ => ?_)
 generalize w59.drew = w61 at c HB bb be v x y z A B E F G I hHeld ⊢
 refine pn_ 0 25 ao_ ?_
 refine pn_ 1 26 ao_ ?_
 refine pn_ 4 29 ao_ ?_
 refine pn_ 5 30 ao_ ?_
 refine tn_ 2 27 tw_ hHeld ?_
 refine tn_ 6 31 tw_ hHeld ?_
 refine onn_ 3 28 #[true, true, true, true, true, true, true, false, false, false, false] rfl rfl on_ (by decide) (fun K hK => ?_)
 refine goes_ Tryz.func29 kr_ rfl #[.agg #[.int .i64 ((rd_T61 b 0).f0), .slice bg ((rd_T61 b 0).f1).length c445_1, .int .i64 ((rd_T61 b 0).f2), .int .i64 ((rd_T61 b 0).f3), .int .i64 ((rd_T61 b 0).f4)]] (by rfl) rfl rfl ar_ ?_
 with_reducible refine (dom_Dom_Size.calls ((rd_T61 b 0).f0) _ _ ((rd_T61 b 0).f1) ((rd_T61 b 0).f2) ((rd_T61 b 0).f3) ((rd_T61 b 0).f4) cC _ ?_ ?_ dt.out).mono ?_
 exact ca_ ((cb_ bb.out HB.out))
 exact bN.out
 rintro e w62 ⟨rfl, hb⟩
 refine ⟨_, rfl, ?_⟩
 replace c := a_ (bq_ c.out hb)
 replace HB := hq_ hb
 clear hb
 refine hK.out _ _ ⟨(hx_ HB o), (hx_ HB m), (hx_ HB l), (hx_ HB g), (hx_ HB d), (hx_ HB u), (hx_ HB s), (hx_ HB r), (hx_ HB q), (hx_ HB p)⟩ (fun hHeld => ?_)
 clear hK K
 refine nor_ (N := some 28) ?_
 refine onn_ 7 32 #[true, true, true, true, true, true, true, true, false, false, false] rfl rfl on_ (by decide) (fun K hK => ?_)
 refine goes_ Tryz.func29 kr_ rfl #[.agg #[.int .i64 ((rd_T61 b 1).f0), .slice bh ((rd_T61 b 1).f1).length c447_1, .int .i64 ((rd_T61 b 1).f2), .int .i64 ((rd_T61 b 1).f3), .int .i64 ((rd_T61 b 1).f4)]] (by rfl) rfl rfl ar_ ?_
 with_reducible refine (dom_Dom_Size.calls ((rd_T61 b 1).f0) _ _ ((rd_T61 b 1).f1) ((rd_T61 b 1).f2) ((rd_T61 b 1).f3) ((rd_T61 b 1).f4) cD _ ?_ ?_ du.out).mono ?_
 exact ca_ ((cb_ be.out HB.out))
 exact bO.out
 rintro e w63 ⟨rfl, hb⟩
 refine ⟨_, rfl, ?_⟩
 replace c := a_ (bq_ c.out hb)
 replace HB := hq_ hb
 clear hb
 refine hK.out _ _ ⟨(hx_ HB o), (hx_ HB m), (hx_ HB l), (hx_ HB g), (hx_ HB d), (hx_ HB u), (hx_ HB s), (hx_ HB r), (hx_ HB q), (hx_ HB p)⟩ (fun hHeld => ?_)
 clear hK K
 refine nor_ (N := some 32) ?_
 refine pn_ 8 33 ao_ ?_
 refine pn_ 9 34 ao_ ?_
 refine pn_ 10 6 ao_ ?_
 refine done_ dn_ ?_
 obtain ⟨_, _, _, _, _, _, _, _, _, _, _, _, _, _, _, _⟩ := cel8_ c.out
 try go_wp2
 replace HB := a_ (below_drew1 HB.out)
 have p456 : 0 ≤ (0 : Int) := (by omega)
 have cy : 0 < (b.length : Int) := dq_
 obtain ⟨cW, cc, c456_1, dc, ae, af, ag, ah, ai, bY, bZ⟩ := at_T61 a7.out 0 p456 cy
 have aL := ai
 (try rw [t0_] at aL)
 (try rw [n05_] at aL)
 (try rw [Addr.add_zero'] at aL)
 have aM := ah
 (try rw [t0_] at aM)
 (try rw [n05_] at aM)
 (try rw [Addr.add_zero'] at aM)
 have aN := ag
 (try rw [t0_] at aN)
 (try rw [n05_] at aN)
 (try rw [Addr.add_zero'] at aN)
 have aO := af
 (try rw [t0_] at aO)
 (try rw [n05_] at aO)
 (try rw [Addr.add_zero'] at aO)
 have aP := ae
 (try rw [t0_] at aP)
 (try rw [n05_] at aP)
 (try rw [Addr.add_zero'] at aP)
 obtain rfl : a = cW := (by injection dc)
 have dK : (0 < b.length) = True := et_ (by omega)
 (try rw [t0_] at ae)
 (try rw [n05_] at ae)
 (try rw [Addr.add_zero'] at ae)
 (try rw [t0_] at af)
 (try rw [n05_] at af)
 (try rw [Addr.add_zero'] at af)
 (try rw [t0_] at ag)
 (try rw [n05_] at ag)
 (try rw [Addr.add_zero'] at ag)
 (try rw [t0_] at ah)
 (try rw [n05_] at ah)
 (try rw [Addr.add_zero'] at ah)
 (try rw [t0_] at ai)
 (try rw [n05_] at ai)
 (try rw [Addr.add_zero'] at ai)
 replace ae := hx_ HB ae
 replace af := hx_ HB af
 replace ag := hx_ HB ag
 replace ah := hx_ HB ah
 replace ai := hx_ HB ai
 have b0 := a_ bZ
 have cH := a_ bY
 clear bZ bY
 replace p456 := et_ p456
 replace cy := et_ cy
 have p457 : 0 ≤ (1 : Int) := (by omega)
 have cz : 1 < (b.length : Int) := dq_
 obtain ⟨cX, cd, c457_1, dd, aj, ak, al, am, an, b1, b2⟩ := at_T61 a7.out 1 p457 cz
 have aQ := an
 (try rw [t1_] at aQ)
 (try rw [n15_] at aQ)
 (try simp only [Nat.reduceMul, Nat.reduceEqDiff, Go.Addr.add, ↓reduceIte] at aQ)
 have aR := am
 (try rw [t1_] at aR)
 (try rw [n15_] at aR)
 (try simp only [Nat.reduceMul, Nat.reduceEqDiff, Go.Addr.add, ↓reduceIte] at aR)
 have aS := al
 (try rw [t1_] at aS)
 (try rw [n15_] at aS)
 (try simp only [Nat.reduceMul, Nat.reduceEqDiff, Go.Addr.add, ↓reduceIte] at aS)
 have aT := ak
 (try rw [t1_] at aT)
 (try rw [n15_] at aT)
 (try simp only [Nat.reduceMul, Nat.reduceEqDiff, Go.Addr.add, ↓reduceIte] at aT)
 have aU := aj
 (try rw [t1_] at aU)
 (try rw [n15_] at aU)
 (try simp only [Nat.reduceMul, Nat.reduceEqDiff, Go.Addr.add, ↓reduceIte] at aU)
 obtain rfl : a = cX := (by injection dd)
 (try simp only [t1_, Nat.reduceMul, Nat.reduceEqDiff, Go.Addr.add, ↓reduceIte] at aj)
 (try simp only [t1_, Nat.reduceMul, Nat.reduceEqDiff, Go.Addr.add, ↓reduceIte] at ak)
 (try simp only [t1_, Nat.reduceMul, Nat.reduceEqDiff, Go.Addr.add, ↓reduceIte] at al)
 (try simp only [t1_, Nat.reduceMul, Nat.reduceEqDiff, Go.Addr.add, ↓reduceIte] at am)
 (try simp only [t1_, Nat.reduceMul, Nat.reduceEqDiff, Go.Addr.add, ↓reduceIte] at an)
 have dL : (1 < b.length) = True := et_ (by omega)
 (try rw [t1_] at aj)
 (try rw [n15_] at aj)
 (try rw [t1_] at ak)
 (try rw [n15_] at ak)
 (try rw [t1_] at al)
 (try rw [n15_] at al)
 (try rw [t1_] at am)
 (try rw [n15_] at am)
 (try rw [t1_] at an)
 (try rw [n15_] at an)
 replace aj := hx_ HB aj
 replace ak := hx_ HB ak
 replace al := hx_ HB al
 replace am := hx_ HB am
 replace an := hx_ HB an
 have b3 := a_ b2
 have cI := a_ b1
 clear b2 b1
 replace p457 := et_ p457
 replace cz := et_ cz
 have p458 : 0 ≤ (2 : Int) := (by omega)
 have cA : 2 < (b.length : Int) := dq_
 obtain ⟨cY, ce, c458_1, de, ao, ap, aq, ar, au, b4, b5⟩ := at_T61 a7.out 2 p458 cA
 have aV := au
 (try rw [t2_] at aV)
 (try rw [n25_] at aV)
 (try simp only [Nat.reduceMul, Nat.reduceEqDiff, Go.Addr.add, ↓reduceIte] at aV)
 have aW := ar
 (try rw [t2_] at aW)
 (try rw [n25_] at aW)
 (try simp only [Nat.reduceMul, Nat.reduceEqDiff, Go.Addr.add, ↓reduceIte] at aW)
 have aX := aq
 (try rw [t2_] at aX)
 (try rw [n25_] at aX)
 (try simp only [Nat.reduceMul, Nat.reduceEqDiff, Go.Addr.add, ↓reduceIte] at aX)
 have aY := ap
 (try rw [t2_] at aY)
 (try rw [n25_] at aY)
 (try simp only [Nat.reduceMul, Nat.reduceEqDiff, Go.Addr.add, ↓reduceIte] at aY)
 have aZ := ao
 (try rw [t2_] at aZ)
 (try rw [n25_] at aZ)
 (try simp only [Nat.reduceMul, Nat.reduceEqDiff, Go.Addr.add, ↓reduceIte] at aZ)
 obtain rfl : a = cY := (by injection de)
 (try simp only [t2_, Nat.reduceMul, Nat.reduceEqDiff, Go.Addr.add, ↓reduceIte] at ao)
 (try simp only [t2_, Nat.reduceMul, Nat.reduceEqDiff, Go.Addr.add, ↓reduceIte] at ap)
 (try simp only [t2_, Nat.reduceMul, Nat.reduceEqDiff, Go.Addr.add, ↓reduceIte] at aq)
 (try simp only [t2_, Nat.reduceMul, Nat.reduceEqDiff, Go.Addr.add, ↓reduceIte] at ar)
 (try simp only [t2_, Nat.reduceMul, Nat.reduceEqDiff, Go.Addr.add, ↓reduceIte] at au)
 have dM : (2 < b.length) = True := et_ (by omega)
 (try rw [t2_] at ao)
 (try rw [n25_] at ao)
 (try rw [t2_] at ap)
 (try rw [n25_] at ap)
 (try rw [t2_] at aq)
 (try rw [n25_] at aq)
 (try rw [t2_] at ar)
 (try rw [n25_] at ar)
 (try rw [t2_] at au)
 (try rw [n25_] at au)
 replace ao := hx_ HB ao
 replace ap := hx_ HB ap
 replace aq := hx_ HB aq
 replace ar := hx_ HB ar
 replace au := hx_ HB au
 have b6 := a_ b5
 have cJ := a_ b4
 clear b5 b4
 replace p458 := et_ p458
 replace cA := et_ cA
 refine start_ (n := 15) (S := fun w' => w'.cell? a = some (.int .i64 ((rd_T61 b 0).f0)) ∧ w'.cell? ⟨a.block, a.off + 1, none⟩ = some (.slice cc ((rd_T61 b 0).f1).length c456_1) ∧ w'.cell? ⟨a.block, a.off + 2, none⟩ = some (.int .i64 ((rd_T61 b 0).f2)) ∧ w'.cell? ⟨a.block, a.off + 3, none⟩ = some (.int .i64 ((rd_T61 b 0).f3)) ∧ w'.cell? ⟨a.block, a.off + 4, none⟩ = some (.int .i64 ((rd_T61 b 0).f4)) ∧ w'.cell? ⟨a.block, a.off + 5, none⟩ = some (.int .i64 ((rd_T61 b 1).f0)) ∧ w'.cell? ⟨a.block, a.off + 5 + 1, none⟩ = some (.slice cd ((rd_T61 b 1).f1).length c457_1) ∧ w'.cell? ⟨a.block, a.off + 5 + 2, none⟩ = some (.int .i64 ((rd_T61 b 1).f2)) ∧ w'.cell? ⟨a.block, a.off + 5 + 3, none⟩ = some (.int .i64 ((rd_T61 b 1).f3)) ∧ w'.cell? ⟨a.block, a.off + 5 + 4, none⟩ = some (.int .i64 ((rd_T61 b 1).f4)) ∧ w'.cell? ⟨a.block, a.off + 10, none⟩ = some (.int .i64 ((rd_T61 b 2).f0)) ∧ w'.cell? ⟨a.block, a.off + 10 + 1, none⟩ = some (.slice ce ((rd_T61 b 2).f1).length c458_1) ∧ w'.cell? ⟨a.block, a.off + 10 + 2, none⟩ = some (.int .i64 ((rd_T61 b 2).f2)) ∧ w'.cell? ⟨a.block, a.off + 10 + 3, none⟩ = some (.int .i64 ((rd_T61 b 2).f3)) ∧ w'.cell? ⟨a.block, a.off + 10 + 4, none⟩ = some (.int .i64 ((rd_T61 b 2).f4))) (ds := []) #[false, false, false, false, false, false, false, false, false, false, false, false, false, false, false] kr_ rfl rfl ⟨(hx_ HB aP), (hx_ HB aO), (hx_ HB aN), (hx_ HB aM), (hx_ HB aL), (hx_ HB aU), (hx_ HB aT), (hx_ HB aS), (hx_ HB aR), (hx_ HB aQ), (hx_ HB aZ), (hx_ HB aY), (hx_ HB aX), (hx_ HB aW), (hx_ HB aV)⟩ (fun hHeld => ?_); refine with_tabW ext_Filter.tab8 ext_Filter.bits8 (fun HT_ HW_ => ?_)
 generalize w63.drew = w65 at c HB b0 b3 b6 ae af ag ah ai aj ak al am an ao ap aq ar au hHeld ⊢
 refine pn_ 0 36 ao_ ?_
 refine pn_ 1 37 ao_ ?_
 refine pn_ 3 39 ao_ ?_
 refine pn_ 4 40 ao_ ?_
 refine pn_ 6 42 ao_ ?_
 refine pn_ 7 43 ao_ ?_
 refine tn_ 2 38 tw_ hHeld ?_
 refine tn_ 5 41 tw_ hHeld ?_
 refine tn_ 8 44 tw_ hHeld ?_
 refine onn_ 9 45 #[true, true, true, true, true, true, true, true, true, true, false, false, false, false, false] rfl rfl on_ (by decide) (fun K hK => ?_)
 refine goes_ Tryz.func32 kr_ rfl #[.agg #[.int .i64 ((rd_T61 b 0).f0), .slice cc ((rd_T61 b 0).f1).length c456_1, .int .i64 ((rd_T61 b 0).f2), .int .i64 ((rd_T61 b 0).f3), .int .i64 ((rd_T61 b 0).f4)], .agg #[.int .i64 ((rd_T61 b 1).f0), .slice cd ((rd_T61 b 1).f1).length c457_1, .int .i64 ((rd_T61 b 1).f2), .int .i64 ((rd_T61 b 1).f3), .int .i64 ((rd_T61 b 1).f4)], .agg #[.int .i64 ((rd_T61 b 2).f0), .slice ce ((rd_T61 b 2).f1).length c458_1, .int .i64 ((rd_T61 b 2).f2), .int .i64 ((rd_T61 b 2).f3), .int .i64 ((rd_T61 b 2).f4)], .func (.func 34) #[] #[]] (by rfl) rfl rfl ar_ ?_
 with_reducible refine (pPairs.calls (.inr rfl) ext_Filter_2.calls k ((rd_T61 b 0).f0) _ _ ((rd_T61 b 0).f1) ((rd_T61 b 0).f2) ((rd_T61 b 0).f3) ((rd_T61 b 0).f4) ((rd_T61 b 1).f0) _ _ ((rd_T61 b 1).f1) ((rd_T61 b 1).f2) ((rd_T61 b 1).f3) ((rd_T61 b 1).f4) ((rd_T61 b 2).f0) _ _ ((rd_T61 b 2).f1) ((rd_T61 b 2).f2) ((rd_T61 b 2).f3) ((rd_T61 b 2).f4) dC false _ ?_ ?_ ?_ ?_ ?_ ?_ ?_ dT.out).mono ?_
 exact ca_ ((cb_ b0.out HB.out))
 exact cH.out
 exact ca_ ((cb_ b3.out HB.out))
 exact cI.out
 exact ca_ ((cb_ b6.out HB.out))
 exact cJ.out
 exact ca_ ((cb_ HRtab.out HB.out))
 rintro e w66 ⟨d2, rfl, b8, hb⟩
 refine ⟨_, rfl, ?_⟩
 replace HB := hq_ hb
 clear hb b8
 refine hK.out _ _ ⟨(hx_ HB aP), (hx_ HB aO), (hx_ HB aN), (hx_ HB aM), (hx_ HB aL), (hx_ HB aU), (hx_ HB aT), (hx_ HB aS), (hx_ HB aR), (hx_ HB aQ), (hx_ HB aZ), (hx_ HB aY), (hx_ HB aX), (hx_ HB aW), (hx_ HB aV)⟩ (fun hHeld => ?_)
 clear hK K
 refine nor_ (N := some 45) ?_
 refine pn_ 10 35 ao_ ?_
 refine pn_ 11 46 ao_ ?_
 refine pn_ 12 47 ao_ ?_
 refine pn_ 13 7 ao_ ?_
 refine pn_ 14 8 ao_ ?_
 refine done_ dn_ ?_
 try go_wp2
 go_ret2
 exact ⟨_, er_, by first | exact Kd.S_nil _ _ _ _ _ | exact Kd.N_nil _ _ _ _ _ | exact Kd.V_nil _ _ _ _ _ | exact Kd.Q_nil _ _ _ _ _ | exact Kd.R_nil _ _ _ _ _, bel_⟩

end Go.Proofs.YtiofjnhmogeenaaGreatDoor.XExtRefuses
