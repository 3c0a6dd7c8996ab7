-- by xprint.py, a program of this session, over the kit's print
import Derived.Test.YtiofjnhmogeenaaGreatDoorXEFix0
import Derived.Test.YtiofjnhmogeenaaGreatDoorXEFix6
import Derived.Test.YtiofjnhmogeenaaGreatDoorXEFix8
import Derived.Test.YtiofjnhmogeenaaGreatDoorXEFix12
import Derived.Test.YtiofjnhmogeenaaGreatDoorXEFix13
import Derived.Test.YtiofjnhmogeenaaGreatDoorXEFix14
import Derived.Test.YtiofjnhmogeenaaGreatDoorSq
namespace Go.Proofs.YtiofjnhmogeenaaGreatDoor.XExtFilters
open Go.RowKit Go.Proofs.YtiofjnhmogeenaaGreatDoor.Sq Go.Proofs.YtiofjnhmogeenaaGreatDoorW.PrintWords Go.Proofs.YtiofjnhmogeenaaGreatDoorW.PrintLast Go.Proofs.YtiofjnhmogeenaaGreatDoorW.PrintMore
attribute [local go_sem] max2_int min2_int max_two min_two max_three min_three max_four min_four   -- for this text's walks alone
set_option linter.unusedVariables false
set_option linter.unusedSimpArgs false

/-! ### ext_Filter: function 10 -/
def ext_Filter.f (k : Nat) (b : Int) (g : List Int) (l : List Int) (m : List Int) (n : List Int) (o : List Int) (p : Int) (q : List (List Int)) (a : List (S61)) : Option ((List (S61)) × Bool) := (prop_Fits.f k b g l m n o p q a 8 10).bind fun r => (if r = true then (if b = 8 then (if 0 < (a.length : Int) then (if 1 < (a.length : Int) then ((ext_absolute.f k ((rd_T61 a 0).f0) ((rd_T61 a 0).f1) ((rd_T61 a 0).f2) ((rd_T61 a 0).f3) ((rd_T61 a 0).f4) ((rd_T61 a 1).f0) ((rd_T61 a 1).f1) ((rd_T61 a 1).f2) ((rd_T61 a 1).f3) ((rd_T61 a 1).f4)).bind fun c => (some (c.1, c.2))) else (none)) else (none)) else (if 0 < (a.length : Int) then ((dom_Dom_Size.f ((rd_T61 a 0).f0) ((rd_T61 a 0).f1) ((rd_T61 a 0).f2) ((rd_T61 a 0).f3) ((rd_T61 a 0).f4)).bind fun s => (if 1 < (a.length : Int) then ((dom_Dom_Size.f ((rd_T61 a 1).f0) ((rd_T61 a 1).f1) ((rd_T61 a 1).f2) ((rd_T61 a 1).f3) ((rd_T61 a 1).f4)).bind fun t => (if (wrap64 (s * t)) > 4096 then (none) else (if b = 9 then (if 2 < (a.length : Int) then ((prop_Pairs_at_ext_Filter_1.f k ((rd_T61 a 0).f0) ((rd_T61 a 0).f1) ((rd_T61 a 0).f2) ((rd_T61 a 0).f3) ((rd_T61 a 0).f4) ((rd_T61 a 1).f0) ((rd_T61 a 1).f1) ((rd_T61 a 1).f2) ((rd_T61 a 1).f3) ((rd_T61 a 1).f4) ((rd_T61 a 2).f0) ((rd_T61 a 2).f1) ((rd_T61 a 2).f2) ((rd_T61 a 2).f3) ((rd_T61 a 2).f4)).bind fun d => (if d.2 = true then (some (d.1, true)) else (some (([] : List (S61)), false)))) else (none)) else (if 2 < (a.length : Int) then ((prop_Pairs_at_ext_Filter_2.f k ((rd_T61 a 0).f0) ((rd_T61 a 0).f1) ((rd_T61 a 0).f2) ((rd_T61 a 0).f3) ((rd_T61 a 0).f4) ((rd_T61 a 1).f0) ((rd_T61 a 1).f1) ((rd_T61 a 1).f2) ((rd_T61 a 1).f3) ((rd_T61 a 1).f4) ((rd_T61 a 2).f0) ((rd_T61 a 2).f1) ((rd_T61 a 2).f2) ((rd_T61 a 2).f3) ((rd_T61 a 2).f4)).bind fun e => (if e.2 = true then (some (e.1, true)) else (some (([] : List (S61)), false)))) else (none))))) else (none))) else (none))) else (some (([] : List (S61)), false)))
theorem ext_Filter.mono : ∀ a b c d e g l m n k, LeO (ext_Filter.f k a b c d e g l m n) (ext_Filter.f (k + 1) a b c d e g l m n) := by
 intro a b c d e g l m n k
 unfold ext_Filter.f
 have m0 := @ext_absolute.mono
 have m1 := @prop_Fits.mono
 have m2 := @prop_Pairs_at_ext_Filter_1.mono
 have m3 := @prop_Pairs_at_ext_Filter_2.mono
 exact leo_
def ext_Filter.T4 : Bool × List (List Nat × List Nat) := (true, [([], []), ([0], [0]), ([1], [1]), ([], []), ([3], [3]), ([4], [4]), ([2, 5], [2, 5]), ([6], [6]), ([6], [6]), ([7, 6, 0, 1, 2, 3, 4, 5, 6, 7, 8], [7]), ([8, 9, 0, 1, 2, 3, 4, 5, 6, 7, 8, 9], [8])])
def ext_Filter.B4 : List Nat := [0, 1, 3, 0, 8, 24, 63, 127, 127, 511, 1023]
theorem ext_Filter.tab4 : rtab .any (opsOf Tryz.f10 4) = ext_Filter.T4 := by kernel_rfl
theorem ext_Filter.bits4 : waitsOk ext_Filter.T4.2 ext_Filter.B4 = true := by kernel_rfl
def ext_Filter.T5 : Bool × List (List Nat × List Nat) := (true, [([], []), ([0], [0]), ([1], [1]), ([2], [2]), ([], []), ([4], [4]), ([5], [5]), ([6, 3], [6]), ([3, 7], [3, 7]), ([8], [8]), ([9, 7, 0, 1, 2, 3, 4, 5, 6, 7, 8, 9], [9])])
def ext_Filter.B5 : List Nat := [0, 1, 3, 7, 0, 16, 48, 127, 255, 511, 1023]
theorem ext_Filter.tab5 : rtab .any (opsOf Tryz.f10 5) = ext_Filter.T5 := by kernel_rfl
theorem ext_Filter.bits5 : waitsOk ext_Filter.T5.2 ext_Filter.B5 = true := by kernel_rfl
def ext_Filter.T8 : Bool × List (List Nat × List Nat) := (true, [([], []), ([0], [0]), ([1], [1]), ([], []), ([3], [3]), ([4], [4]), ([], []), ([6], [6]), ([7], [7]), ([2, 5, 8], [2, 5, 8]), ([9], [9]), ([10], [10]), ([10], [10]), ([11, 9, 0, 1, 2, 3, 4, 5, 6, 7, 8, 9, 10, 11], [11]), ([12, 13, 0, 1, 2, 3, 4, 5, 6, 7, 8, 9, 10, 11, 12, 13], [12])])
def ext_Filter.B8 : List Nat := [0, 1, 3, 0, 8, 24, 0, 64, 192, 511, 1023, 2047, 2047, 4095, 16383]
theorem ext_Filter.tab8 : rtab .any (opsOf Tryz.f10 8) = ext_Filter.T8 := by kernel_rfl
theorem ext_Filter.bits8 : waitsOk ext_Filter.T8.2 ext_Filter.B8 = true := by kernel_rfl
def ext_Filter.T14 : Bool × List (List Nat × List Nat) := (true, [([], []), ([0], [0]), ([1], [1]), ([], []), ([3], [3]), ([4], [4]), ([], []), ([6], [6]), ([7], [7]), ([2, 5, 8], [2, 5, 8]), ([9], [9]), ([10], [10]), ([10], [10]), ([11, 9, 0, 1, 2, 3, 4, 5, 6, 7, 8, 9, 10, 11], [11]), ([12, 13, 0, 1, 2, 3, 4, 5, 6, 7, 8, 9, 10, 11, 12, 13], [12])])
def ext_Filter.B14 : List Nat := [0, 1, 3, 0, 8, 24, 0, 64, 192, 511, 1023, 2047, 2047, 4095, 16383]
theorem ext_Filter.tab14 : rtab .any (opsOf Tryz.f10 14) = ext_Filter.T14 := by kernel_rfl
theorem ext_Filter.bits14 : waitsOk ext_Filter.T14.2 ext_Filter.B14 = true := by kernel_rfl
set_option maxHeartbeats 8000000 in
set_option maxRecDepth 100000 in
theorem ext_Filter.calls (k : Nat) (av : Int) (bv : Option Addr) (c0_1 : Nat) (a1 : List Int) (bw : Option Addr) (c0_2 : Nat) (a2 : List Int) (bx : Option Addr) (c0_3 : Nat) (a3 : List Int) (bz : Option Addr) (c0_4 : Nat) (a4 : List Int) (bA : Option Addr) (c0_5 : Nat) (a5 : List Int) (a8 : Int) (bB : Option Addr) (c0_7 : Nat) (a6 : List (List Int)) (A1 : Option Addr) (c1 : Nat) (b : List (S61)) (r1 : List (S61)) (r2 : Bool) (w : World) (df : Kd.C (Kd.int .i64) w bv a1.length a1) (dg : a1.length ≤ c0_1) (dh : Kd.C (Kd.int .i64) w bw a2.length a2) (di : a2.length ≤ c0_2) (dj : Kd.C (Kd.int .i64) w bx a3.length a3) (dk : a3.length ≤ c0_3) (dl : Kd.C (Kd.int .i64) w bz a4.length a4) (dm : a4.length ≤ c0_4) (dn : Kd.C (Kd.int .i64) w bA a5.length a5) (dp : a5.length ≤ c0_5) (dq : Kd.C (Kd.slice 3 (Kd.int .i64)) w bB a6.length a6) (dr : a6.length ≤ c0_7) (dQ : Kd.C k61 w A1 b.length b) (dR : b.length ≤ c1) (hrtab : Kd.C (Kd.int .u8) w (some ⟨0, 0, none⟩) tabL.length tabL) (h : ext_Filter.f k av a1 a2 a3 a4 a5 a8 a6 b = some (r1, r2)) :
  Calls Tryz.prog 10 #[.agg #[.int .i64 av, .slice bv a1.length c0_1, .slice bw a2.length c0_2, .slice bx a3.length c0_3, .slice bz a4.length c0_4, .slice bA a5.length c0_5, .int .i64 a8, .slice bB a6.length c0_7], .slice A1 b.length c1] w fun e w' => ∃ dS : Value, e = .returned (.tuple #[dS, .bool r2]) ∧ Kd.N k61 61 w' w.heap.size (fun k_ => (w.heap.size ≤ k_)) dS r1 ∧ Below w.heap.size w w' := by
 have hu32 := Tryz.underlying32
 have hu61 := Tryz.underlying61
 have cf := a_ df
 have cg := a_ dg
 clear df dg
 have ch := a_ dh
 have ci := a_ di
 clear dh di
 have cj := a_ dj
 have ck := a_ dk
 clear dj dk
 have cl := a_ dl
 have cm := a_ dm
 clear dl dm
 have cn := a_ dn
 have co := a_ dp
 clear dn dp
 have cp := a_ dq
 have cq := a_ dr
 clear dq dr
 have a7 := a_ dQ
 have cK := a_ dR
 clear dQ dR
 have HRtab := a_ hrtab
 clear hrtab
 have HB := a_ (Below.refl w.heap.size w)
 unfold ext_Filter.f at h
 have H := h
 clear h
 replace H := bs_.mp H
 obtain ⟨dX, dT, H⟩ := H
 try dsimp only at H
 have A3 := a_ dT
 clear dT
 by_cases c4 : dX = true
 ·
  subst c4
  rw [ip_ rfl] at H
  by_cases c5 : av = 8
  ·
   rw [ip_ c5] at H
   have c5b0 : (av == 8) = true := beq_iff_eq.mpr c5
   have c5b1 : (av != 8) = false := bn_.mpr c5
   clear c5
   by_cases c6 : 0 < (b.length : Int)
   ·
    rw [ip_ c6] at H
    have c6b0 : decide (0 < (b.length : Int)) = true := dt_ c6
    have c6b1 : decide (0 < b.length) = true := dt_ (by omega)
    clear c6
    by_cases c7 : 1 < (b.length : Int)
    ·
     rw [ip_ c7] at H
     have c7b0 : decide (1 < (b.length : Int)) = true := dt_ c7
     have c7b1 : decide (1 < b.length) = true := dt_ (by omega)
     clear c7
     replace H := bs_.mp H
     obtain ⟨⟨dY, dZ⟩, dU, H⟩ := H
     try dsimp only at H
     have A8 := a_ dU
     clear dU
     simp only [Option.some.injEq, Prod.mk.injEq] at H
     obtain ⟨rfl, rfl⟩ := H
     go_enter Tryz.func10, Tryz.ntmps10
     try go_wp2_with (first | ((with_reducible refine gate_dst (N := 2) rfl ?_); refine bxe_ (N := 2) (cs := #[.int .i64 av, .slice bv a1.length c0_1, .slice bw a2.length c0_2, .slice bx a3.length c0_3, .slice bz a4.length c0_4, .slice bA a5.length c0_5, .int .i64 a8, .slice bB a6.length c0_7]) (t := 32) ?_; intro bf hg w9 hbox hb; have c := a_ (hbox); have bC := a_ (by rw [hg]; exact (bz_ bel_) : w.heap.size ≤ bf); have cB := bC; replace HB := a_ (bp_ bel_ hb); clear hb hbox hg; obtain ⟨_, _, _, _, _, _, _, _, _, _, _, _, _, _, _, _⟩ := cel8_ c.out) | ((with_reducible refine gate_callee (f := 27) rfl ?_); refine goesL_ (some 11) rfl rfl Tryz.func27 (by kernel_rfl) rfl #[.agg #[.int .i64 av, .slice bv a1.length c0_1, .slice bw a2.length c0_2, .slice bx a3.length c0_3, .slice bz a4.length c0_4, .slice bA a5.length c0_5, .int .i64 a8, .slice bB a6.length c0_7], .slice A1 b.length c1, .int .i64 8, .int .i64 10] rfl ar_ ?_; (with_reducible refine (prop_Fits.calls k av _ _ a1 _ _ a2 _ _ a3 _ _ a4 _ _ a5 a8 _ _ a6 _ _ b 8 10 true _ ?_ ?_ ?_ ?_ ?_ ?_ ?_ ?_ ?_ ?_ ?_ ?_ ?_ ?_ A3.out).mono ?_); exact ca_ ((cb_ cf.out HB.out)); exact cg.out; exact ca_ ((cb_ ch.out HB.out)); exact ci.out; exact ca_ ((cb_ cj.out HB.out)); exact ck.out; exact ca_ ((cb_ cl.out HB.out)); exact cm.out; exact ca_ ((cb_ cn.out HB.out)); exact co.out; exact ca_ ((cb_ cp.out HB.out)); exact cq.out; exact ca_ ((cb_ a7.out HB.out)); exact cK.out; rintro e w11 ⟨rfl, hb⟩; refine ⟨_, rfl, ?_⟩; replace c := a_ (bb_ (bk_ c.out) hb); replace HB := a_ (bp_ bel_ hb); clear hb; obtain ⟨_, _, _, _, _, _, _, _, _, _, _, _, _, _, _, _⟩ := cel8_ c.out))
     replace c := a_ (blk_drew c.out)
     replace HB := a_ (below_drew1 HB.out)
     have p385 : 0 ≤ (0 : Int) := (by omega)
     have c3 : 0 < (b.length : Int) := dq_
     obtain ⟨a0, c0, c385_1, d0, bk, bl, bm, bn, bo, cL, cM⟩ := at_T61 a7.out 0 p385 c3
     have bD := bo
     (try rw [show ((0 : Int)).toNat = 0 from rfl] at bD)
     (try rw [show 0 * 5 = 0 from rfl] at bD)
     (try rw [Addr.add_zero'] at bD)
     have bE := bn
     (try rw [show ((0 : Int)).toNat = 0 from rfl] at bE)
     (try rw [show 0 * 5 = 0 from rfl] at bE)
     (try rw [Addr.add_zero'] at bE)
     have bF := bm
     (try rw [show ((0 : Int)).toNat = 0 from rfl] at bF)
     (try rw [show 0 * 5 = 0 from rfl] at bF)
     (try rw [Addr.add_zero'] at bF)
     have bG := bl
     (try rw [show ((0 : Int)).toNat = 0 from rfl] at bG)
     (try rw [show 0 * 5 = 0 from rfl] at bG)
     (try rw [Addr.add_zero'] at bG)
     have bH := bk
     (try rw [show ((0 : Int)).toNat = 0 from rfl] at bH)
     (try rw [show 0 * 5 = 0 from rfl] at bH)
     (try rw [Addr.add_zero'] at bH)
     cases d0
     have d6 : (0 < b.length) = True := et_ (by omega)
     (try rw [show ((0 : Int)).toNat = 0 from rfl] at bk)
     (try rw [show 0 * 5 = 0 from rfl] at bk)
     (try rw [Addr.add_zero'] at bk)
     (try rw [show ((0 : Int)).toNat = 0 from rfl] at bl)
     (try rw [show 0 * 5 = 0 from rfl] at bl)
     (try rw [Addr.add_zero'] at bl)
     (try rw [show ((0 : Int)).toNat = 0 from rfl] at bm)
     (try rw [show 0 * 5 = 0 from rfl] at bm)
     (try rw [Addr.add_zero'] at bm)
     (try rw [show ((0 : Int)).toNat = 0 from rfl] at bn)
     (try rw [show 0 * 5 = 0 from rfl] at bn)
     (try rw [Addr.add_zero'] at bn)
     (try rw [show ((0 : Int)).toNat = 0 from rfl] at bo)
     (try rw [show 0 * 5 = 0 from rfl] at bo)
     (try rw [Addr.add_zero'] at bo)
     replace bk := (HB.out.cell (wl_ w _ bk)).trans bk
     replace bl := (HB.out.cell (wl_ w _ bl)).trans bl
     replace bm := (HB.out.cell (wl_ w _ bm)).trans bm
     replace bn := (HB.out.cell (wl_ w _ bn)).trans bn
     replace bo := (HB.out.cell (wl_ w _ bo)).trans bo
     have cN := a_ cM
     have dw := a_ cL
     clear cM cL
     replace p385 := et_ p385
     replace c3 := et_ c3
     have p386 : 0 ≤ (1 : Int) := (by omega)
     have c8 : 1 < (b.length : Int) := dq_
     obtain ⟨dG, c2, c386_1, d1, bp, bq, br, bs, bu, cO, cP⟩ := at_T61 a7.out 1 p386 c8
     have bI := bu
     (try rw [show ((1 : Int)).toNat = 1 from rfl] at bI)
     (try rw [show 1 * 5 = 5 from rfl] at bI)
     (try simp only [Nat.reduceMul, Nat.reduceEqDiff, Go.Addr.add, ↓reduceIte] at bI)
     have bJ := bs
     (try rw [show ((1 : Int)).toNat = 1 from rfl] at bJ)
     (try rw [show 1 * 5 = 5 from rfl] at bJ)
     (try simp only [Nat.reduceMul, Nat.reduceEqDiff, Go.Addr.add, ↓reduceIte] at bJ)
     have bK := br
     (try rw [show ((1 : Int)).toNat = 1 from rfl] at bK)
     (try rw [show 1 * 5 = 5 from rfl] at bK)
     (try simp only [Nat.reduceMul, Nat.reduceEqDiff, Go.Addr.add, ↓reduceIte] at bK)
     have bL := bq
     (try rw [show ((1 : Int)).toNat = 1 from rfl] at bL)
     (try rw [show 1 * 5 = 5 from rfl] at bL)
     (try simp only [Nat.reduceMul, Nat.reduceEqDiff, Go.Addr.add, ↓reduceIte] at bL)
     have bM := bp
     (try rw [show ((1 : Int)).toNat = 1 from rfl] at bM)
     (try rw [show 1 * 5 = 5 from rfl] at bM)
     (try simp only [Nat.reduceMul, Nat.reduceEqDiff, Go.Addr.add, ↓reduceIte] at bM)
     obtain rfl : a0 = dG := (by injection d1)
     (try simp only [show (1 : Int).toNat = 1 from rfl, Nat.reduceMul, Nat.reduceEqDiff, Go.Addr.add, ↓reduceIte] at bp)
     (try simp only [show (1 : Int).toNat = 1 from rfl, Nat.reduceMul, Nat.reduceEqDiff, Go.Addr.add, ↓reduceIte] at bq)
     (try simp only [show (1 : Int).toNat = 1 from rfl, Nat.reduceMul, Nat.reduceEqDiff, Go.Addr.add, ↓reduceIte] at br)
     (try simp only [show (1 : Int).toNat = 1 from rfl, Nat.reduceMul, Nat.reduceEqDiff, Go.Addr.add, ↓reduceIte] at bs)
     (try simp only [show (1 : Int).toNat = 1 from rfl, Nat.reduceMul, Nat.reduceEqDiff, Go.Addr.add, ↓reduceIte] at bu)
     have d7 : (1 < b.length) = True := et_ (by omega)
     (try rw [show ((1 : Int)).toNat = 1 from rfl] at bp)
     (try rw [show 1 * 5 = 5 from rfl] at bp)
     (try rw [show ((1 : Int)).toNat = 1 from rfl] at bq)
     (try rw [show 1 * 5 = 5 from rfl] at bq)
     (try rw [show ((1 : Int)).toNat = 1 from rfl] at br)
     (try rw [show 1 * 5 = 5 from rfl] at br)
     (try rw [show ((1 : Int)).toNat = 1 from rfl] at bs)
     (try rw [show 1 * 5 = 5 from rfl] at bs)
     (try rw [show ((1 : Int)).toNat = 1 from rfl] at bu)
     (try rw [show 1 * 5 = 5 from rfl] at bu)
     replace bp := (HB.out.cell (wl_ w _ bp)).trans bp
     replace bq := (HB.out.cell (wl_ w _ bq)).trans bq
     replace br := (HB.out.cell (wl_ w _ br)).trans br
     replace bs := (HB.out.cell (wl_ w _ bs)).trans bs
     replace bu := (HB.out.cell (wl_ w _ bu)).trans bu
     have cQ := a_ cP
     have dx := a_ cO
     clear cP cO
     replace p386 := et_ p386
     replace c8 := et_ c8
     refine start_ (n := 11) (S := fun w' => w'.cell? a0 = some (.int .i64 ((rd_T61 b 0).f0)) ∧ w'.cell? ⟨a0.block, a0.off + 1, none⟩ = some (.slice c0 ((rd_T61 b 0).f1).length c385_1) ∧ w'.cell? ⟨a0.block, a0.off + 2, none⟩ = some (.int .i64 ((rd_T61 b 0).f2)) ∧ w'.cell? ⟨a0.block, a0.off + 3, none⟩ = some (.int .i64 ((rd_T61 b 0).f3)) ∧ w'.cell? ⟨a0.block, a0.off + 4, none⟩ = some (.int .i64 ((rd_T61 b 0).f4)) ∧ w'.cell? ⟨a0.block, a0.off + 5, none⟩ = some (.int .i64 ((rd_T61 b 1).f0)) ∧ w'.cell? ⟨a0.block, a0.off + 5 + 1, none⟩ = some (.slice c2 ((rd_T61 b 1).f1).length c386_1) ∧ w'.cell? ⟨a0.block, a0.off + 5 + 2, none⟩ = some (.int .i64 ((rd_T61 b 1).f2)) ∧ w'.cell? ⟨a0.block, a0.off + 5 + 3, none⟩ = some (.int .i64 ((rd_T61 b 1).f3)) ∧ w'.cell? ⟨a0.block, a0.off + 5 + 4, none⟩ = some (.int .i64 ((rd_T61 b 1).f4))) (ds := []) #[false, false, false, false, false, false, false, false, false, false, false] (by kernel_rfl) rfl rfl ⟨((HB.out.cell (wl_ w _ bH)).trans bH), ((HB.out.cell (wl_ w _ bG)).trans bG), ((HB.out.cell (wl_ w _ bF)).trans bF), ((HB.out.cell (wl_ w _ bE)).trans bE), ((HB.out.cell (wl_ w _ bD)).trans bD), ((HB.out.cell (wl_ w _ bM)).trans bM), ((HB.out.cell (wl_ w _ bL)).trans bL), ((HB.out.cell (wl_ w _ bK)).trans bK), ((HB.out.cell (wl_ w _ bJ)).trans bJ), ((HB.out.cell (wl_ w _ bI)).trans bI)⟩ (fun hHeld => ?_); refine with_tabW ext_Filter.tab4 ext_Filter.bits4 (fun HT_ HW_ => ?_)
     generalize w11.drew = w13 at c HB cN cQ bk bl bm bn bo bp bq br bs bu hHeld ⊢
     refine pu_ (i := 0) (N := some 16) (any_of HT_.out (by kernel_rfl)) ?_
     refine pu_ (i := 1) (N := some 17) (any_of HT_.out (by kernel_rfl)) ?_
     refine pu_ (i := 3) (N := some 19) (any_of HT_.out (by kernel_rfl)) ?_
     refine pu_ (i := 4) (N := some 20) (any_of HT_.out (by kernel_rfl)) ?_
     refine tak_ (i := 2) (N := some 18) (take_ofW HT_.out HW_.out (by kernel_rfl)) hHeld ?_
     refine tak_ (i := 5) (N := some 21) (take_ofW HT_.out HW_.out (by kernel_rfl)) hHeld ?_
     refine one_ (i := 6) (N := some 22) #[true, true, true, true, true, true, true, false, false, false, false] rfl rfl (one_of HT_.out (by kernel_rfl)) (by decide) (fun K hK => ?_)
     refine goes_ Tryz.func28 (by kernel_rfl) rfl #[.agg #[.int .i64 ((rd_T61 b 0).f0), .slice c0 ((rd_T61 b 0).f1).length c385_1, .int .i64 ((rd_T61 b 0).f2), .int .i64 ((rd_T61 b 0).f3), .int .i64 ((rd_T61 b 0).f4)], .agg #[.int .i64 ((rd_T61 b 1).f0), .slice c2 ((rd_T61 b 1).f1).length c386_1, .int .i64 ((rd_T61 b 1).f2), .int .i64 ((rd_T61 b 1).f3), .int .i64 ((rd_T61 b 1).f4)]] (by rfl) rfl rfl ar_ ?_
     with_reducible refine (ext_absolute.calls k ((rd_T61 b 0).f0) _ _ ((rd_T61 b 0).f1) ((rd_T61 b 0).f2) ((rd_T61 b 0).f3) ((rd_T61 b 0).f4) ((rd_T61 b 1).f0) _ _ ((rd_T61 b 1).f1) ((rd_T61 b 1).f2) ((rd_T61 b 1).f3) ((rd_T61 b 1).f4) dY dZ _ ?_ ?_ ?_ ?_ ?_ A8.out).mono ?_
     exact ca_ ((cb_ cN.out HB.out))
     exact dw.out
     exact ca_ ((cb_ cQ.out HB.out))
     exact dx.out
     exact ca_ ((cb_ HRtab.out HB.out))
     rintro e w14 ⟨d9, rfl, b8, hb⟩
     refine ⟨_, rfl, ?_⟩
     have dH := a_ (Kd.N_lower (nm_ (ok' := fun k_ => (w.heap.size ≤ k_) ∧ k_ ≠ bf) b8 (fun k_ hk_ => ⟨(Nat.le_trans (bz_ bel_) hk_), (Kd.freshB (bk_ c.out) k_ hk_)⟩)) (bz_ bel_))
     replace HB := a_ (bp_ bel_ hb)
     clear hb b8
     refine hK.out _ _ ⟨((HB.out.cell (wl_ w _ bH)).trans bH), ((HB.out.cell (wl_ w _ bG)).trans bG), ((HB.out.cell (wl_ w _ bF)).trans bF), ((HB.out.cell (wl_ w _ bE)).trans bE), ((HB.out.cell (wl_ w _ bD)).trans bD), ((HB.out.cell (wl_ w _ bM)).trans bM), ((HB.out.cell (wl_ w _ bL)).trans bL), ((HB.out.cell (wl_ w _ bK)).trans bK), ((HB.out.cell (wl_ w _ bJ)).trans bJ), ((HB.out.cell (wl_ w _ bI)).trans bI)⟩ (fun hHeld => ?_)
     clear hK K
     refine nor_ (N := some 22) ?_
     refine pu_ (i := 7) (N := some 23) (any_of HT_.out (by kernel_rfl)) ?_
     refine pu_ (i := 8) (N := some 24) (any_of HT_.out (by kernel_rfl)) ?_
     refine pu_ (i := 9) (N := some 4) (any_of HT_.out (by kernel_rfl)) ?_
     refine pu_ (i := 10) (N := some 5) (any_of HT_.out (by kernel_rfl)) ?_
     refine done_ (done_of HT_.out (by kernel_rfl)) ?_
     try go_wp2
     go_ret2
     exact ⟨_, by first | rfl | (simp [errW_none, errW_some] <;> rfl) | (simp [*, errW_none, errW_some] <;> rfl), by refine vN_ ?_; exact nm_ dH.out (fun _ hk => hk.1), bel_⟩
    ·
     rw [ig_ c7] at H
     exact absurd H (by simp)
   ·
    rw [ig_ c6] at H
    exact absurd H (by simp)
  ·
   rw [ig_ c5] at H
   have c5b0 : (av == 8) = false := be_.mpr c5
   have c5b1 : (av != 8) = true := ni_.mpr c5
   by_cases c15 : 0 < (b.length : Int)
   ·
    rw [ip_ c15] at H
    have c15b0 : decide (0 < (b.length : Int)) = true := dt_ c15
    have c15b1 : decide (0 < b.length) = true := dt_ (by omega)
    clear c15
    replace H := bs_.mp H
    obtain ⟨cC, dA, H⟩ := H
    try dsimp only at H
    have dt := a_ dA
    clear dA
    by_cases c17 : 1 < (b.length : Int)
    ·
     rw [ip_ c17] at H
     have c17b0 : decide (1 < (b.length : Int)) = true := dt_ c17
     have c17b1 : decide (1 < b.length) = true := dt_ (by omega)
     clear c17
     replace H := bs_.mp H
     obtain ⟨cD, dB, H⟩ := H
     try dsimp only at H
     have du := a_ dB
     clear dB
     by_cases c19 : (wrap64 (cC * cD)) > 4096
     ·
      rw [ip_ c19] at H
      exact absurd H (by simp)
     ·
      rw [ig_ c19] at H
      have c19b0 : decide (4096 < (wrap64 (cC * cD))) = false := df_ c19
      clear c19
      by_cases c20 : av = 9
      ·
       rw [ip_ c20] at H
       have c20b0 : (av == 9) = true := beq_iff_eq.mpr c20
       have c20b1 : (av != 9) = false := bn_.mpr c20
       clear c20
       by_cases c21 : 2 < (b.length : Int)
       ·
        rw [ip_ c21] at H
        have c21b0 : decide (2 < (b.length : Int)) = true := dt_ c21
        have c21b1 : decide (2 < b.length) = true := dt_ (by omega)
        clear c21
        replace H := bs_.mp H
        obtain ⟨⟨dC, d2⟩, dD, H⟩ := H
        try dsimp only at H
        have dV := a_ dD
        clear dD
        by_cases c23 : d2 = true
        ·
         subst c23
         rw [ip_ rfl] at H
         simp only [Option.some.injEq, Prod.mk.injEq] at H
         obtain ⟨rfl, rfl⟩ := H
         go_enter Tryz.func10, Tryz.ntmps10
         try go_wp2_with (first | ((with_reducible refine gate_dst (N := 2) rfl ?_); refine bxe_ (N := 2) (cs := #[.int .i64 av, .slice bv a1.length c0_1, .slice bw a2.length c0_2, .slice bx a3.length c0_3, .slice bz a4.length c0_4, .slice bA a5.length c0_5, .int .i64 a8, .slice bB a6.length c0_7]) (t := 32) ?_; intro bf hg w24 hbox hb; have c := a_ (hbox); have bC := a_ (by rw [hg]; exact (bz_ bel_) : w.heap.size ≤ bf); have cB := bC; replace HB := a_ (bp_ bel_ hb); clear hb hbox hg; obtain ⟨_, _, _, _, _, _, _, _, _, _, _, _, _, _, _, _⟩ := cel8_ c.out) | ((with_reducible refine gate_callee (f := 27) rfl ?_); refine goesL_ (some 11) rfl rfl Tryz.func27 (by kernel_rfl) rfl #[.agg #[.int .i64 av, .slice bv a1.length c0_1, .slice bw a2.length c0_2, .slice bx a3.length c0_3, .slice bz a4.length c0_4, .slice bA a5.length c0_5, .int .i64 a8, .slice bB a6.length c0_7], .slice A1 b.length c1, .int .i64 8, .int .i64 10] rfl ar_ ?_; (with_reducible refine (prop_Fits.calls k av _ _ a1 _ _ a2 _ _ a3 _ _ a4 _ _ a5 a8 _ _ a6 _ _ b 8 10 true _ ?_ ?_ ?_ ?_ ?_ ?_ ?_ ?_ ?_ ?_ ?_ ?_ ?_ ?_ A3.out).mono ?_); exact ca_ ((cb_ cf.out HB.out)); exact cg.out; exact ca_ ((cb_ ch.out HB.out)); exact ci.out; exact ca_ ((cb_ cj.out HB.out)); exact ck.out; exact ca_ ((cb_ cl.out HB.out)); exact cm.out; exact ca_ ((cb_ cn.out HB.out)); exact co.out; exact ca_ ((cb_ cp.out HB.out)); exact cq.out; exact ca_ ((cb_ a7.out HB.out)); exact cK.out; rintro e w26 ⟨rfl, hb⟩; refine ⟨_, rfl, ?_⟩; replace c := a_ (bb_ (bk_ c.out) hb); replace HB := a_ (bp_ bel_ hb); clear hb; obtain ⟨_, _, _, _, _, _, _, _, _, _, _, _, _, _, _, _⟩ := cel8_ c.out))
         replace c := a_ (blk_drew c.out)
         replace HB := a_ (below_drew1 HB.out)
         have p391 : 0 ≤ (0 : Int) := (by omega)
         have bi : 0 < (b.length : Int) := dq_
         obtain ⟨a, bg, c391_1, ct, v, x, y, z, A, a9, ba⟩ := at_T61 a7.out 0 p391 bi
         have d := A
         (try rw [show ((0 : Int)).toNat = 0 from rfl] at d)
         (try rw [show 0 * 5 = 0 from rfl] at d)
         (try rw [Addr.add_zero'] at d)
         have g := z
         (try rw [show ((0 : Int)).toNat = 0 from rfl] at g)
         (try rw [show 0 * 5 = 0 from rfl] at g)
         (try rw [Addr.add_zero'] at g)
         have l := y
         (try rw [show ((0 : Int)).toNat = 0 from rfl] at l)
         (try rw [show 0 * 5 = 0 from rfl] at l)
         (try rw [Addr.add_zero'] at l)
         have m := x
         (try rw [show ((0 : Int)).toNat = 0 from rfl] at m)
         (try rw [show 0 * 5 = 0 from rfl] at m)
         (try rw [Addr.add_zero'] at m)
         have o := v
         (try rw [show ((0 : Int)).toNat = 0 from rfl] at o)
         (try rw [show 0 * 5 = 0 from rfl] at o)
         (try rw [Addr.add_zero'] at o)
         cases ct
         have cR : (0 < b.length) = True := et_ (by omega)
         (try rw [show ((0 : Int)).toNat = 0 from rfl] at v)
         (try rw [show 0 * 5 = 0 from rfl] at v)
         (try rw [Addr.add_zero'] at v)
         (try rw [show ((0 : Int)).toNat = 0 from rfl] at x)
         (try rw [show 0 * 5 = 0 from rfl] at x)
         (try rw [Addr.add_zero'] at x)
         (try rw [show ((0 : Int)).toNat = 0 from rfl] at y)
         (try rw [show 0 * 5 = 0 from rfl] at y)
         (try rw [Addr.add_zero'] at y)
         (try rw [show ((0 : Int)).toNat = 0 from rfl] at z)
         (try rw [show 0 * 5 = 0 from rfl] at z)
         (try rw [Addr.add_zero'] at z)
         (try rw [show ((0 : Int)).toNat = 0 from rfl] at A)
         (try rw [show 0 * 5 = 0 from rfl] at A)
         (try rw [Addr.add_zero'] at A)
         replace v := (HB.out.cell (wl_ w _ v)).trans v
         replace x := (HB.out.cell (wl_ w _ x)).trans x
         replace y := (HB.out.cell (wl_ w _ y)).trans y
         replace z := (HB.out.cell (wl_ w _ z)).trans z
         replace A := (HB.out.cell (wl_ w _ A)).trans A
         have bb := a_ ba
         have bN := a_ a9
         clear ba a9
         replace p391 := et_ p391
         replace bi := et_ bi
         have p393 : 0 ≤ (1 : Int) := (by omega)
         have bj : 1 < (b.length : Int) := dq_
         obtain ⟨b7, bh, c393_1, cu, B, E, F, G, I, bc, bd⟩ := at_T61 a7.out 1 p393 bj
         have p := I
         (try rw [show ((1 : Int)).toNat = 1 from rfl] at p)
         (try rw [show 1 * 5 = 5 from rfl] at p)
         (try simp only [Nat.reduceMul, Nat.reduceEqDiff, Go.Addr.add, ↓reduceIte] at p)
         have q := G
         (try rw [show ((1 : Int)).toNat = 1 from rfl] at q)
         (try rw [show 1 * 5 = 5 from rfl] at q)
         (try simp only [Nat.reduceMul, Nat.reduceEqDiff, Go.Addr.add, ↓reduceIte] at q)
         have r := F
         (try rw [show ((1 : Int)).toNat = 1 from rfl] at r)
         (try rw [show 1 * 5 = 5 from rfl] at r)
         (try simp only [Nat.reduceMul, Nat.reduceEqDiff, Go.Addr.add, ↓reduceIte] at r)
         have s := E
         (try rw [show ((1 : Int)).toNat = 1 from rfl] at s)
         (try rw [show 1 * 5 = 5 from rfl] at s)
         (try simp only [Nat.reduceMul, Nat.reduceEqDiff, Go.Addr.add, ↓reduceIte] at s)
         have u := B
         (try rw [show ((1 : Int)).toNat = 1 from rfl] at u)
         (try rw [show 1 * 5 = 5 from rfl] at u)
         (try simp only [Nat.reduceMul, Nat.reduceEqDiff, Go.Addr.add, ↓reduceIte] at u)
         obtain rfl : a = b7 := (by injection cu)
         (try simp only [show (1 : Int).toNat = 1 from rfl, Nat.reduceMul, Nat.reduceEqDiff, Go.Addr.add, ↓reduceIte] at B)
         (try simp only [show (1 : Int).toNat = 1 from rfl, Nat.reduceMul, Nat.reduceEqDiff, Go.Addr.add, ↓reduceIte] at E)
         (try simp only [show (1 : Int).toNat = 1 from rfl, Nat.reduceMul, Nat.reduceEqDiff, Go.Addr.add, ↓reduceIte] at F)
         (try simp only [show (1 : Int).toNat = 1 from rfl, Nat.reduceMul, Nat.reduceEqDiff, Go.Addr.add, ↓reduceIte] at G)
         (try simp only [show (1 : Int).toNat = 1 from rfl, Nat.reduceMul, Nat.reduceEqDiff, Go.Addr.add, ↓reduceIte] at I)
         have cS : (1 < b.length) = True := et_ (by omega)
         (try rw [show ((1 : Int)).toNat = 1 from rfl] at B)
         (try rw [show 1 * 5 = 5 from rfl] at B)
         (try rw [show ((1 : Int)).toNat = 1 from rfl] at E)
         (try rw [show 1 * 5 = 5 from rfl] at E)
         (try rw [show ((1 : Int)).toNat = 1 from rfl] at F)
         (try rw [show 1 * 5 = 5 from rfl] at F)
         (try rw [show ((1 : Int)).toNat = 1 from rfl] at G)
         (try rw [show 1 * 5 = 5 from rfl] at G)
         (try rw [show ((1 : Int)).toNat = 1 from rfl] at I)
         (try rw [show 1 * 5 = 5 from rfl] at I)
         replace B := (HB.out.cell (wl_ w _ B)).trans B
         replace E := (HB.out.cell (wl_ w _ E)).trans E
         replace F := (HB.out.cell (wl_ w _ F)).trans F
         replace G := (HB.out.cell (wl_ w _ G)).trans G
         replace I := (HB.out.cell (wl_ w _ I)).trans I
         have be := a_ bd
         have bO := a_ bc
         clear bd bc
         replace p393 := et_ p393
         replace bj := et_ bj
         refine start_ (n := 11) (S := fun w' => w'.cell? a = some (.int .i64 ((rd_T61 b 0).f0)) ∧ w'.cell? ⟨a.block, a.off + 1, none⟩ = some (.slice bg ((rd_T61 b 0).f1).length c391_1) ∧ w'.cell? ⟨a.block, a.off + 2, none⟩ = some (.int .i64 ((rd_T61 b 0).f2)) ∧ w'.cell? ⟨a.block, a.off + 3, none⟩ = some (.int .i64 ((rd_T61 b 0).f3)) ∧ w'.cell? ⟨a.block, a.off + 4, none⟩ = some (.int .i64 ((rd_T61 b 0).f4)) ∧ w'.cell? ⟨a.block, a.off + 5, none⟩ = some (.int .i64 ((rd_T61 b 1).f0)) ∧ w'.cell? ⟨a.block, a.off + 5 + 1, none⟩ = some (.slice bh ((rd_T61 b 1).f1).length c393_1) ∧ w'.cell? ⟨a.block, a.off + 5 + 2, none⟩ = some (.int .i64 ((rd_T61 b 1).f2)) ∧ w'.cell? ⟨a.block, a.off + 5 + 3, none⟩ = some (.int .i64 ((rd_T61 b 1).f3)) ∧ w'.cell? ⟨a.block, a.off + 5 + 4, none⟩ = some (.int .i64 ((rd_T61 b 1).f4))) (ds := []) #[false, false, false, false, false, false, false, false, false, false, false] (by kernel_rfl) rfl rfl ⟨((HB.out.cell (wl_ w _ o)).trans o), ((HB.out.cell (wl_ w _ m)).trans m), ((HB.out.cell (wl_ w _ l)).trans l), ((HB.out.cell (wl_ w _ g)).trans g), ((HB.out.cell (wl_ w _ d)).trans d), ((HB.out.cell (wl_ w _ u)).trans u), ((HB.out.cell (wl_ w _ s)).trans s), ((HB.out.cell (wl_ w _ r)).trans r), ((HB.out.cell (wl_ w _ q)).trans q), ((HB.out.cell (wl_ w _ p)).trans p)⟩ (fun hHeld => ?_); refine with_tabW ext_Filter.tab5 ext_Filter.bits5 (fun HT_ HW_ => ?_)
         generalize w26.drew = w28 at c HB bb be v x y z A B E F G I hHeld ⊢
         refine pu_ (i := 0) (N := some 25) (any_of HT_.out (by kernel_rfl)) ?_
         refine pu_ (i := 1) (N := some 26) (any_of HT_.out (by kernel_rfl)) ?_
         refine pu_ (i := 4) (N := some 29) (any_of HT_.out (by kernel_rfl)) ?_
         refine pu_ (i := 5) (N := some 30) (any_of HT_.out (by kernel_rfl)) ?_
         refine tak_ (i := 2) (N := some 27) (take_ofW HT_.out HW_.out (by kernel_rfl)) hHeld ?_
         refine tak_ (i := 6) (N := some 31) (take_ofW HT_.out HW_.out (by kernel_rfl)) hHeld ?_
         refine one_ (i := 3) (N := some 28) #[true, true, true, true, true, true, true, false, false, false, false] rfl rfl (one_of HT_.out (by kernel_rfl)) (by decide) (fun K hK => ?_)
         refine goes_ Tryz.func29 (by kernel_rfl) rfl #[.agg #[.int .i64 ((rd_T61 b 0).f0), .slice bg ((rd_T61 b 0).f1).length c391_1, .int .i64 ((rd_T61 b 0).f2), .int .i64 ((rd_T61 b 0).f3), .int .i64 ((rd_T61 b 0).f4)]] (by rfl) rfl rfl ar_ ?_
         with_reducible refine (dom_Dom_Size.calls ((rd_T61 b 0).f0) _ _ ((rd_T61 b 0).f1) ((rd_T61 b 0).f2) ((rd_T61 b 0).f3) ((rd_T61 b 0).f4) cC _ ?_ ?_ dt.out).mono ?_
         exact ca_ ((cb_ bb.out HB.out))
         exact bN.out
         rintro e w29 ⟨rfl, hb⟩
         refine ⟨_, rfl, ?_⟩
         replace c := a_ (bb_ (bk_ c.out) hb)
         replace HB := a_ (bp_ bel_ hb)
         clear hb
         refine hK.out _ _ ⟨((HB.out.cell (wl_ w _ o)).trans o), ((HB.out.cell (wl_ w _ m)).trans m), ((HB.out.cell (wl_ w _ l)).trans l), ((HB.out.cell (wl_ w _ g)).trans g), ((HB.out.cell (wl_ w _ d)).trans d), ((HB.out.cell (wl_ w _ u)).trans u), ((HB.out.cell (wl_ w _ s)).trans s), ((HB.out.cell (wl_ w _ r)).trans r), ((HB.out.cell (wl_ w _ q)).trans q), ((HB.out.cell (wl_ w _ p)).trans p)⟩ (fun hHeld => ?_)
         clear hK K
         refine nor_ (N := some 28) ?_
         refine one_ (i := 7) (N := some 32) #[true, true, true, true, true, true, true, true, false, false, false] rfl rfl (one_of HT_.out (by kernel_rfl)) (by decide) (fun K hK => ?_)
         refine goes_ Tryz.func29 (by kernel_rfl) rfl #[.agg #[.int .i64 ((rd_T61 b 1).f0), .slice bh ((rd_T61 b 1).f1).length c393_1, .int .i64 ((rd_T61 b 1).f2), .int .i64 ((rd_T61 b 1).f3), .int .i64 ((rd_T61 b 1).f4)]] (by rfl) rfl rfl ar_ ?_
         with_reducible refine (dom_Dom_Size.calls ((rd_T61 b 1).f0) _ _ ((rd_T61 b 1).f1) ((rd_T61 b 1).f2) ((rd_T61 b 1).f3) ((rd_T61 b 1).f4) cD _ ?_ ?_ du.out).mono ?_
         exact ca_ ((cb_ be.out HB.out))
         exact bO.out
         rintro e w30 ⟨rfl, hb⟩
         refine ⟨_, rfl, ?_⟩
         replace c := a_ (bb_ (bk_ c.out) hb)
         replace HB := a_ (bp_ bel_ hb)
         clear hb
         refine hK.out _ _ ⟨((HB.out.cell (wl_ w _ o)).trans o), ((HB.out.cell (wl_ w _ m)).trans m), ((HB.out.cell (wl_ w _ l)).trans l), ((HB.out.cell (wl_ w _ g)).trans g), ((HB.out.cell (wl_ w _ d)).trans d), ((HB.out.cell (wl_ w _ u)).trans u), ((HB.out.cell (wl_ w _ s)).trans s), ((HB.out.cell (wl_ w _ r)).trans r), ((HB.out.cell (wl_ w _ q)).trans q), ((HB.out.cell (wl_ w _ p)).trans p)⟩ (fun hHeld => ?_)
         clear hK K
         refine nor_ (N := some 32) ?_
         refine pu_ (i := 8) (N := some 33) (any_of HT_.out (by kernel_rfl)) ?_
         refine pu_ (i := 9) (N := some 34) (any_of HT_.out (by kernel_rfl)) ?_
         refine pu_ (i := 10) (N := some 6) (any_of HT_.out (by kernel_rfl)) ?_
         refine done_ (done_of HT_.out (by kernel_rfl)) ?_
         obtain ⟨_, _, _, _, _, _, _, _, _, _, _, _, _, _, _, _⟩ := cel8_ c.out
         try go_wp2
         replace c := a_ (blk_drew c.out)
         replace HB := a_ (below_drew1 HB.out)
         have p395 : 0 ≤ (0 : Int) := (by omega)
         have cv : 0 < (b.length : Int) := dq_
         obtain ⟨cT, b9, c395_1, c9, J, M, O, P, Q, bP, bQ⟩ := at_T61 a7.out 0 p395 cv
         have aw := Q
         (try rw [show ((0 : Int)).toNat = 0 from rfl] at aw)
         (try rw [show 0 * 5 = 0 from rfl] at aw)
         (try rw [Addr.add_zero'] at aw)
         have ax := P
         (try rw [show ((0 : Int)).toNat = 0 from rfl] at ax)
         (try rw [show 0 * 5 = 0 from rfl] at ax)
         (try rw [Addr.add_zero'] at ax)
         have ay := O
         (try rw [show ((0 : Int)).toNat = 0 from rfl] at ay)
         (try rw [show 0 * 5 = 0 from rfl] at ay)
         (try rw [Addr.add_zero'] at ay)
         have az := M
         (try rw [show ((0 : Int)).toNat = 0 from rfl] at az)
         (try rw [show 0 * 5 = 0 from rfl] at az)
         (try rw [Addr.add_zero'] at az)
         have aA := J
         (try rw [show ((0 : Int)).toNat = 0 from rfl] at aA)
         (try rw [show 0 * 5 = 0 from rfl] at aA)
         (try rw [Addr.add_zero'] at aA)
         obtain rfl : a = cT := (by injection c9)
         have dI : (0 < b.length) = True := et_ (by omega)
         (try rw [show ((0 : Int)).toNat = 0 from rfl] at J)
         (try rw [show 0 * 5 = 0 from rfl] at J)
         (try rw [Addr.add_zero'] at J)
         (try rw [show ((0 : Int)).toNat = 0 from rfl] at M)
         (try rw [show 0 * 5 = 0 from rfl] at M)
         (try rw [Addr.add_zero'] at M)
         (try rw [show ((0 : Int)).toNat = 0 from rfl] at O)
         (try rw [show 0 * 5 = 0 from rfl] at O)
         (try rw [Addr.add_zero'] at O)
         (try rw [show ((0 : Int)).toNat = 0 from rfl] at P)
         (try rw [show 0 * 5 = 0 from rfl] at P)
         (try rw [Addr.add_zero'] at P)
         (try rw [show ((0 : Int)).toNat = 0 from rfl] at Q)
         (try rw [show 0 * 5 = 0 from rfl] at Q)
         (try rw [Addr.add_zero'] at Q)
         replace J := (HB.out.cell (wl_ w _ J)).trans J
         replace M := (HB.out.cell (wl_ w _ M)).trans M
         replace O := (HB.out.cell (wl_ w _ O)).trans O
         replace P := (HB.out.cell (wl_ w _ P)).trans P
         replace Q := (HB.out.cell (wl_ w _ Q)).trans Q
         have bR := a_ bQ
         have cE := a_ bP
         clear bQ bP
         replace p395 := et_ p395
         replace cv := et_ cv
         have p396 : 0 ≤ (1 : Int) := (by omega)
         have cw : 1 < (b.length : Int) := dq_
         obtain ⟨cU, ca, c396_1, da, U, V, W, X, Y, bS, bT⟩ := at_T61 a7.out 1 p396 cw
         have aB := Y
         (try rw [show ((1 : Int)).toNat = 1 from rfl] at aB)
         (try rw [show 1 * 5 = 5 from rfl] at aB)
         (try simp only [Nat.reduceMul, Nat.reduceEqDiff, Go.Addr.add, ↓reduceIte] at aB)
         have aC := X
         (try rw [show ((1 : Int)).toNat = 1 from rfl] at aC)
         (try rw [show 1 * 5 = 5 from rfl] at aC)
         (try simp only [Nat.reduceMul, Nat.reduceEqDiff, Go.Addr.add, ↓reduceIte] at aC)
         have aD := W
         (try rw [show ((1 : Int)).toNat = 1 from rfl] at aD)
         (try rw [show 1 * 5 = 5 from rfl] at aD)
         (try simp only [Nat.reduceMul, Nat.reduceEqDiff, Go.Addr.add, ↓reduceIte] at aD)
         have aE := V
         (try rw [show ((1 : Int)).toNat = 1 from rfl] at aE)
         (try rw [show 1 * 5 = 5 from rfl] at aE)
         (try simp only [Nat.reduceMul, Nat.reduceEqDiff, Go.Addr.add, ↓reduceIte] at aE)
         have aF := U
         (try rw [show ((1 : Int)).toNat = 1 from rfl] at aF)
         (try rw [show 1 * 5 = 5 from rfl] at aF)
         (try simp only [Nat.reduceMul, Nat.reduceEqDiff, Go.Addr.add, ↓reduceIte] at aF)
         obtain rfl : a = cU := (by injection da)
         (try simp only [show (1 : Int).toNat = 1 from rfl, Nat.reduceMul, Nat.reduceEqDiff, Go.Addr.add, ↓reduceIte] at U)
         (try simp only [show (1 : Int).toNat = 1 from rfl, Nat.reduceMul, Nat.reduceEqDiff, Go.Addr.add, ↓reduceIte] at V)
         (try simp only [show (1 : Int).toNat = 1 from rfl, Nat.reduceMul, Nat.reduceEqDiff, Go.Addr.add, ↓reduceIte] at W)
         (try simp only [show (1 : Int).toNat = 1 from rfl, Nat.reduceMul, Nat.reduceEqDiff, Go.Addr.add, ↓reduceIte] at X)
         (try simp only [show (1 : Int).toNat = 1 from rfl, Nat.reduceMul, Nat.reduceEqDiff, Go.Addr.add, ↓reduceIte] at Y)
         have dJ : (1 < b.length) = True := et_ (by omega)
         (try rw [show ((1 : Int)).toNat = 1 from rfl] at U)
         (try rw [show 1 * 5 = 5 from rfl] at U)
         (try rw [show ((1 : Int)).toNat = 1 from rfl] at V)
         (try rw [show 1 * 5 = 5 from rfl] at V)
         (try rw [show ((1 : Int)).toNat = 1 from rfl] at W)
         (try rw [show 1 * 5 = 5 from rfl] at W)
         (try rw [show ((1 : Int)).toNat = 1 from rfl] at X)
         (try rw [show 1 * 5 = 5 from rfl] at X)
         (try rw [show ((1 : Int)).toNat = 1 from rfl] at Y)
         (try rw [show 1 * 5 = 5 from rfl] at Y)
         replace U := (HB.out.cell (wl_ w _ U)).trans U
         replace V := (HB.out.cell (wl_ w _ V)).trans V
         replace W := (HB.out.cell (wl_ w _ W)).trans W
         replace X := (HB.out.cell (wl_ w _ X)).trans X
         replace Y := (HB.out.cell (wl_ w _ Y)).trans Y
         have bU := a_ bT
         have cF := a_ bS
         clear bT bS
         replace p396 := et_ p396
         replace cw := et_ cw
         have p397 : 0 ≤ (2 : Int) := (by omega)
         have cx : 2 < (b.length : Int) := dq_
         obtain ⟨cV, cb, c397_1, db, Z, aa, ab, ac, ad, bV, bW⟩ := at_T61 a7.out 2 p397 cx
         have aG := ad
         (try rw [show ((2 : Int)).toNat = 2 from rfl] at aG)
         (try rw [show 2 * 5 = 10 from rfl] at aG)
         (try simp only [Nat.reduceMul, Nat.reduceEqDiff, Go.Addr.add, ↓reduceIte] at aG)
         have aH := ac
         (try rw [show ((2 : Int)).toNat = 2 from rfl] at aH)
         (try rw [show 2 * 5 = 10 from rfl] at aH)
         (try simp only [Nat.reduceMul, Nat.reduceEqDiff, Go.Addr.add, ↓reduceIte] at aH)
         have aI := ab
         (try rw [show ((2 : Int)).toNat = 2 from rfl] at aI)
         (try rw [show 2 * 5 = 10 from rfl] at aI)
         (try simp only [Nat.reduceMul, Nat.reduceEqDiff, Go.Addr.add, ↓reduceIte] at aI)
         have aJ := aa
         (try rw [show ((2 : Int)).toNat = 2 from rfl] at aJ)
         (try rw [show 2 * 5 = 10 from rfl] at aJ)
         (try simp only [Nat.reduceMul, Nat.reduceEqDiff, Go.Addr.add, ↓reduceIte] at aJ)
         have aK := Z
         (try rw [show ((2 : Int)).toNat = 2 from rfl] at aK)
         (try rw [show 2 * 5 = 10 from rfl] at aK)
         (try simp only [Nat.reduceMul, Nat.reduceEqDiff, Go.Addr.add, ↓reduceIte] at aK)
         obtain rfl : a = cV := (by injection db)
         (try simp only [show (2 : Int).toNat = 2 from rfl, Nat.reduceMul, Nat.reduceEqDiff, Go.Addr.add, ↓reduceIte] at Z)
         (try simp only [show (2 : Int).toNat = 2 from rfl, Nat.reduceMul, Nat.reduceEqDiff, Go.Addr.add, ↓reduceIte] at aa)
         (try simp only [show (2 : Int).toNat = 2 from rfl, Nat.reduceMul, Nat.reduceEqDiff, Go.Addr.add, ↓reduceIte] at ab)
         (try simp only [show (2 : Int).toNat = 2 from rfl, Nat.reduceMul, Nat.reduceEqDiff, Go.Addr.add, ↓reduceIte] at ac)
         (try simp only [show (2 : Int).toNat = 2 from rfl, Nat.reduceMul, Nat.reduceEqDiff, Go.Addr.add, ↓reduceIte] at ad)
         have dK : (2 < b.length) = True := et_ (by omega)
         (try rw [show ((2 : Int)).toNat = 2 from rfl] at Z)
         (try rw [show 2 * 5 = 10 from rfl] at Z)
         (try rw [show ((2 : Int)).toNat = 2 from rfl] at aa)
         (try rw [show 2 * 5 = 10 from rfl] at aa)
         (try rw [show ((2 : Int)).toNat = 2 from rfl] at ab)
         (try rw [show 2 * 5 = 10 from rfl] at ab)
         (try rw [show ((2 : Int)).toNat = 2 from rfl] at ac)
         (try rw [show 2 * 5 = 10 from rfl] at ac)
         (try rw [show ((2 : Int)).toNat = 2 from rfl] at ad)
         (try rw [show 2 * 5 = 10 from rfl] at ad)
         replace Z := (HB.out.cell (wl_ w _ Z)).trans Z
         replace aa := (HB.out.cell (wl_ w _ aa)).trans aa
         replace ab := (HB.out.cell (wl_ w _ ab)).trans ab
         replace ac := (HB.out.cell (wl_ w _ ac)).trans ac
         replace ad := (HB.out.cell (wl_ w _ ad)).trans ad
         have bX := a_ bW
         have cG := a_ bV
         clear bW bV
         replace p397 := et_ p397
         replace cx := et_ cx
         refine start_ (n := 15) (S := fun w' => w'.cell? a = some (.int .i64 ((rd_T61 b 0).f0)) ∧ w'.cell? ⟨a.block, a.off + 1, none⟩ = some (.slice b9 ((rd_T61 b 0).f1).length c395_1) ∧ w'.cell? ⟨a.block, a.off + 2, none⟩ = some (.int .i64 ((rd_T61 b 0).f2)) ∧ w'.cell? ⟨a.block, a.off + 3, none⟩ = some (.int .i64 ((rd_T61 b 0).f3)) ∧ w'.cell? ⟨a.block, a.off + 4, none⟩ = some (.int .i64 ((rd_T61 b 0).f4)) ∧ w'.cell? ⟨a.block, a.off + 5, none⟩ = some (.int .i64 ((rd_T61 b 1).f0)) ∧ w'.cell? ⟨a.block, a.off + 5 + 1, none⟩ = some (.slice ca ((rd_T61 b 1).f1).length c396_1) ∧ w'.cell? ⟨a.block, a.off + 5 + 2, none⟩ = some (.int .i64 ((rd_T61 b 1).f2)) ∧ w'.cell? ⟨a.block, a.off + 5 + 3, none⟩ = some (.int .i64 ((rd_T61 b 1).f3)) ∧ w'.cell? ⟨a.block, a.off + 5 + 4, none⟩ = some (.int .i64 ((rd_T61 b 1).f4)) ∧ w'.cell? ⟨a.block, a.off + 10, none⟩ = some (.int .i64 ((rd_T61 b 2).f0)) ∧ w'.cell? ⟨a.block, a.off + 10 + 1, none⟩ = some (.slice cb ((rd_T61 b 2).f1).length c397_1) ∧ w'.cell? ⟨a.block, a.off + 10 + 2, none⟩ = some (.int .i64 ((rd_T61 b 2).f2)) ∧ w'.cell? ⟨a.block, a.off + 10 + 3, none⟩ = some (.int .i64 ((rd_T61 b 2).f3)) ∧ w'.cell? ⟨a.block, a.off + 10 + 4, none⟩ = some (.int .i64 ((rd_T61 b 2).f4))) (ds := []) #[false, false, false, false, false, false, false, false, false, false, false, false, false, false, false] (by kernel_rfl) rfl rfl ⟨((HB.out.cell (wl_ w _ aA)).trans aA), ((HB.out.cell (wl_ w _ az)).trans az), ((HB.out.cell (wl_ w _ ay)).trans ay), ((HB.out.cell (wl_ w _ ax)).trans ax), ((HB.out.cell (wl_ w _ aw)).trans aw), ((HB.out.cell (wl_ w _ aF)).trans aF), ((HB.out.cell (wl_ w _ aE)).trans aE), ((HB.out.cell (wl_ w _ aD)).trans aD), ((HB.out.cell (wl_ w _ aC)).trans aC), ((HB.out.cell (wl_ w _ aB)).trans aB), ((HB.out.cell (wl_ w _ aK)).trans aK), ((HB.out.cell (wl_ w _ aJ)).trans aJ), ((HB.out.cell (wl_ w _ aI)).trans aI), ((HB.out.cell (wl_ w _ aH)).trans aH), ((HB.out.cell (wl_ w _ aG)).trans aG)⟩ (fun hHeld => ?_); refine with_tabW ext_Filter.tab14 ext_Filter.bits14 (fun HT_ HW_ => ?_)
         generalize w30.drew = w32 at c HB bR bU bX J M O P Q U V W X Y Z aa ab ac ad hHeld ⊢
         refine pu_ (i := 0) (N := some 88) (any_of HT_.out (by kernel_rfl)) ?_
         refine pu_ (i := 1) (N := some 89) (any_of HT_.out (by kernel_rfl)) ?_
         refine pu_ (i := 3) (N := some 91) (any_of HT_.out (by kernel_rfl)) ?_
         refine pu_ (i := 4) (N := some 92) (any_of HT_.out (by kernel_rfl)) ?_
         refine pu_ (i := 6) (N := some 94) (any_of HT_.out (by kernel_rfl)) ?_
         refine pu_ (i := 7) (N := some 95) (any_of HT_.out (by kernel_rfl)) ?_
         refine tak_ (i := 2) (N := some 90) (take_ofW HT_.out HW_.out (by kernel_rfl)) hHeld ?_
         refine tak_ (i := 5) (N := some 93) (take_ofW HT_.out HW_.out (by kernel_rfl)) hHeld ?_
         refine tak_ (i := 8) (N := some 96) (take_ofW HT_.out HW_.out (by kernel_rfl)) hHeld ?_
         refine one_ (i := 9) (N := some 97) #[true, true, true, true, true, true, true, true, true, true, false, false, false, false, false] rfl rfl (one_of HT_.out (by kernel_rfl)) (by decide) (fun K hK => ?_)
         refine goes_ Tryz.func32 (by kernel_rfl) rfl #[.agg #[.int .i64 ((rd_T61 b 0).f0), .slice b9 ((rd_T61 b 0).f1).length c395_1, .int .i64 ((rd_T61 b 0).f2), .int .i64 ((rd_T61 b 0).f3), .int .i64 ((rd_T61 b 0).f4)], .agg #[.int .i64 ((rd_T61 b 1).f0), .slice ca ((rd_T61 b 1).f1).length c396_1, .int .i64 ((rd_T61 b 1).f2), .int .i64 ((rd_T61 b 1).f3), .int .i64 ((rd_T61 b 1).f4)], .agg #[.int .i64 ((rd_T61 b 2).f0), .slice cb ((rd_T61 b 2).f1).length c397_1, .int .i64 ((rd_T61 b 2).f2), .int .i64 ((rd_T61 b 2).f3), .int .i64 ((rd_T61 b 2).f4)], .func (.func 33) #[] #[]] (by rfl) rfl rfl ar_ ?_
         with_reducible refine (prop_Pairs_at_ext_Filter_1.calls k ((rd_T61 b 0).f0) _ _ ((rd_T61 b 0).f1) ((rd_T61 b 0).f2) ((rd_T61 b 0).f3) ((rd_T61 b 0).f4) ((rd_T61 b 1).f0) _ _ ((rd_T61 b 1).f1) ((rd_T61 b 1).f2) ((rd_T61 b 1).f3) ((rd_T61 b 1).f4) ((rd_T61 b 2).f0) _ _ ((rd_T61 b 2).f1) ((rd_T61 b 2).f2) ((rd_T61 b 2).f3) ((rd_T61 b 2).f4) dC true _ ?_ ?_ ?_ ?_ ?_ ?_ ?_ dV.out).mono ?_
         exact ca_ ((cb_ bR.out HB.out))
         exact cE.out
         exact ca_ ((cb_ bU.out HB.out))
         exact cF.out
         exact ca_ ((cb_ bX.out HB.out))
         exact cG.out
         exact ca_ ((cb_ HRtab.out HB.out))
         rintro e w33 ⟨d3, rfl, b8, hb⟩
         refine ⟨_, rfl, ?_⟩
         have dL := a_ (Kd.N_lower (nm_ (ok' := fun k_ => (w.heap.size ≤ k_) ∧ k_ ≠ bf) b8 (fun k_ hk_ => ⟨(Nat.le_trans (bz_ bel_) hk_), (Kd.freshB (bk_ c.out) k_ hk_)⟩)) (bz_ bel_))
         replace c := a_ (bb_ (bk_ c.out) hb)
         replace HB := a_ (bp_ bel_ hb)
         clear hb b8
         refine hK.out _ _ ⟨((HB.out.cell (wl_ w _ aA)).trans aA), ((HB.out.cell (wl_ w _ az)).trans az), ((HB.out.cell (wl_ w _ ay)).trans ay), ((HB.out.cell (wl_ w _ ax)).trans ax), ((HB.out.cell (wl_ w _ aw)).trans aw), ((HB.out.cell (wl_ w _ aF)).trans aF), ((HB.out.cell (wl_ w _ aE)).trans aE), ((HB.out.cell (wl_ w _ aD)).trans aD), ((HB.out.cell (wl_ w _ aC)).trans aC), ((HB.out.cell (wl_ w _ aB)).trans aB), ((HB.out.cell (wl_ w _ aK)).trans aK), ((HB.out.cell (wl_ w _ aJ)).trans aJ), ((HB.out.cell (wl_ w _ aI)).trans aI), ((HB.out.cell (wl_ w _ aH)).trans aH), ((HB.out.cell (wl_ w _ aG)).trans aG)⟩ (fun hHeld => ?_)
         clear hK K
         refine nor_ (N := some 97) ?_
         refine pu_ (i := 10) (N := some 87) (any_of HT_.out (by kernel_rfl)) ?_
         refine pu_ (i := 11) (N := some 98) (any_of HT_.out (by kernel_rfl)) ?_
         refine pu_ (i := 12) (N := some 99) (any_of HT_.out (by kernel_rfl)) ?_
         refine pu_ (i := 13) (N := some 7) (any_of HT_.out (by kernel_rfl)) ?_
         refine pu_ (i := 14) (N := some 8) (any_of HT_.out (by kernel_rfl)) ?_
         refine done_ (done_of HT_.out (by kernel_rfl)) ?_
         try go_wp2
         go_ret2
         exact ⟨_, by first | rfl | (simp [errW_none, errW_some] <;> rfl) | (simp [*, errW_none, errW_some] <;> rfl), by refine vN_ ?_; exact nm_ dL.out (fun _ hk => hk.1), bel_⟩
        ·
         replace c23 := bf_.mpr c23
         subst c23
         have H1 : (some (([] : List (S61)), false)) = some (r1, r2) := by rw [ig_ (show ¬ (false = true) by decide)] at H; exact H
         clear H
         have H := H1
         clear H1
         simp only [Option.some.injEq, Prod.mk.injEq] at H
         obtain ⟨rfl, rfl⟩ := H
         go_enter Tryz.func10, Tryz.ntmps10
         try go_wp2_with (first | ((with_reducible refine gate_dst (N := 2) rfl ?_); refine bxe_ (N := 2) (cs := #[.int .i64 av, .slice bv a1.length c0_1, .slice bw a2.length c0_2, .slice bx a3.length c0_3, .slice bz a4.length c0_4, .slice bA a5.length c0_5, .int .i64 a8, .slice bB a6.length c0_7]) (t := 32) ?_; intro bf hg w34 hbox hb; have c := a_ (hbox); have bC := a_ (by rw [hg]; exact (bz_ bel_) : w.heap.size ≤ bf); have cB := bC; replace HB := a_ (bp_ bel_ hb); clear hb hbox hg; obtain ⟨_, _, _, _, _, _, _, _, _, _, _, _, _, _, _, _⟩ := cel8_ c.out) | ((with_reducible refine gate_callee (f := 27) rfl ?_); refine goesL_ (some 11) rfl rfl Tryz.func27 (by kernel_rfl) rfl #[.agg #[.int .i64 av, .slice bv a1.length c0_1, .slice bw a2.length c0_2, .slice bx a3.length c0_3, .slice bz a4.length c0_4, .slice bA a5.length c0_5, .int .i64 a8, .slice bB a6.length c0_7], .slice A1 b.length c1, .int .i64 8, .int .i64 10] rfl ar_ ?_; (with_reducible refine (prop_Fits.calls k av _ _ a1 _ _ a2 _ _ a3 _ _ a4 _ _ a5 a8 _ _ a6 _ _ b 8 10 true _ ?_ ?_ ?_ ?_ ?_ ?_ ?_ ?_ ?_ ?_ ?_ ?_ ?_ ?_ A3.out).mono ?_); exact ca_ ((cb_ cf.out HB.out)); exact cg.out; exact ca_ ((cb_ ch.out HB.out)); exact ci.out; exact ca_ ((cb_ cj.out HB.out)); exact ck.out; exact ca_ ((cb_ cl.out HB.out)); exact cm.out; exact ca_ ((cb_ cn.out HB.out)); exact co.out; exact ca_ ((cb_ cp.out HB.out)); exact cq.out; exact ca_ ((cb_ a7.out HB.out)); exact cK.out; rintro e w36 ⟨rfl, hb⟩; refine ⟨_, rfl, ?_⟩; replace c := a_ (bb_ (bk_ c.out) hb); replace HB := a_ (bp_ bel_ hb); clear hb; obtain ⟨_, _, _, _, _, _, _, _, _, _, _, _, _, _, _, _⟩ := cel8_ c.out))
         replace c := a_ (blk_drew c.out)
         replace HB := a_ (below_drew1 HB.out)
         have p391 : 0 ≤ (0 : Int) := (by omega)
         have bi : 0 < (b.length : Int) := dq_
         obtain ⟨a, bg, c391_1, ct, v, x, y, z, A, a9, ba⟩ := at_T61 a7.out 0 p391 bi
         have d := A
         (try rw [show ((0 : Int)).toNat = 0 from rfl] at d)
         (try rw [show 0 * 5 = 0 from rfl] at d)
         (try rw [Addr.add_zero'] at d)
         have g := z
         (try rw [show ((0 : Int)).toNat = 0 from rfl] at g)
         (try rw [show 0 * 5 = 0 from rfl] at g)
         (try rw [Addr.add_zero'] at g)
         have l := y
         (try rw [show ((0 : Int)).toNat = 0 from rfl] at l)
         (try rw [show 0 * 5 = 0 from rfl] at l)
         (try rw [Addr.add_zero'] at l)
         have m := x
         (try rw [show ((0 : Int)).toNat = 0 from rfl] at m)
         (try rw [show 0 * 5 = 0 from rfl] at m)
         (try rw [Addr.add_zero'] at m)
         have o := v
         (try rw [show ((0 : Int)).toNat = 0 from rfl] at o)
         (try rw [show 0 * 5 = 0 from rfl] at o)
         (try rw [Addr.add_zero'] at o)
         cases ct
         have cR : (0 < b.length) = True := et_ (by omega)
         (try rw [show ((0 : Int)).toNat = 0 from rfl] at v)
         (try rw [show 0 * 5 = 0 from rfl] at v)
         (try rw [Addr.add_zero'] at v)
         (try rw [show ((0 : Int)).toNat = 0 from rfl] at x)
         (try rw [show 0 * 5 = 0 from rfl] at x)
         (try rw [Addr.add_zero'] at x)
         (try rw [show ((0 : Int)).toNat = 0 from rfl] at y)
         (try rw [show 0 * 5 = 0 from rfl] at y)
         (try rw [Addr.add_zero'] at y)
         (try rw [show ((0 : Int)).toNat = 0 from rfl] at z)
         (try rw [show 0 * 5 = 0 from rfl] at z)
         (try rw [Addr.add_zero'] at z)
         (try rw [show ((0 : Int)).toNat = 0 from rfl] at A)
         (try rw [show 0 * 5 = 0 from rfl] at A)
         (try rw [Addr.add_zero'] at A)
         replace v := (HB.out.cell (wl_ w _ v)).trans v
         replace x := (HB.out.cell (wl_ w _ x)).trans x
         replace y := (HB.out.cell (wl_ w _ y)).trans y
         replace z := (HB.out.cell (wl_ w _ z)).trans z
         replace A := (HB.out.cell (wl_ w _ A)).trans A
         have bb := a_ ba
         have bN := a_ a9
         clear ba a9
         replace p391 := et_ p391
         replace bi := et_ bi
         have p393 : 0 ≤ (1 : Int) := (by omega)
         have bj : 1 < (b.length : Int) := dq_
         obtain ⟨b7, bh, c393_1, cu, B, E, F, G, I, bc, bd⟩ := at_T61 a7.out 1 p393 bj
         have p := I
         (try rw [show ((1 : Int)).toNat = 1 from rfl] at p)
         (try rw [show 1 * 5 = 5 from rfl] at p)
         (try simp only [Nat.reduceMul, Nat.reduceEqDiff, Go.Addr.add, ↓reduceIte] at p)
         have q := G
         (try rw [show ((1 : Int)).toNat = 1 from rfl] at q)
         (try rw [show 1 * 5 = 5 from rfl] at q)
         (try simp only [Nat.reduceMul, Nat.reduceEqDiff, Go.Addr.add, ↓reduceIte] at q)
         have r := F
         (try rw [show ((1 : Int)).toNat = 1 from rfl] at r)
         (try rw [show 1 * 5 = 5 from rfl] at r)
         (try simp only [Nat.reduceMul, Nat.reduceEqDiff, Go.Addr.add, ↓reduceIte] at r)
         have s := E
         (try rw [show ((1 : Int)).toNat = 1 from rfl] at s)
         (try rw [show 1 * 5 = 5 from rfl] at s)
         (try simp only [Nat.reduceMul, Nat.reduceEqDiff, Go.Addr.add, ↓reduceIte] at s)
         have u := B
         (try rw [show ((1 : Int)).toNat = 1 from rfl] at u)
         (try rw [show 1 * 5 = 5 from rfl] at u)
         (try simp only [Nat.reduceMul, Nat.reduceEqDiff, Go.Addr.add, ↓reduceIte] at u)
         obtain rfl : a = b7 := (by injection cu)
         (try simp only [show (1 : Int).toNat = 1 from rfl, Nat.reduceMul, Nat.reduceEqDiff, Go.Addr.add, ↓reduceIte] at B)
         (try simp only [show (1 : Int).toNat = 1 from rfl, Nat.reduceMul, Nat.reduceEqDiff, Go.Addr.add, ↓reduceIte] at E)
         (try simp only [show (1 : Int).toNat = 1 from rfl, Nat.reduceMul, Nat.reduceEqDiff, Go.Addr.add, ↓reduceIte] at F)
         (try simp only [show (1 : Int).toNat = 1 from rfl, Nat.reduceMul, Nat.reduceEqDiff, Go.Addr.add, ↓reduceIte] at G)
         (try simp only [show (1 : Int).toNat = 1 from rfl, Nat.reduceMul, Nat.reduceEqDiff, Go.Addr.add, ↓reduceIte] at I)
         have cS : (1 < b.length) = True := et_ (by omega)
         (try rw [show ((1 : Int)).toNat = 1 from rfl] at B)
         (try rw [show 1 * 5 = 5 from rfl] at B)
         (try rw [show ((1 : Int)).toNat = 1 from rfl] at E)
         (try rw [show 1 * 5 = 5 from rfl] at E)
         (try rw [show ((1 : Int)).toNat = 1 from rfl] at F)
         (try rw [show 1 * 5 = 5 from rfl] at F)
         (try rw [show ((1 : Int)).toNat = 1 from rfl] at G)
         (try rw [show 1 * 5 = 5 from rfl] at G)
         (try rw [show ((1 : Int)).toNat = 1 from rfl] at I)
         (try rw [show 1 * 5 = 5 from rfl] at I)
         replace B := (HB.out.cell (wl_ w _ B)).trans B
         replace E := (HB.out.cell (wl_ w _ E)).trans E
         replace F := (HB.out.cell (wl_ w _ F)).trans F
         replace G := (HB.out.cell (wl_ w _ G)).trans G
         replace I := (HB.out.cell (wl_ w _ I)).trans I
         have be := a_ bd
         have bO := a_ bc
         clear bd bc
         replace p393 := et_ p393
         replace bj := et_ bj
         refine start_ (n := 11) (S := fun w' => w'.cell? a = some (.int .i64 ((rd_T61 b 0).f0)) ∧ w'.cell? ⟨a.block, a.off + 1, none⟩ = some (.slice bg ((rd_T61 b 0).f1).length c391_1) ∧ w'.cell? ⟨a.block, a.off + 2, none⟩ = some (.int .i64 ((rd_T61 b 0).f2)) ∧ w'.cell? ⟨a.block, a.off + 3, none⟩ = some (.int .i64 ((rd_T61 b 0).f3)) ∧ w'.cell? ⟨a.block, a.off + 4, none⟩ = some (.int .i64 ((rd_T61 b 0).f4)) ∧ w'.cell? ⟨a.block, a.off + 5, none⟩ = some (.int .i64 ((rd_T61 b 1).f0)) ∧ w'.cell? ⟨a.block, a.off + 5 + 1, none⟩ = some (.slice bh ((rd_T61 b 1).f1).length c393_1) ∧ w'.cell? ⟨a.block, a.off + 5 + 2, none⟩ = some (.int .i64 ((rd_T61 b 1).f2)) ∧ w'.cell? ⟨a.block, a.off + 5 + 3, none⟩ = some (.int .i64 ((rd_T61 b 1).f3)) ∧ w'.cell? ⟨a.block, a.off + 5 + 4, none⟩ = some (.int .i64 ((rd_T61 b 1).f4))) (ds := []) #[false, false, false, false, false, false, false, false, false, false, false] (by kernel_rfl) rfl rfl ⟨((HB.out.cell (wl_ w _ o)).trans o), ((HB.out.cell (wl_ w _ m)).trans m), ((HB.out.cell (wl_ w _ l)).trans l), ((HB.out.cell (wl_ w _ g)).trans g), ((HB.out.cell (wl_ w _ d)).trans d), ((HB.out.cell (wl_ w _ u)).trans u), ((HB.out.cell (wl_ w _ s)).trans s), ((HB.out.cell (wl_ w _ r)).trans r), ((HB.out.cell (wl_ w _ q)).trans q), ((HB.out.cell (wl_ w _ p)).trans p)⟩ (fun hHeld => ?_); refine with_tabW ext_Filter.tab5 ext_Filter.bits5 (fun HT_ HW_ => ?_)
         generalize w36.drew = w38 at c HB bb be v x y z A B E F G I hHeld ⊢
         refine pu_ (i := 0) (N := some 25) (any_of HT_.out (by kernel_rfl)) ?_
         refine pu_ (i := 1) (N := some 26) (any_of HT_.out (by kernel_rfl)) ?_
         refine pu_ (i := 4) (N := some 29) (any_of HT_.out (by kernel_rfl)) ?_
         refine pu_ (i := 5) (N := some 30) (any_of HT_.out (by kernel_rfl)) ?_
         refine tak_ (i := 2) (N := some 27) (take_ofW HT_.out HW_.out (by kernel_rfl)) hHeld ?_
         refine tak_ (i := 6) (N := some 31) (take_ofW HT_.out HW_.out (by kernel_rfl)) hHeld ?_
         refine one_ (i := 3) (N := some 28) #[true, true, true, true, true, true, true, false, false, false, false] rfl rfl (one_of HT_.out (by kernel_rfl)) (by decide) (fun K hK => ?_)
         refine goes_ Tryz.func29 (by kernel_rfl) rfl #[.agg #[.int .i64 ((rd_T61 b 0).f0), .slice bg ((rd_T61 b 0).f1).length c391_1, .int .i64 ((rd_T61 b 0).f2), .int .i64 ((rd_T61 b 0).f3), .int .i64 ((rd_T61 b 0).f4)]] (by rfl) rfl rfl ar_ ?_
         with_reducible refine (dom_Dom_Size.calls ((rd_T61 b 0).f0) _ _ ((rd_T61 b 0).f1) ((rd_T61 b 0).f2) ((rd_T61 b 0).f3) ((rd_T61 b 0).f4) cC _ ?_ ?_ dt.out).mono ?_
         exact ca_ ((cb_ bb.out HB.out))
         exact bN.out
         rintro e w39 ⟨rfl, hb⟩
         refine ⟨_, rfl, ?_⟩
         replace c := a_ (bb_ (bk_ c.out) hb)
         replace HB := a_ (bp_ bel_ hb)
         clear hb
         refine hK.out _ _ ⟨((HB.out.cell (wl_ w _ o)).trans o), ((HB.out.cell (wl_ w _ m)).trans m), ((HB.out.cell (wl_ w _ l)).trans l), ((HB.out.cell (wl_ w _ g)).trans g), ((HB.out.cell (wl_ w _ d)).trans d), ((HB.out.cell (wl_ w _ u)).trans u), ((HB.out.cell (wl_ w _ s)).trans s), ((HB.out.cell (wl_ w _ r)).trans r), ((HB.out.cell (wl_ w _ q)).trans q), ((HB.out.cell (wl_ w _ p)).trans p)⟩ (fun hHeld => ?_)
         clear hK K
         refine nor_ (N := some 28) ?_
         refine one_ (i := 7) (N := some 32) #[true, true, true, true, true, true, true, true, false, false, false] rfl rfl (one_of HT_.out (by kernel_rfl)) (by decide) (fun K hK => ?_)
         refine goes_ Tryz.func29 (by kernel_rfl) rfl #[.agg #[.int .i64 ((rd_T61 b 1).f0), .slice bh ((rd_T61 b 1).f1).length c393_1, .int .i64 ((rd_T61 b 1).f2), .int .i64 ((rd_T61 b 1).f3), .int .i64 ((rd_T61 b 1).f4)]] (by rfl) rfl rfl ar_ ?_
         with_reducible refine (dom_Dom_Size.calls ((rd_T61 b 1).f0) _ _ ((rd_T61 b 1).f1) ((rd_T61 b 1).f2) ((rd_T61 b 1).f3) ((rd_T61 b 1).f4) cD _ ?_ ?_ du.out).mono ?_
         exact ca_ ((cb_ be.out HB.out))
         exact bO.out
         rintro e w40 ⟨rfl, hb⟩
         refine ⟨_, rfl, ?_⟩
         replace c := a_ (bb_ (bk_ c.out) hb)
         replace HB := a_ (bp_ bel_ hb)
         clear hb
         refine hK.out _ _ ⟨((HB.out.cell (wl_ w _ o)).trans o), ((HB.out.cell (wl_ w _ m)).trans m), ((HB.out.cell (wl_ w _ l)).trans l), ((HB.out.cell (wl_ w _ g)).trans g), ((HB.out.cell (wl_ w _ d)).trans d), ((HB.out.cell (wl_ w _ u)).trans u), ((HB.out.cell (wl_ w _ s)).trans s), ((HB.out.cell (wl_ w _ r)).trans r), ((HB.out.cell (wl_ w _ q)).trans q), ((HB.out.cell (wl_ w _ p)).trans p)⟩ (fun hHeld => ?_)
         clear hK K
         refine nor_ (N := some 32) ?_
         refine pu_ (i := 8) (N := some 33) (any_of HT_.out (by kernel_rfl)) ?_
         refine pu_ (i := 9) (N := some 34) (any_of HT_.out (by kernel_rfl)) ?_
         refine pu_ (i := 10) (N := some 6) (any_of HT_.out (by kernel_rfl)) ?_
         refine done_ (done_of HT_.out (by kernel_rfl)) ?_
         obtain ⟨_, _, _, _, _, _, _, _, _, _, _, _, _, _, _, _⟩ := cel8_ c.out
         try go_wp2
         replace HB := a_ (below_drew1 HB.out)
         have p395 : 0 ≤ (0 : Int) := (by omega)
         have cv : 0 < (b.length : Int) := dq_
         obtain ⟨cT, b9, c395_1, c9, J, M, O, P, Q, bP, bQ⟩ := at_T61 a7.out 0 p395 cv
         have aw := Q
         (try rw [show ((0 : Int)).toNat = 0 from rfl] at aw)
         (try rw [show 0 * 5 = 0 from rfl] at aw)
         (try rw [Addr.add_zero'] at aw)
         have ax := P
         (try rw [show ((0 : Int)).toNat = 0 from rfl] at ax)
         (try rw [show 0 * 5 = 0 from rfl] at ax)
         (try rw [Addr.add_zero'] at ax)
         have ay := O
         (try rw [show ((0 : Int)).toNat = 0 from rfl] at ay)
         (try rw [show 0 * 5 = 0 from rfl] at ay)
         (try rw [Addr.add_zero'] at ay)
         have az := M
         (try rw [show ((0 : Int)).toNat = 0 from rfl] at az)
         (try rw [show 0 * 5 = 0 from rfl] at az)
         (try rw [Addr.add_zero'] at az)
         have aA := J
         (try rw [show ((0 : Int)).toNat = 0 from rfl] at aA)
         (try rw [show 0 * 5 = 0 from rfl] at aA)
         (try rw [Addr.add_zero'] at aA)
         obtain rfl : a = cT := (by injection c9)
         have dI : (0 < b.length) = True := et_ (by omega)
         (try rw [show ((0 : Int)).toNat = 0 from rfl] at J)
         (try rw [show 0 * 5 = 0 from rfl] at J)
         (try rw [Addr.add_zero'] at J)
         (try rw [show ((0 : Int)).toNat = 0 from rfl] at M)
         (try rw [show 0 * 5 = 0 from rfl] at M)
         (try rw [Addr.add_zero'] at M)
         (try rw [show ((0 : Int)).toNat = 0 from rfl] at O)
         (try rw [show 0 * 5 = 0 from rfl] at O)
         (try rw [Addr.add_zero'] at O)
         (try rw [show ((0 : Int)).toNat = 0 from rfl] at P)
         (try rw [show 0 * 5 = 0 from rfl] at P)
         (try rw [Addr.add_zero'] at P)
         (try rw [show ((0 : Int)).toNat = 0 from rfl] at Q)
         (try rw [show 0 * 5 = 0 from rfl] at Q)
         (try rw [Addr.add_zero'] at Q)
         replace J := (HB.out.cell (wl_ w _ J)).trans J
         replace M := (HB.out.cell (wl_ w _ M)).trans M
         replace O := (HB.out.cell (wl_ w _ O)).trans O
         replace P := (HB.out.cell (wl_ w _ P)).trans P
         replace Q := (HB.out.cell (wl_ w _ Q)).trans Q
         have bR := a_ bQ
         have cE := a_ bP
         clear bQ bP
         replace p395 := et_ p395
         replace cv := et_ cv
         have p396 : 0 ≤ (1 : Int) := (by omega)
         have cw : 1 < (b.length : Int) := dq_
         obtain ⟨cU, ca, c396_1, da, U, V, W, X, Y, bS, bT⟩ := at_T61 a7.out 1 p396 cw
         have aB := Y
         (try rw [show ((1 : Int)).toNat = 1 from rfl] at aB)
         (try rw [show 1 * 5 = 5 from rfl] at aB)
         (try simp only [Nat.reduceMul, Nat.reduceEqDiff, Go.Addr.add, ↓reduceIte] at aB)
         have aC := X
         (try rw [show ((1 : Int)).toNat = 1 from rfl] at aC)
         (try rw [show 1 * 5 = 5 from rfl] at aC)
         (try simp only [Nat.reduceMul, Nat.reduceEqDiff, Go.Addr.add, ↓reduceIte] at aC)
         have aD := W
         (try rw [show ((1 : Int)).toNat = 1 from rfl] at aD)
         (try rw [show 1 * 5 = 5 from rfl] at aD)
         (try simp only [Nat.reduceMul, Nat.reduceEqDiff, Go.Addr.add, ↓reduceIte] at aD)
         have aE := V
         (try rw [show ((1 : Int)).toNat = 1 from rfl] at aE)
         (try rw [show 1 * 5 = 5 from rfl] at aE)
         (try simp only [Nat.reduceMul, Nat.reduceEqDiff, Go.Addr.add, ↓reduceIte] at aE)
         have aF := U
         (try rw [show ((1 : Int)).toNat = 1 from rfl] at aF)
         (try rw [show 1 * 5 = 5 from rfl] at aF)
         (try simp only [Nat.reduceMul, Nat.reduceEqDiff, Go.Addr.add, ↓reduceIte] at aF)
         obtain rfl : a = cU := (by injection da)
         (try simp only [show (1 : Int).toNat = 1 from rfl, Nat.reduceMul, Nat.reduceEqDiff, Go.Addr.add, ↓reduceIte] at U)
         (try simp only [show (1 : Int).toNat = 1 from rfl, Nat.reduceMul, Nat.reduceEqDiff, Go.Addr.add, ↓reduceIte] at V)
         (try simp only [show (1 : Int).toNat = 1 from rfl, Nat.reduceMul, Nat.reduceEqDiff, Go.Addr.add, ↓reduceIte] at W)
         (try simp only [show (1 : Int).toNat = 1 from rfl, Nat.reduceMul, Nat.reduceEqDiff, Go.Addr.add, ↓reduceIte] at X)
         (try simp only [show (1 : Int).toNat = 1 from rfl, Nat.reduceMul, Nat.reduceEqDiff, Go.Addr.add, ↓reduceIte] at Y)
         have dJ : (1 < b.length) = True := et_ (by omega)
         (try rw [show ((1 : Int)).toNat = 1 from rfl] at U)
         (try rw [show 1 * 5 = 5 from rfl] at U)
         (try rw [show ((1 : Int)).toNat = 1 from rfl] at V)
         (try rw [show 1 * 5 = 5 from rfl] at V)
         (try rw [show ((1 : Int)).toNat = 1 from rfl] at W)
         (try rw [show 1 * 5 = 5 from rfl] at W)
         (try rw [show ((1 : Int)).toNat = 1 from rfl] at X)
         (try rw [show 1 * 5 = 5 from rfl] at X)
         (try rw [show ((1 : Int)).toNat = 1 from rfl] at Y)
         (try rw [show 1 * 5 = 5 from rfl] at Y)
         replace U := (HB.out.cell (wl_ w _ U)).trans U
         replace V := (HB.out.cell (wl_ w _ V)).trans V
         replace W := (HB.out.cell (wl_ w _ W)).trans W
         replace X := (HB.out.cell (wl_ w _ X)).trans X
         replace Y := (HB.out.cell (wl_ w _ Y)).trans Y
         have bU := a_ bT
         have cF := a_ bS
         clear bT bS
         replace p396 := et_ p396
         replace cw := et_ cw
         have p397 : 0 ≤ (2 : Int) := (by omega)
         have cx : 2 < (b.length : Int) := dq_
         obtain ⟨cV, cb, c397_1, db, Z, aa, ab, ac, ad, bV, bW⟩ := at_T61 a7.out 2 p397 cx
         have aG := ad
         (try rw [show ((2 : Int)).toNat = 2 from rfl] at aG)
         (try rw [show 2 * 5 = 10 from rfl] at aG)
         (try simp only [Nat.reduceMul, Nat.reduceEqDiff, Go.Addr.add, ↓reduceIte] at aG)
         have aH := ac
         (try rw [show ((2 : Int)).toNat = 2 from rfl] at aH)
         (try rw [show 2 * 5 = 10 from rfl] at aH)
         (try simp only [Nat.reduceMul, Nat.reduceEqDiff, Go.Addr.add, ↓reduceIte] at aH)
         have aI := ab
         (try rw [show ((2 : Int)).toNat = 2 from rfl] at aI)
         (try rw [show 2 * 5 = 10 from rfl] at aI)
         (try simp only [Nat.reduceMul, Nat.reduceEqDiff, Go.Addr.add, ↓reduceIte] at aI)
         have aJ := aa
         (try rw [show ((2 : Int)).toNat = 2 from rfl] at aJ)
         (try rw [show 2 * 5 = 10 from rfl] at aJ)
         (try simp only [Nat.reduceMul, Nat.reduceEqDiff, Go.Addr.add, ↓reduceIte] at aJ)
         have aK := Z
         (try rw [show ((2 : Int)).toNat = 2 from rfl] at aK)
         (try rw [show 2 * 5 = 10 from rfl] at aK)
         (try simp only [Nat.reduceMul, Nat.reduceEqDiff, Go.Addr.add, ↓reduceIte] at aK)
         obtain rfl : a = cV := (by injection db)
         (try simp only [show (2 : Int).toNat = 2 from rfl, Nat.reduceMul, Nat.reduceEqDiff, Go.Addr.add, ↓reduceIte] at Z)
         (try simp only [show (2 : Int).toNat = 2 from rfl, Nat.reduceMul, Nat.reduceEqDiff, Go.Addr.add, ↓reduceIte] at aa)
         (try simp only [show (2 : Int).toNat = 2 from rfl, Nat.reduceMul, Nat.reduceEqDiff, Go.Addr.add, ↓reduceIte] at ab)
         (try simp only [show (2 : Int).toNat = 2 from rfl, Nat.reduceMul, Nat.reduceEqDiff, Go.Addr.add, ↓reduceIte] at ac)
         (try simp only [show (2 : Int).toNat = 2 from rfl, Nat.reduceMul, Nat.reduceEqDiff, Go.Addr.add, ↓reduceIte] at ad)
         have dK : (2 < b.length) = True := et_ (by omega)
         (try rw [show ((2 : Int)).toNat = 2 from rfl] at Z)
         (try rw [show 2 * 5 = 10 from rfl] at Z)
         (try rw [show ((2 : Int)).toNat = 2 from rfl] at aa)
         (try rw [show 2 * 5 = 10 from rfl] at aa)
         (try rw [show ((2 : Int)).toNat = 2 from rfl] at ab)
         (try rw [show 2 * 5 = 10 from rfl] at ab)
         (try rw [show ((2 : Int)).toNat = 2 from rfl] at ac)
         (try rw [show 2 * 5 = 10 from rfl] at ac)
         (try rw [show ((2 : Int)).toNat = 2 from rfl] at ad)
         (try rw [show 2 * 5 = 10 from rfl] at ad)
         replace Z := (HB.out.cell (wl_ w _ Z)).trans Z
         replace aa := (HB.out.cell (wl_ w _ aa)).trans aa
         replace ab := (HB.out.cell (wl_ w _ ab)).trans ab
         replace ac := (HB.out.cell (wl_ w _ ac)).trans ac
         replace ad := (HB.out.cell (wl_ w _ ad)).trans ad
         have bX := a_ bW
         have cG := a_ bV
         clear bW bV
         replace p397 := et_ p397
         replace cx := et_ cx
         refine start_ (n := 15) (S := fun w' => w'.cell? a = some (.int .i64 ((rd_T61 b 0).f0)) ∧ w'.cell? ⟨a.block, a.off + 1, none⟩ = some (.slice b9 ((rd_T61 b 0).f1).length c395_1) ∧ w'.cell? ⟨a.block, a.off + 2, none⟩ = some (.int .i64 ((rd_T61 b 0).f2)) ∧ w'.cell? ⟨a.block, a.off + 3, none⟩ = some (.int .i64 ((rd_T61 b 0).f3)) ∧ w'.cell? ⟨a.block, a.off + 4, none⟩ = some (.int .i64 ((rd_T61 b 0).f4)) ∧ w'.cell? ⟨a.block, a.off + 5, none⟩ = some (.int .i64 ((rd_T61 b 1).f0)) ∧ w'.cell? ⟨a.block, a.off + 5 + 1, none⟩ = some (.slice ca ((rd_T61 b 1).f1).length c396_1) ∧ w'.cell? ⟨a.block, a.off + 5 + 2, none⟩ = some (.int .i64 ((rd_T61 b 1).f2)) ∧ w'.cell? ⟨a.block, a.off + 5 + 3, none⟩ = some (.int .i64 ((rd_T61 b 1).f3)) ∧ w'.cell? ⟨a.block, a.off + 5 + 4, none⟩ = some (.int .i64 ((rd_T61 b 1).f4)) ∧ w'.cell? ⟨a.block, a.off + 10, none⟩ = some (.int .i64 ((rd_T61 b 2).f0)) ∧ w'.cell? ⟨a.block, a.off + 10 + 1, none⟩ = some (.slice cb ((rd_T61 b 2).f1).length c397_1) ∧ w'.cell? ⟨a.block, a.off + 10 + 2, none⟩ = some (.int .i64 ((rd_T61 b 2).f2)) ∧ w'.cell? ⟨a.block, a.off + 10 + 3, none⟩ = some (.int .i64 ((rd_T61 b 2).f3)) ∧ w'.cell? ⟨a.block, a.off + 10 + 4, none⟩ = some (.int .i64 ((rd_T61 b 2).f4))) (ds := []) #[false, false, false, false, false, false, false, false, false, false, false, false, false, false, false] (by kernel_rfl) rfl rfl ⟨((HB.out.cell (wl_ w _ aA)).trans aA), ((HB.out.cell (wl_ w _ az)).trans az), ((HB.out.cell (wl_ w _ ay)).trans ay), ((HB.out.cell (wl_ w _ ax)).trans ax), ((HB.out.cell (wl_ w _ aw)).trans aw), ((HB.out.cell (wl_ w _ aF)).trans aF), ((HB.out.cell (wl_ w _ aE)).trans aE), ((HB.out.cell (wl_ w _ aD)).trans aD), ((HB.out.cell (wl_ w _ aC)).trans aC), ((HB.out.cell (wl_ w _ aB)).trans aB), ((HB.out.cell (wl_ w _ aK)).trans aK), ((HB.out.cell (wl_ w _ aJ)).trans aJ), ((HB.out.cell (wl_ w _ aI)).trans aI), ((HB.out.cell (wl_ w _ aH)).trans aH), ((HB.out.cell (wl_ w _ aG)).trans aG)⟩ (fun hHeld => ?_); refine with_tabW ext_Filter.tab14 ext_Filter.bits14 (fun HT_ HW_ => ?_)
         generalize w40.drew = w42 at c HB bR bU bX J M O P Q U V W X Y Z aa ab ac ad hHeld ⊢
         refine pu_ (i := 0) (N := some 88) (any_of HT_.out (by kernel_rfl)) ?_
         refine pu_ (i := 1) (N := some 89) (any_of HT_.out (by kernel_rfl)) ?_
         refine pu_ (i := 3) (N := some 91) (any_of HT_.out (by kernel_rfl)) ?_
         refine pu_ (i := 4) (N := some 92) (any_of HT_.out (by kernel_rfl)) ?_
         refine pu_ (i := 6) (N := some 94) (any_of HT_.out (by kernel_rfl)) ?_
         refine pu_ (i := 7) (N := some 95) (any_of HT_.out (by kernel_rfl)) ?_
         refine tak_ (i := 2) (N := some 90) (take_ofW HT_.out HW_.out (by kernel_rfl)) hHeld ?_
         refine tak_ (i := 5) (N := some 93) (take_ofW HT_.out HW_.out (by kernel_rfl)) hHeld ?_
         refine tak_ (i := 8) (N := some 96) (take_ofW HT_.out HW_.out (by kernel_rfl)) hHeld ?_
         refine one_ (i := 9) (N := some 97) #[true, true, true, true, true, true, true, true, true, true, false, false, false, false, false] rfl rfl (one_of HT_.out (by kernel_rfl)) (by decide) (fun K hK => ?_)
         refine goes_ Tryz.func32 (by kernel_rfl) rfl #[.agg #[.int .i64 ((rd_T61 b 0).f0), .slice b9 ((rd_T61 b 0).f1).length c395_1, .int .i64 ((rd_T61 b 0).f2), .int .i64 ((rd_T61 b 0).f3), .int .i64 ((rd_T61 b 0).f4)], .agg #[.int .i64 ((rd_T61 b 1).f0), .slice ca ((rd_T61 b 1).f1).length c396_1, .int .i64 ((rd_T61 b 1).f2), .int .i64 ((rd_T61 b 1).f3), .int .i64 ((rd_T61 b 1).f4)], .agg #[.int .i64 ((rd_T61 b 2).f0), .slice cb ((rd_T61 b 2).f1).length c397_1, .int .i64 ((rd_T61 b 2).f2), .int .i64 ((rd_T61 b 2).f3), .int .i64 ((rd_T61 b 2).f4)], .func (.func 33) #[] #[]] (by rfl) rfl rfl ar_ ?_
         with_reducible refine (prop_Pairs_at_ext_Filter_1.calls k ((rd_T61 b 0).f0) _ _ ((rd_T61 b 0).f1) ((rd_T61 b 0).f2) ((rd_T61 b 0).f3) ((rd_T61 b 0).f4) ((rd_T61 b 1).f0) _ _ ((rd_T61 b 1).f1) ((rd_T61 b 1).f2) ((rd_T61 b 1).f3) ((rd_T61 b 1).f4) ((rd_T61 b 2).f0) _ _ ((rd_T61 b 2).f1) ((rd_T61 b 2).f2) ((rd_T61 b 2).f3) ((rd_T61 b 2).f4) dC false _ ?_ ?_ ?_ ?_ ?_ ?_ ?_ dV.out).mono ?_
         exact ca_ ((cb_ bR.out HB.out))
         exact cE.out
         exact ca_ ((cb_ bU.out HB.out))
         exact cF.out
         exact ca_ ((cb_ bX.out HB.out))
         exact cG.out
         exact ca_ ((cb_ HRtab.out HB.out))
         rintro e w43 ⟨d3, rfl, b8, hb⟩
         refine ⟨_, rfl, ?_⟩
         replace HB := a_ (bp_ bel_ hb)
         clear hb b8
         refine hK.out _ _ ⟨((HB.out.cell (wl_ w _ aA)).trans aA), ((HB.out.cell (wl_ w _ az)).trans az), ((HB.out.cell (wl_ w _ ay)).trans ay), ((HB.out.cell (wl_ w _ ax)).trans ax), ((HB.out.cell (wl_ w _ aw)).trans aw), ((HB.out.cell (wl_ w _ aF)).trans aF), ((HB.out.cell (wl_ w _ aE)).trans aE), ((HB.out.cell (wl_ w _ aD)).trans aD), ((HB.out.cell (wl_ w _ aC)).trans aC), ((HB.out.cell (wl_ w _ aB)).trans aB), ((HB.out.cell (wl_ w _ aK)).trans aK), ((HB.out.cell (wl_ w _ aJ)).trans aJ), ((HB.out.cell (wl_ w _ aI)).trans aI), ((HB.out.cell (wl_ w _ aH)).trans aH), ((HB.out.cell (wl_ w _ aG)).trans aG)⟩ (fun hHeld => ?_)
         clear hK K
         refine nor_ (N := some 97) ?_
         refine pu_ (i := 10) (N := some 87) (any_of HT_.out (by kernel_rfl)) ?_
         refine pu_ (i := 11) (N := some 98) (any_of HT_.out (by kernel_rfl)) ?_
         refine pu_ (i := 12) (N := some 99) (any_of HT_.out (by kernel_rfl)) ?_
         refine pu_ (i := 13) (N := some 7) (any_of HT_.out (by kernel_rfl)) ?_
         refine pu_ (i := 14) (N := some 8) (any_of HT_.out (by kernel_rfl)) ?_
         refine done_ (done_of HT_.out (by kernel_rfl)) ?_
         try go_wp2
         go_ret2
         exact ⟨_, by first | rfl | (simp [errW_none, errW_some] <;> rfl) | (simp [*, errW_none, errW_some] <;> rfl), by first | exact Kd.S_nil _ _ _ _ _ | exact Kd.N_nil _ _ _ _ _ | exact Kd.V_nil _ _ _ _ _ | exact Kd.Q_nil _ _ _ _ _ | exact Kd.R_nil _ _ _ _ _, bel_⟩
       ·
        rw [ig_ c21] at H
        exact absurd H (by simp)
      ·
       rw [ig_ c20] at H
       have c20b0 : (av == 9) = false := be_.mpr c20
       have c20b1 : (av != 9) = true := ni_.mpr c20
       by_cases c44 : 2 < (b.length : Int)
       ·
        rw [ip_ c44] at H
        have c44b0 : decide (2 < (b.length : Int)) = true := dt_ c44
        have c44b1 : decide (2 < b.length) = true := dt_ (by omega)
        clear c44
        replace H := bs_.mp H
        obtain ⟨⟨dE, d4⟩, dF, H⟩ := H
        try dsimp only at H
        have dW := a_ dF
        clear dF
        by_cases c46 : d4 = true
        ·
         subst c46
         rw [ip_ rfl] at H
         simp only [Option.some.injEq, Prod.mk.injEq] at H
         obtain ⟨rfl, rfl⟩ := H
         go_enter Tryz.func10, Tryz.ntmps10
         try go_wp2_with (first | ((with_reducible refine gate_dst (N := 2) rfl ?_); refine bxe_ (N := 2) (cs := #[.int .i64 av, .slice bv a1.length c0_1, .slice bw a2.length c0_2, .slice bx a3.length c0_3, .slice bz a4.length c0_4, .slice bA a5.length c0_5, .int .i64 a8, .slice bB a6.length c0_7]) (t := 32) ?_; intro bf hg w47 hbox hb; have c := a_ (hbox); have bC := a_ (by rw [hg]; exact (bz_ bel_) : w.heap.size ≤ bf); have cB := bC; replace HB := a_ (bp_ bel_ hb); clear hb hbox hg; obtain ⟨_, _, _, _, _, _, _, _, _, _, _, _, _, _, _, _⟩ := cel8_ c.out) | ((with_reducible refine gate_callee (f := 27) rfl ?_); refine goesL_ (some 11) rfl rfl Tryz.func27 (by kernel_rfl) rfl #[.agg #[.int .i64 av, .slice bv a1.length c0_1, .slice bw a2.length c0_2, .slice bx a3.length c0_3, .slice bz a4.length c0_4, .slice bA a5.length c0_5, .int .i64 a8, .slice bB a6.length c0_7], .slice A1 b.length c1, .int .i64 8, .int .i64 10] rfl ar_ ?_; (with_reducible refine (prop_Fits.calls k av _ _ a1 _ _ a2 _ _ a3 _ _ a4 _ _ a5 a8 _ _ a6 _ _ b 8 10 true _ ?_ ?_ ?_ ?_ ?_ ?_ ?_ ?_ ?_ ?_ ?_ ?_ ?_ ?_ A3.out).mono ?_); exact ca_ ((cb_ cf.out HB.out)); exact cg.out; exact ca_ ((cb_ ch.out HB.out)); exact ci.out; exact ca_ ((cb_ cj.out HB.out)); exact ck.out; exact ca_ ((cb_ cl.out HB.out)); exact cm.out; exact ca_ ((cb_ cn.out HB.out)); exact co.out; exact ca_ ((cb_ cp.out HB.out)); exact cq.out; exact ca_ ((cb_ a7.out HB.out)); exact cK.out; rintro e w49 ⟨rfl, hb⟩; refine ⟨_, rfl, ?_⟩; replace c := a_ (bb_ (bk_ c.out) hb); replace HB := a_ (bp_ bel_ hb); clear hb; obtain ⟨_, _, _, _, _, _, _, _, _, _, _, _, _, _, _, _⟩ := cel8_ c.out))
         replace c := a_ (blk_drew c.out)
         replace HB := a_ (below_drew1 HB.out)
         have p391 : 0 ≤ (0 : Int) := (by omega)
         have bi : 0 < (b.length : Int) := dq_
         obtain ⟨a, bg, c391_1, ct, v, x, y, z, A, a9, ba⟩ := at_T61 a7.out 0 p391 bi
         have d := A
         (try rw [show ((0 : Int)).toNat = 0 from rfl] at d)
         (try rw [show 0 * 5 = 0 from rfl] at d)
         (try rw [Addr.add_zero'] at d)
         have g := z
         (try rw [show ((0 : Int)).toNat = 0 from rfl] at g)
         (try rw [show 0 * 5 = 0 from rfl] at g)
         (try rw [Addr.add_zero'] at g)
         have l := y
         (try rw [show ((0 : Int)).toNat = 0 from rfl] at l)
         (try rw [show 0 * 5 = 0 from rfl] at l)
         (try rw [Addr.add_zero'] at l)
         have m := x
         (try rw [show ((0 : Int)).toNat = 0 from rfl] at m)
         (try rw [show 0 * 5 = 0 from rfl] at m)
         (try rw [Addr.add_zero'] at m)
         have o := v
         (try rw [show ((0 : Int)).toNat = 0 from rfl] at o)
         (try rw [show 0 * 5 = 0 from rfl] at o)
         (try rw [Addr.add_zero'] at o)
         cases ct
         have cR : (0 < b.length) = True := et_ (by omega)
         (try rw [show ((0 : Int)).toNat = 0 from rfl] at v)
         (try rw [show 0 * 5 = 0 from rfl] at v)
         (try rw [Addr.add_zero'] at v)
         (try rw [show ((0 : Int)).toNat = 0 from rfl] at x)
         (try rw [show 0 * 5 = 0 from rfl] at x)
         (try rw [Addr.add_zero'] at x)
         (try rw [show ((0 : Int)).toNat = 0 from rfl] at y)
         (try rw [show 0 * 5 = 0 from rfl] at y)
         (try rw [Addr.add_zero'] at y)
         (try rw [show ((0 : Int)).toNat = 0 from rfl] at z)
         (try rw [show 0 * 5 = 0 from rfl] at z)
         (try rw [Addr.add_zero'] at z)
         (try rw [show ((0 : Int)).toNat = 0 from rfl] at A)
         (try rw [show 0 * 5 = 0 from rfl] at A)
         (try rw [Addr.add_zero'] at A)
         replace v := (HB.out.cell (wl_ w _ v)).trans v
         replace x := (HB.out.cell (wl_ w _ x)).trans x
         replace y := (HB.out.cell (wl_ w _ y)).trans y
         replace z := (HB.out.cell (wl_ w _ z)).trans z
         replace A := (HB.out.cell (wl_ w _ A)).trans A
         have bb := a_ ba
         have bN := a_ a9
         clear ba a9
         replace p391 := et_ p391
         replace bi := et_ bi
         have p393 : 0 ≤ (1 : Int) := (by omega)
         have bj : 1 < (b.length : Int) := dq_
         obtain ⟨b7, bh, c393_1, cu, B, E, F, G, I, bc, bd⟩ := at_T61 a7.out 1 p393 bj
         have p := I
         (try rw [show ((1 : Int)).toNat = 1 from rfl] at p)
         (try rw [show 1 * 5 = 5 from rfl] at p)
         (try simp only [Nat.reduceMul, Nat.reduceEqDiff, Go.Addr.add, ↓reduceIte] at p)
         have q := G
         (try rw [show ((1 : Int)).toNat = 1 from rfl] at q)
         (try rw [show 1 * 5 = 5 from rfl] at q)
         (try simp only [Nat.reduceMul, Nat.reduceEqDiff, Go.Addr.add, ↓reduceIte] at q)
         have r := F
         (try rw [show ((1 : Int)).toNat = 1 from rfl] at r)
         (try rw [show 1 * 5 = 5 from rfl] at r)
         (try simp only [Nat.reduceMul, Nat.reduceEqDiff, Go.Addr.add, ↓reduceIte] at r)
         have s := E
         (try rw [show ((1 : Int)).toNat = 1 from rfl] at s)
         (try rw [show 1 * 5 = 5 from rfl] at s)
         (try simp only [Nat.reduceMul, Nat.reduceEqDiff, Go.Addr.add, ↓reduceIte] at s)
         have u := B
         (try rw [show ((1 : Int)).toNat = 1 from rfl] at u)
         (try rw [show 1 * 5 = 5 from rfl] at u)
         (try simp only [Nat.reduceMul, Nat.reduceEqDiff, Go.Addr.add, ↓reduceIte] at u)
         obtain rfl : a = b7 := (by injection cu)
         (try simp only [show (1 : Int).toNat = 1 from rfl, Nat.reduceMul, Nat.reduceEqDiff, Go.Addr.add, ↓reduceIte] at B)
         (try simp only [show (1 : Int).toNat = 1 from rfl, Nat.reduceMul, Nat.reduceEqDiff, Go.Addr.add, ↓reduceIte] at E)
         (try simp only [show (1 : Int).toNat = 1 from rfl, Nat.reduceMul, Nat.reduceEqDiff, Go.Addr.add, ↓reduceIte] at F)
         (try simp only [show (1 : Int).toNat = 1 from rfl, Nat.reduceMul, Nat.reduceEqDiff, Go.Addr.add, ↓reduceIte] at G)
         (try simp only [show (1 : Int).toNat = 1 from rfl, Nat.reduceMul, Nat.reduceEqDiff, Go.Addr.add, ↓reduceIte] at I)
         have cS : (1 < b.length) = True := et_ (by omega)
         (try rw [show ((1 : Int)).toNat = 1 from rfl] at B)
         (try rw [show 1 * 5 = 5 from rfl] at B)
         (try rw [show ((1 : Int)).toNat = 1 from rfl] at E)
         (try rw [show 1 * 5 = 5 from rfl] at E)
         (try rw [show ((1 : Int)).toNat = 1 from rfl] at F)
         (try rw [show 1 * 5 = 5 from rfl] at F)
         (try rw [show ((1 : Int)).toNat = 1 from rfl] at G)
         (try rw [show 1 * 5 = 5 from rfl] at G)
         (try rw [show ((1 : Int)).toNat = 1 from rfl] at I)
         (try rw [show 1 * 5 = 5 from rfl] at I)
         replace B := (HB.out.cell (wl_ w _ B)).trans B
         replace E := (HB.out.cell (wl_ w _ E)).trans E
         replace F := (HB.out.cell (wl_ w _ F)).trans F
         replace G := (HB.out.cell (wl_ w _ G)).trans G
         replace I := (HB.out.cell (wl_ w _ I)).trans I
         have be := a_ bd
         have bO := a_ bc
         clear bd bc
         replace p393 := et_ p393
         replace bj := et_ bj
         refine start_ (n := 11) (S := fun w' => w'.cell? a = some (.int .i64 ((rd_T61 b 0).f0)) ∧ w'.cell? ⟨a.block, a.off + 1, none⟩ = some (.slice bg ((rd_T61 b 0).f1).length c391_1) ∧ w'.cell? ⟨a.block, a.off + 2, none⟩ = some (.int .i64 ((rd_T61 b 0).f2)) ∧ w'.cell? ⟨a.block, a.off + 3, none⟩ = some (.int .i64 ((rd_T61 b 0).f3)) ∧ w'.cell? ⟨a.block, a.off + 4, none⟩ = some (.int .i64 ((rd_T61 b 0).f4)) ∧ w'.cell? ⟨a.block, a.off + 5, none⟩ = some (.int .i64 ((rd_T61 b 1).f0)) ∧ w'.cell? ⟨a.block, a.off + 5 + 1, none⟩ = some (.slice bh ((rd_T61 b 1).f1).length c393_1) ∧ w'.cell? ⟨a.block, a.off + 5 + 2, none⟩ = some (.int .i64 ((rd_T61 b 1).f2)) ∧ w'.cell? ⟨a.block, a.off + 5 + 3, none⟩ = some (.int .i64 ((rd_T61 b 1).f3)) ∧ w'.cell? ⟨a.block, a.off + 5 + 4, none⟩ = some (.int .i64 ((rd_T61 b 1).f4))) (ds := []) #[false, false, false, false, false, false, false, false, false, false, false] (by kernel_rfl) rfl rfl ⟨((HB.out.cell (wl_ w _ o)).trans o), ((HB.out.cell (wl_ w _ m)).trans m), ((HB.out.cell (wl_ w _ l)).trans l), ((HB.out.cell (wl_ w _ g)).trans g), ((HB.out.cell (wl_ w _ d)).trans d), ((HB.out.cell (wl_ w _ u)).trans u), ((HB.out.cell (wl_ w _ s)).trans s), ((HB.out.cell (wl_ w _ r)).trans r), ((HB.out.cell (wl_ w _ q)).trans q), ((HB.out.cell (wl_ w _ p)).trans p)⟩ (fun hHeld => ?_); refine with_tabW ext_Filter.tab5 ext_Filter.bits5 (fun HT_ HW_ => ?_)
         generalize w49.drew = w51 at c HB bb be v x y z A B E F G I hHeld ⊢
         refine pu_ (i := 0) (N := some 25) (any_of HT_.out (by kernel_rfl)) ?_
         refine pu_ (i := 1) (N := some 26) (any_of HT_.out (by kernel_rfl)) ?_
         refine pu_ (i := 4) (N := some 29) (any_of HT_.out (by kernel_rfl)) ?_
         refine pu_ (i := 5) (N := some 30) (any_of HT_.out (by kernel_rfl)) ?_
         refine tak_ (i := 2) (N := some 27) (take_ofW HT_.out HW_.out (by kernel_rfl)) hHeld ?_
         refine tak_ (i := 6) (N := some 31) (take_ofW HT_.out HW_.out (by kernel_rfl)) hHeld ?_
         refine one_ (i := 3) (N := some 28) #[true, true, true, true, true, true, true, false, false, false, false] rfl rfl (one_of HT_.out (by kernel_rfl)) (by decide) (fun K hK => ?_)
         refine goes_ Tryz.func29 (by kernel_rfl) rfl #[.agg #[.int .i64 ((rd_T61 b 0).f0), .slice bg ((rd_T61 b 0).f1).length c391_1, .int .i64 ((rd_T61 b 0).f2), .int .i64 ((rd_T61 b 0).f3), .int .i64 ((rd_T61 b 0).f4)]] (by rfl) rfl rfl ar_ ?_
         with_reducible refine (dom_Dom_Size.calls ((rd_T61 b 0).f0) _ _ ((rd_T61 b 0).f1) ((rd_T61 b 0).f2) ((rd_T61 b 0).f3) ((rd_T61 b 0).f4) cC _ ?_ ?_ dt.out).mono ?_
         exact ca_ ((cb_ bb.out HB.out))
         exact bN.out
         rintro e w52 ⟨rfl, hb⟩
         refine ⟨_, rfl, ?_⟩
         replace c := a_ (bb_ (bk_ c.out) hb)
         replace HB := a_ (bp_ bel_ hb)
         clear hb
         refine hK.out _ _ ⟨((HB.out.cell (wl_ w _ o)).trans o), ((HB.out.cell (wl_ w _ m)).trans m), ((HB.out.cell (wl_ w _ l)).trans l), ((HB.out.cell (wl_ w _ g)).trans g), ((HB.out.cell (wl_ w _ d)).trans d), ((HB.out.cell (wl_ w _ u)).trans u), ((HB.out.cell (wl_ w _ s)).trans s), ((HB.out.cell (wl_ w _ r)).trans r), ((HB.out.cell (wl_ w _ q)).trans q), ((HB.out.cell (wl_ w _ p)).trans p)⟩ (fun hHeld => ?_)
         clear hK K
         refine nor_ (N := some 28) ?_
         refine one_ (i := 7) (N := some 32) #[true, true, true, true, true, true, true, true, false, false, false] rfl rfl (one_of HT_.out (by kernel_rfl)) (by decide) (fun K hK => ?_)
         refine goes_ Tryz.func29 (by kernel_rfl) rfl #[.agg #[.int .i64 ((rd_T61 b 1).f0), .slice bh ((rd_T61 b 1).f1).length c393_1, .int .i64 ((rd_T61 b 1).f2), .int .i64 ((rd_T61 b 1).f3), .int .i64 ((rd_T61 b 1).f4)]] (by rfl) rfl rfl ar_ ?_
         with_reducible refine (dom_Dom_Size.calls ((rd_T61 b 1).f0) _ _ ((rd_T61 b 1).f1) ((rd_T61 b 1).f2) ((rd_T61 b 1).f3) ((rd_T61 b 1).f4) cD _ ?_ ?_ du.out).mono ?_
         exact ca_ ((cb_ be.out HB.out))
         exact bO.out
         rintro e w53 ⟨rfl, hb⟩
         refine ⟨_, rfl, ?_⟩
         replace c := a_ (bb_ (bk_ c.out) hb)
         replace HB := a_ (bp_ bel_ hb)
         clear hb
         refine hK.out _ _ ⟨((HB.out.cell (wl_ w _ o)).trans o), ((HB.out.cell (wl_ w _ m)).trans m), ((HB.out.cell (wl_ w _ l)).trans l), ((HB.out.cell (wl_ w _ g)).trans g), ((HB.out.cell (wl_ w _ d)).trans d), ((HB.out.cell (wl_ w _ u)).trans u), ((HB.out.cell (wl_ w _ s)).trans s), ((HB.out.cell (wl_ w _ r)).trans r), ((HB.out.cell (wl_ w _ q)).trans q), ((HB.out.cell (wl_ w _ p)).trans p)⟩ (fun hHeld => ?_)
         clear hK K
         refine nor_ (N := some 32) ?_
         refine pu_ (i := 8) (N := some 33) (any_of HT_.out (by kernel_rfl)) ?_
         refine pu_ (i := 9) (N := some 34) (any_of HT_.out (by kernel_rfl)) ?_
         refine pu_ (i := 10) (N := some 6) (any_of HT_.out (by kernel_rfl)) ?_
         refine done_ (done_of HT_.out (by kernel_rfl)) ?_
         obtain ⟨_, _, _, _, _, _, _, _, _, _, _, _, _, _, _, _⟩ := cel8_ c.out
         try go_wp2
         replace c := a_ (blk_drew c.out)
         replace HB := a_ (below_drew1 HB.out)
         have p402 : 0 ≤ (0 : Int) := (by omega)
         have cy : 0 < (b.length : Int) := dq_
         obtain ⟨cW, cc, c402_1, dc, ae, af, ag, ah, ai, bY, bZ⟩ := at_T61 a7.out 0 p402 cy
         have aL := ai
         (try rw [show ((0 : Int)).toNat = 0 from rfl] at aL)
         (try rw [show 0 * 5 = 0 from rfl] at aL)
         (try rw [Addr.add_zero'] at aL)
         have aM := ah
         (try rw [show ((0 : Int)).toNat = 0 from rfl] at aM)
         (try rw [show 0 * 5 = 0 from rfl] at aM)
         (try rw [Addr.add_zero'] at aM)
         have aN := ag
         (try rw [show ((0 : Int)).toNat = 0 from rfl] at aN)
         (try rw [show 0 * 5 = 0 from rfl] at aN)
         (try rw [Addr.add_zero'] at aN)
         have aO := af
         (try rw [show ((0 : Int)).toNat = 0 from rfl] at aO)
         (try rw [show 0 * 5 = 0 from rfl] at aO)
         (try rw [Addr.add_zero'] at aO)
         have aP := ae
         (try rw [show ((0 : Int)).toNat = 0 from rfl] at aP)
         (try rw [show 0 * 5 = 0 from rfl] at aP)
         (try rw [Addr.add_zero'] at aP)
         obtain rfl : a = cW := (by injection dc)
         have dM : (0 < b.length) = True := et_ (by omega)
         (try rw [show ((0 : Int)).toNat = 0 from rfl] at ae)
         (try rw [show 0 * 5 = 0 from rfl] at ae)
         (try rw [Addr.add_zero'] at ae)
         (try rw [show ((0 : Int)).toNat = 0 from rfl] at af)
         (try rw [show 0 * 5 = 0 from rfl] at af)
         (try rw [Addr.add_zero'] at af)
         (try rw [show ((0 : Int)).toNat = 0 from rfl] at ag)
         (try rw [show 0 * 5 = 0 from rfl] at ag)
         (try rw [Addr.add_zero'] at ag)
         (try rw [show ((0 : Int)).toNat = 0 from rfl] at ah)
         (try rw [show 0 * 5 = 0 from rfl] at ah)
         (try rw [Addr.add_zero'] at ah)
         (try rw [show ((0 : Int)).toNat = 0 from rfl] at ai)
         (try rw [show 0 * 5 = 0 from rfl] at ai)
         (try rw [Addr.add_zero'] at ai)
         replace ae := (HB.out.cell (wl_ w _ ae)).trans ae
         replace af := (HB.out.cell (wl_ w _ af)).trans af
         replace ag := (HB.out.cell (wl_ w _ ag)).trans ag
         replace ah := (HB.out.cell (wl_ w _ ah)).trans ah
         replace ai := (HB.out.cell (wl_ w _ ai)).trans ai
         have b0 := a_ bZ
         have cH := a_ bY
         clear bZ bY
         replace p402 := et_ p402
         replace cy := et_ cy
         have p403 : 0 ≤ (1 : Int) := (by omega)
         have cz : 1 < (b.length : Int) := dq_
         obtain ⟨cX, cd, c403_1, dd, aj, ak, al, am, an, b1, b2⟩ := at_T61 a7.out 1 p403 cz
         have aQ := an
         (try rw [show ((1 : Int)).toNat = 1 from rfl] at aQ)
         (try rw [show 1 * 5 = 5 from rfl] at aQ)
         (try simp only [Nat.reduceMul, Nat.reduceEqDiff, Go.Addr.add, ↓reduceIte] at aQ)
         have aR := am
         (try rw [show ((1 : Int)).toNat = 1 from rfl] at aR)
         (try rw [show 1 * 5 = 5 from rfl] at aR)
         (try simp only [Nat.reduceMul, Nat.reduceEqDiff, Go.Addr.add, ↓reduceIte] at aR)
         have aS := al
         (try rw [show ((1 : Int)).toNat = 1 from rfl] at aS)
         (try rw [show 1 * 5 = 5 from rfl] at aS)
         (try simp only [Nat.reduceMul, Nat.reduceEqDiff, Go.Addr.add, ↓reduceIte] at aS)
         have aT := ak
         (try rw [show ((1 : Int)).toNat = 1 from rfl] at aT)
         (try rw [show 1 * 5 = 5 from rfl] at aT)
         (try simp only [Nat.reduceMul, Nat.reduceEqDiff, Go.Addr.add, ↓reduceIte] at aT)
         have aU := aj
         (try rw [show ((1 : Int)).toNat = 1 from rfl] at aU)
         (try rw [show 1 * 5 = 5 from rfl] at aU)
         (try simp only [Nat.reduceMul, Nat.reduceEqDiff, Go.Addr.add, ↓reduceIte] at aU)
         obtain rfl : a = cX := (by injection dd)
         (try simp only [show (1 : Int).toNat = 1 from rfl, Nat.reduceMul, Nat.reduceEqDiff, Go.Addr.add, ↓reduceIte] at aj)
         (try simp only [show (1 : Int).toNat = 1 from rfl, Nat.reduceMul, Nat.reduceEqDiff, Go.Addr.add, ↓reduceIte] at ak)
         (try simp only [show (1 : Int).toNat = 1 from rfl, Nat.reduceMul, Nat.reduceEqDiff, Go.Addr.add, ↓reduceIte] at al)
         (try simp only [show (1 : Int).toNat = 1 from rfl, Nat.reduceMul, Nat.reduceEqDiff, Go.Addr.add, ↓reduceIte] at am)
         (try simp only [show (1 : Int).toNat = 1 from rfl, Nat.reduceMul, Nat.reduceEqDiff, Go.Addr.add, ↓reduceIte] at an)
         have dN : (1 < b.length) = True := et_ (by omega)
         (try rw [show ((1 : Int)).toNat = 1 from rfl] at aj)
         (try rw [show 1 * 5 = 5 from rfl] at aj)
         (try rw [show ((1 : Int)).toNat = 1 from rfl] at ak)
         (try rw [show 1 * 5 = 5 from rfl] at ak)
         (try rw [show ((1 : Int)).toNat = 1 from rfl] at al)
         (try rw [show 1 * 5 = 5 from rfl] at al)
         (try rw [show ((1 : Int)).toNat = 1 from rfl] at am)
         (try rw [show 1 * 5 = 5 from rfl] at am)
         (try rw [show ((1 : Int)).toNat = 1 from rfl] at an)
         (try rw [show 1 * 5 = 5 from rfl] at an)
         replace aj := (HB.out.cell (wl_ w _ aj)).trans aj
         replace ak := (HB.out.cell (wl_ w _ ak)).trans ak
         replace al := (HB.out.cell (wl_ w _ al)).trans al
         replace am := (HB.out.cell (wl_ w _ am)).trans am
         replace an := (HB.out.cell (wl_ w _ an)).trans an
         have b3 := a_ b2
         have cI := a_ b1
         clear b2 b1
         replace p403 := et_ p403
         replace cz := et_ cz
         have p404 : 0 ≤ (2 : Int) := (by omega)
         have cA : 2 < (b.length : Int) := dq_
         obtain ⟨cY, ce, c404_1, de, ao, ap, aq, ar, au, b4, b5⟩ := at_T61 a7.out 2 p404 cA
         have aV := au
         (try rw [show ((2 : Int)).toNat = 2 from rfl] at aV)
         (try rw [show 2 * 5 = 10 from rfl] at aV)
         (try simp only [Nat.reduceMul, Nat.reduceEqDiff, Go.Addr.add, ↓reduceIte] at aV)
         have aW := ar
         (try rw [show ((2 : Int)).toNat = 2 from rfl] at aW)
         (try rw [show 2 * 5 = 10 from rfl] at aW)
         (try simp only [Nat.reduceMul, Nat.reduceEqDiff, Go.Addr.add, ↓reduceIte] at aW)
         have aX := aq
         (try rw [show ((2 : Int)).toNat = 2 from rfl] at aX)
         (try rw [show 2 * 5 = 10 from rfl] at aX)
         (try simp only [Nat.reduceMul, Nat.reduceEqDiff, Go.Addr.add, ↓reduceIte] at aX)
         have aY := ap
         (try rw [show ((2 : Int)).toNat = 2 from rfl] at aY)
         (try rw [show 2 * 5 = 10 from rfl] at aY)
         (try simp only [Nat.reduceMul, Nat.reduceEqDiff, Go.Addr.add, ↓reduceIte] at aY)
         have aZ := ao
         (try rw [show ((2 : Int)).toNat = 2 from rfl] at aZ)
         (try rw [show 2 * 5 = 10 from rfl] at aZ)
         (try simp only [Nat.reduceMul, Nat.reduceEqDiff, Go.Addr.add, ↓reduceIte] at aZ)
         obtain rfl : a = cY := (by injection de)
         (try simp only [show (2 : Int).toNat = 2 from rfl, Nat.reduceMul, Nat.reduceEqDiff, Go.Addr.add, ↓reduceIte] at ao)
         (try simp only [show (2 : Int).toNat = 2 from rfl, Nat.reduceMul, Nat.reduceEqDiff, Go.Addr.add, ↓reduceIte] at ap)
         (try simp only [show (2 : Int).toNat = 2 from rfl, Nat.reduceMul, Nat.reduceEqDiff, Go.Addr.add, ↓reduceIte] at aq)
         (try simp only [show (2 : Int).toNat = 2 from rfl, Nat.reduceMul, Nat.reduceEqDiff, Go.Addr.add, ↓reduceIte] at ar)
         (try simp only [show (2 : Int).toNat = 2 from rfl, Nat.reduceMul, Nat.reduceEqDiff, Go.Addr.add, ↓reduceIte] at au)
         have dO : (2 < b.length) = True := et_ (by omega)
         (try rw [show ((2 : Int)).toNat = 2 from rfl] at ao)
         (try rw [show 2 * 5 = 10 from rfl] at ao)
         (try rw [show ((2 : Int)).toNat = 2 from rfl] at ap)
         (try rw [show 2 * 5 = 10 from rfl] at ap)
         (try rw [show ((2 : Int)).toNat = 2 from rfl] at aq)
         (try rw [show 2 * 5 = 10 from rfl] at aq)
         (try rw [show ((2 : Int)).toNat = 2 from rfl] at ar)
         (try rw [show 2 * 5 = 10 from rfl] at ar)
         (try rw [show ((2 : Int)).toNat = 2 from rfl] at au)
         (try rw [show 2 * 5 = 10 from rfl] at au)
         replace ao := (HB.out.cell (wl_ w _ ao)).trans ao
         replace ap := (HB.out.cell (wl_ w _ ap)).trans ap
         replace aq := (HB.out.cell (wl_ w _ aq)).trans aq
         replace ar := (HB.out.cell (wl_ w _ ar)).trans ar
         replace au := (HB.out.cell (wl_ w _ au)).trans au
         have b6 := a_ b5
         have cJ := a_ b4
         clear b5 b4
         replace p404 := et_ p404
         replace cA := et_ cA
         refine start_ (n := 15) (S := fun w' => w'.cell? a = some (.int .i64 ((rd_T61 b 0).f0)) ∧ w'.cell? ⟨a.block, a.off + 1, none⟩ = some (.slice cc ((rd_T61 b 0).f1).length c402_1) ∧ w'.cell? ⟨a.block, a.off + 2, none⟩ = some (.int .i64 ((rd_T61 b 0).f2)) ∧ w'.cell? ⟨a.block, a.off + 3, none⟩ = some (.int .i64 ((rd_T61 b 0).f3)) ∧ w'.cell? ⟨a.block, a.off + 4, none⟩ = some (.int .i64 ((rd_T61 b 0).f4)) ∧ w'.cell? ⟨a.block, a.off + 5, none⟩ = some (.int .i64 ((rd_T61 b 1).f0)) ∧ w'.cell? ⟨a.block, a.off + 5 + 1, none⟩ = some (.slice cd ((rd_T61 b 1).f1).length c403_1) ∧ w'.cell? ⟨a.block, a.off + 5 + 2, none⟩ = some (.int .i64 ((rd_T61 b 1).f2)) ∧ w'.cell? ⟨a.block, a.off + 5 + 3, none⟩ = some (.int .i64 ((rd_T61 b 1).f3)) ∧ w'.cell? ⟨a.block, a.off + 5 + 4, none⟩ = some (.int .i64 ((rd_T61 b 1).f4)) ∧ w'.cell? ⟨a.block, a.off + 10, none⟩ = some (.int .i64 ((rd_T61 b 2).f0)) ∧ w'.cell? ⟨a.block, a.off + 10 + 1, none⟩ = some (.slice ce ((rd_T61 b 2).f1).length c404_1) ∧ w'.cell? ⟨a.block, a.off + 10 + 2, none⟩ = some (.int .i64 ((rd_T61 b 2).f2)) ∧ w'.cell? ⟨a.block, a.off + 10 + 3, none⟩ = some (.int .i64 ((rd_T61 b 2).f3)) ∧ w'.cell? ⟨a.block, a.off + 10 + 4, none⟩ = some (.int .i64 ((rd_T61 b 2).f4))) (ds := []) #[false, false, false, false, false, false, false, false, false, false, false, false, false, false, false] (by kernel_rfl) rfl rfl ⟨((HB.out.cell (wl_ w _ aP)).trans aP), ((HB.out.cell (wl_ w _ aO)).trans aO), ((HB.out.cell (wl_ w _ aN)).trans aN), ((HB.out.cell (wl_ w _ aM)).trans aM), ((HB.out.cell (wl_ w _ aL)).trans aL), ((HB.out.cell (wl_ w _ aU)).trans aU), ((HB.out.cell (wl_ w _ aT)).trans aT), ((HB.out.cell (wl_ w _ aS)).trans aS), ((HB.out.cell (wl_ w _ aR)).trans aR), ((HB.out.cell (wl_ w _ aQ)).trans aQ), ((HB.out.cell (wl_ w _ aZ)).trans aZ), ((HB.out.cell (wl_ w _ aY)).trans aY), ((HB.out.cell (wl_ w _ aX)).trans aX), ((HB.out.cell (wl_ w _ aW)).trans aW), ((HB.out.cell (wl_ w _ aV)).trans aV)⟩ (fun hHeld => ?_); refine with_tabW ext_Filter.tab8 ext_Filter.bits8 (fun HT_ HW_ => ?_)
         generalize w53.drew = w55 at c HB b0 b3 b6 ae af ag ah ai aj ak al am an ao ap aq ar au hHeld ⊢
         refine pu_ (i := 0) (N := some 36) (any_of HT_.out (by kernel_rfl)) ?_
         refine pu_ (i := 1) (N := some 37) (any_of HT_.out (by kernel_rfl)) ?_
         refine pu_ (i := 3) (N := some 39) (any_of HT_.out (by kernel_rfl)) ?_
         refine pu_ (i := 4) (N := some 40) (any_of HT_.out (by kernel_rfl)) ?_
         refine pu_ (i := 6) (N := some 42) (any_of HT_.out (by kernel_rfl)) ?_
         refine pu_ (i := 7) (N := some 43) (any_of HT_.out (by kernel_rfl)) ?_
         refine tak_ (i := 2) (N := some 38) (take_ofW HT_.out HW_.out (by kernel_rfl)) hHeld ?_
         refine tak_ (i := 5) (N := some 41) (take_ofW HT_.out HW_.out (by kernel_rfl)) hHeld ?_
         refine tak_ (i := 8) (N := some 44) (take_ofW HT_.out HW_.out (by kernel_rfl)) hHeld ?_
         refine one_ (i := 9) (N := some 45) #[true, true, true, true, true, true, true, true, true, true, false, false, false, false, false] rfl rfl (one_of HT_.out (by kernel_rfl)) (by decide) (fun K hK => ?_)
         refine goes_ Tryz.func32 (by kernel_rfl) rfl #[.agg #[.int .i64 ((rd_T61 b 0).f0), .slice cc ((rd_T61 b 0).f1).length c402_1, .int .i64 ((rd_T61 b 0).f2), .int .i64 ((rd_T61 b 0).f3), .int .i64 ((rd_T61 b 0).f4)], .agg #[.int .i64 ((rd_T61 b 1).f0), .slice cd ((rd_T61 b 1).f1).length c403_1, .int .i64 ((rd_T61 b 1).f2), .int .i64 ((rd_T61 b 1).f3), .int .i64 ((rd_T61 b 1).f4)], .agg #[.int .i64 ((rd_T61 b 2).f0), .slice ce ((rd_T61 b 2).f1).length c404_1, .int .i64 ((rd_T61 b 2).f2), .int .i64 ((rd_T61 b 2).f3), .int .i64 ((rd_T61 b 2).f4)], .func (.func 34) #[] #[]] (by rfl) rfl rfl ar_ ?_
         with_reducible refine (prop_Pairs_at_ext_Filter_2.calls k ((rd_T61 b 0).f0) _ _ ((rd_T61 b 0).f1) ((rd_T61 b 0).f2) ((rd_T61 b 0).f3) ((rd_T61 b 0).f4) ((rd_T61 b 1).f0) _ _ ((rd_T61 b 1).f1) ((rd_T61 b 1).f2) ((rd_T61 b 1).f3) ((rd_T61 b 1).f4) ((rd_T61 b 2).f0) _ _ ((rd_T61 b 2).f1) ((rd_T61 b 2).f2) ((rd_T61 b 2).f3) ((rd_T61 b 2).f4) dE true _ ?_ ?_ ?_ ?_ ?_ ?_ ?_ dW.out).mono ?_
         exact ca_ ((cb_ b0.out HB.out))
         exact cH.out
         exact ca_ ((cb_ b3.out HB.out))
         exact cI.out
         exact ca_ ((cb_ b6.out HB.out))
         exact cJ.out
         exact ca_ ((cb_ HRtab.out HB.out))
         rintro e w56 ⟨d5, rfl, b8, hb⟩
         refine ⟨_, rfl, ?_⟩
         have dP := a_ (Kd.N_lower (nm_ (ok' := fun k_ => (w.heap.size ≤ k_) ∧ k_ ≠ bf) b8 (fun k_ hk_ => ⟨(Nat.le_trans (bz_ bel_) hk_), (Kd.freshB (bk_ c.out) k_ hk_)⟩)) (bz_ bel_))
         replace c := a_ (bb_ (bk_ c.out) hb)
         replace HB := a_ (bp_ bel_ hb)
         clear hb b8
         refine hK.out _ _ ⟨((HB.out.cell (wl_ w _ aP)).trans aP), ((HB.out.cell (wl_ w _ aO)).trans aO), ((HB.out.cell (wl_ w _ aN)).trans aN), ((HB.out.cell (wl_ w _ aM)).trans aM), ((HB.out.cell (wl_ w _ aL)).trans aL), ((HB.out.cell (wl_ w _ aU)).trans aU), ((HB.out.cell (wl_ w _ aT)).trans aT), ((HB.out.cell (wl_ w _ aS)).trans aS), ((HB.out.cell (wl_ w _ aR)).trans aR), ((HB.out.cell (wl_ w _ aQ)).trans aQ), ((HB.out.cell (wl_ w _ aZ)).trans aZ), ((HB.out.cell (wl_ w _ aY)).trans aY), ((HB.out.cell (wl_ w _ aX)).trans aX), ((HB.out.cell (wl_ w _ aW)).trans aW), ((HB.out.cell (wl_ w _ aV)).trans aV)⟩ (fun hHeld => ?_)
         clear hK K
         refine nor_ (N := some 45) ?_
         refine pu_ (i := 10) (N := some 35) (any_of HT_.out (by kernel_rfl)) ?_
         refine pu_ (i := 11) (N := some 46) (any_of HT_.out (by kernel_rfl)) ?_
         refine pu_ (i := 12) (N := some 47) (any_of HT_.out (by kernel_rfl)) ?_
         refine pu_ (i := 13) (N := some 7) (any_of HT_.out (by kernel_rfl)) ?_
         refine pu_ (i := 14) (N := some 8) (any_of HT_.out (by kernel_rfl)) ?_
         refine done_ (done_of HT_.out (by kernel_rfl)) ?_
         try go_wp2
         go_ret2
         exact ⟨_, by first | rfl | (simp [errW_none, errW_some] <;> rfl) | (simp [*, errW_none, errW_some] <;> rfl), by refine vN_ ?_; exact nm_ dP.out (fun _ hk => hk.1), bel_⟩
        ·
         replace c46 := bf_.mpr c46
         subst c46
         have H1 : (some (([] : List (S61)), false)) = some (r1, r2) := by rw [ig_ (show ¬ (false = true) by decide)] at H; exact H
         clear H
         have H := H1
         clear H1
         simp only [Option.some.injEq, Prod.mk.injEq] at H
         obtain ⟨rfl, rfl⟩ := H
         go_enter Tryz.func10, Tryz.ntmps10
         try go_wp2_with (first | ((with_reducible refine gate_dst (N := 2) rfl ?_); refine bxe_ (N := 2) (cs := #[.int .i64 av, .slice bv a1.length c0_1, .slice bw a2.length c0_2, .slice bx a3.length c0_3, .slice bz a4.length c0_4, .slice bA a5.length c0_5, .int .i64 a8, .slice bB a6.length c0_7]) (t := 32) ?_; intro bf hg w57 hbox hb; have c := a_ (hbox); have bC := a_ (by rw [hg]; exact (bz_ bel_) : w.heap.size ≤ bf); have cB := bC; replace HB := a_ (bp_ bel_ hb); clear hb hbox hg; obtain ⟨_, _, _, _, _, _, _, _, _, _, _, _, _, _, _, _⟩ := cel8_ c.out) | ((with_reducible refine gate_callee (f := 27) rfl ?_); refine goesL_ (some 11) rfl rfl Tryz.func27 (by kernel_rfl) rfl #[.agg #[.int .i64 av, .slice bv a1.length c0_1, .slice bw a2.length c0_2, .slice bx a3.length c0_3, .slice bz a4.length c0_4, .slice bA a5.length c0_5, .int .i64 a8, .slice bB a6.length c0_7], .slice A1 b.length c1, .int .i64 8, .int .i64 10] rfl ar_ ?_; (with_reducible refine (prop_Fits.calls k av _ _ a1 _ _ a2 _ _ a3 _ _ a4 _ _ a5 a8 _ _ a6 _ _ b 8 10 true _ ?_ ?_ ?_ ?_ ?_ ?_ ?_ ?_ ?_ ?_ ?_ ?_ ?_ ?_ A3.out).mono ?_); exact ca_ ((cb_ cf.out HB.out)); exact cg.out; exact ca_ ((cb_ ch.out HB.out)); exact ci.out; exact ca_ ((cb_ cj.out HB.out)); exact ck.out; exact ca_ ((cb_ cl.out HB.out)); exact cm.out; exact ca_ ((cb_ cn.out HB.out)); exact co.out; exact ca_ ((cb_ cp.out HB.out)); exact cq.out; exact ca_ ((cb_ a7.out HB.out)); exact cK.out; rintro e w59 ⟨rfl, hb⟩; refine ⟨_, rfl, ?_⟩; replace c := a_ (bb_ (bk_ c.out) hb); replace HB := a_ (bp_ bel_ hb); clear hb; obtain ⟨_, _, _, _, _, _, _, _, _, _, _, _, _, _, _, _⟩ := cel8_ c.out))
         replace c := a_ (blk_drew c.out)
         replace HB := a_ (below_drew1 HB.out)
         have p391 : 0 ≤ (0 : Int) := (by omega)
         have bi : 0 < (b.length : Int) := dq_
         obtain ⟨a, bg, c391_1, ct, v, x, y, z, A, a9, ba⟩ := at_T61 a7.out 0 p391 bi
         have d := A
         (try rw [show ((0 : Int)).toNat = 0 from rfl] at d)
         (try rw [show 0 * 5 = 0 from rfl] at d)
         (try rw [Addr.add_zero'] at d)
         have g := z
         (try rw [show ((0 : Int)).toNat = 0 from rfl] at g)
         (try rw [show 0 * 5 = 0 from rfl] at g)
         (try rw [Addr.add_zero'] at g)
         have l := y
         (try rw [show ((0 : Int)).toNat = 0 from rfl] at l)
         (try rw [show 0 * 5 = 0 from rfl] at l)
         (try rw [Addr.add_zero'] at l)
         have m := x
         (try rw [show ((0 : Int)).toNat = 0 from rfl] at m)
         (try rw [show 0 * 5 = 0 from rfl] at m)
         (try rw [Addr.add_zero'] at m)
         have o := v
         (try rw [show ((0 : Int)).toNat = 0 from rfl] at o)
         (try rw [show 0 * 5 = 0 from rfl] at o)
         (try rw [Addr.add_zero'] at o)
         cases ct
         have cR : (0 < b.length) = True := et_ (by omega)
         (try rw [show ((0 : Int)).toNat = 0 from rfl] at v)
         (try rw [show 0 * 5 = 0 from rfl] at v)
         (try rw [Addr.add_zero'] at v)
         (try rw [show ((0 : Int)).toNat = 0 from rfl] at x)
         (try rw [show 0 * 5 = 0 from rfl] at x)
         (try rw [Addr.add_zero'] at x)
         (try rw [show ((0 : Int)).toNat = 0 from rfl] at y)
         (try rw [show 0 * 5 = 0 from rfl] at y)
         (try rw [Addr.add_zero'] at y)
         (try rw [show ((0 : Int)).toNat = 0 from rfl] at z)
         (try rw [show 0 * 5 = 0 from rfl] at z)
         (try rw [Addr.add_zero'] at z)
         (try rw [show ((0 : Int)).toNat = 0 from rfl] at A)
         (try rw [show 0 * 5 = 0 from rfl] at A)
         (try rw [Addr.add_zero'] at A)
         replace v := (HB.out.cell (wl_ w _ v)).trans v
         replace x := (HB.out.cell (wl_ w _ x)).trans x
         replace y := (HB.out.cell (wl_ w _ y)).trans y
         replace z := (HB.out.cell (wl_ w _ z)).trans z
         replace A := (HB.out.cell (wl_ w _ A)).trans A
         have bb := a_ ba
         have bN := a_ a9
         clear ba a9
         replace p391 := et_ p391
         replace bi := et_ bi
         have p393 : 0 ≤ (1 : Int) := (by omega)
         have bj : 1 < (b.length : Int) := dq_
         obtain ⟨b7, bh, c393_1, cu, B, E, F, G, I, bc, bd⟩ := at_T61 a7.out 1 p393 bj
         have p := I
         (try rw [show ((1 : Int)).toNat = 1 from rfl] at p)
         (try rw [show 1 * 5 = 5 from rfl] at p)
         (try simp only [Nat.reduceMul, Nat.reduceEqDiff, Go.Addr.add, ↓reduceIte] at p)
         have q := G
         (try rw [show ((1 : Int)).toNat = 1 from rfl] at q)
         (try rw [show 1 * 5 = 5 from rfl] at q)
         (try simp only [Nat.reduceMul, Nat.reduceEqDiff, Go.Addr.add, ↓reduceIte] at q)
         have r := F
         (try rw [show ((1 : Int)).toNat = 1 from rfl] at r)
         (try rw [show 1 * 5 = 5 from rfl] at r)
         (try simp only [Nat.reduceMul, Nat.reduceEqDiff, Go.Addr.add, ↓reduceIte] at r)
         have s := E
         (try rw [show ((1 : Int)).toNat = 1 from rfl] at s)
         (try rw [show 1 * 5 = 5 from rfl] at s)
         (try simp only [Nat.reduceMul, Nat.reduceEqDiff, Go.Addr.add, ↓reduceIte] at s)
         have u := B
         (try rw [show ((1 : Int)).toNat = 1 from rfl] at u)
         (try rw [show 1 * 5 = 5 from rfl] at u)
         (try simp only [Nat.reduceMul, Nat.reduceEqDiff, Go.Addr.add, ↓reduceIte] at u)
         obtain rfl : a = b7 := (by injection cu)
         (try simp only [show (1 : Int).toNat = 1 from rfl, Nat.reduceMul, Nat.reduceEqDiff, Go.Addr.add, ↓reduceIte] at B)
         (try simp only [show (1 : Int).toNat = 1 from rfl, Nat.reduceMul, Nat.reduceEqDiff, Go.Addr.add, ↓reduceIte] at E)
         (try simp only [show (1 : Int).toNat = 1 from rfl, Nat.reduceMul, Nat.reduceEqDiff, Go.Addr.add, ↓reduceIte] at F)
         (try simp only [show (1 : Int).toNat = 1 from rfl, Nat.reduceMul, Nat.reduceEqDiff, Go.Addr.add, ↓reduceIte] at G)
         (try simp only [show (1 : Int).toNat = 1 from rfl, Nat.reduceMul, Nat.reduceEqDiff, Go.Addr.add, ↓reduceIte] at I)
         have cS : (1 < b.length) = True := et_ (by omega)
         (try rw [show ((1 : Int)).toNat = 1 from rfl] at B)
         (try rw [show 1 * 5 = 5 from rfl] at B)
         (try rw [show ((1 : Int)).toNat = 1 from rfl] at E)
         (try rw [show 1 * 5 = 5 from rfl] at E)
         (try rw [show ((1 : Int)).toNat = 1 from rfl] at F)
         (try rw [show 1 * 5 = 5 from rfl] at F)
         (try rw [show ((1 : Int)).toNat = 1 from rfl] at G)
         (try rw [show 1 * 5 = 5 from rfl] at G)
         (try rw [show ((1 : Int)).toNat = 1 from rfl] at I)
         (try rw [show 1 * 5 = 5 from rfl] at I)
         replace B := (HB.out.cell (wl_ w _ B)).trans B
         replace E := (HB.out.cell (wl_ w _ E)).trans E
         replace F := (HB.out.cell (wl_ w _ F)).trans F
         replace G := (HB.out.cell (wl_ w _ G)).trans G
         replace I := (HB.out.cell (wl_ w _ I)).trans I
         have be := a_ bd
         have bO := a_ bc
         clear bd bc
         replace p393 := et_ p393
         replace bj := et_ bj
         refine start_ (n := 11) (S := fun w' => w'.cell? a = some (.int .i64 ((rd_T61 b 0).f0)) ∧ w'.cell? ⟨a.block, a.off + 1, none⟩ = some (.slice bg ((rd_T61 b 0).f1).length c391_1) ∧ w'.cell? ⟨a.block, a.off + 2, none⟩ = some (.int .i64 ((rd_T61 b 0).f2)) ∧ w'.cell? ⟨a.block, a.off + 3, none⟩ = some (.int .i64 ((rd_T61 b 0).f3)) ∧ w'.cell? ⟨a.block, a.off + 4, none⟩ = some (.int .i64 ((rd_T61 b 0).f4)) ∧ w'.cell? ⟨a.block, a.off + 5, none⟩ = some (.int .i64 ((rd_T61 b 1).f0)) ∧ w'.cell? ⟨a.block, a.off + 5 + 1, none⟩ = some (.slice bh ((rd_T61 b 1).f1).length c393_1) ∧ w'.cell? ⟨a.block, a.off + 5 + 2, none⟩ = some (.int .i64 ((rd_T61 b 1).f2)) ∧ w'.cell? ⟨a.block, a.off + 5 + 3, none⟩ = some (.int .i64 ((rd_T61 b 1).f3)) ∧ w'.cell? ⟨a.block, a.off + 5 + 4, none⟩ = some (.int .i64 ((rd_T61 b 1).f4))) (ds := []) #[false, false, false, false, false, false, false, false, false, false, false] (by kernel_rfl) rfl rfl ⟨((HB.out.cell (wl_ w _ o)).trans o), ((HB.out.cell (wl_ w _ m)).trans m), ((HB.out.cell (wl_ w _ l)).trans l), ((HB.out.cell (wl_ w _ g)).trans g), ((HB.out.cell (wl_ w _ d)).trans d), ((HB.out.cell (wl_ w _ u)).trans u), ((HB.out.cell (wl_ w _ s)).trans s), ((HB.out.cell (wl_ w _ r)).trans r), ((HB.out.cell (wl_ w _ q)).trans q), ((HB.out.cell (wl_ w _ p)).trans p)⟩ (fun hHeld => ?_); refine with_tabW ext_Filter.tab5 ext_Filter.bits5 (fun HT_ HW_ => ?_)
         generalize w59.drew = w61 at c HB bb be v x y z A B E F G I hHeld ⊢
         refine pu_ (i := 0) (N := some 25) (any_of HT_.out (by kernel_rfl)) ?_
         refine pu_ (i := 1) (N := some 26) (any_of HT_.out (by kernel_rfl)) ?_
         refine pu_ (i := 4) (N := some 29) (any_of HT_.out (by kernel_rfl)) ?_
         refine pu_ (i := 5) (N := some 30) (any_of HT_.out (by kernel_rfl)) ?_
         refine tak_ (i := 2) (N := some 27) (take_ofW HT_.out HW_.out (by kernel_rfl)) hHeld ?_
         refine tak_ (i := 6) (N := some 31) (take_ofW HT_.out HW_.out (by kernel_rfl)) hHeld ?_
         refine one_ (i := 3) (N := some 28) #[true, true, true, true, true, true, true, false, false, false, false] rfl rfl (one_of HT_.out (by kernel_rfl)) (by decide) (fun K hK => ?_)
         refine goes_ Tryz.func29 (by kernel_rfl) rfl #[.agg #[.int .i64 ((rd_T61 b 0).f0), .slice bg ((rd_T61 b 0).f1).length c391_1, .int .i64 ((rd_T61 b 0).f2), .int .i64 ((rd_T61 b 0).f3), .int .i64 ((rd_T61 b 0).f4)]] (by rfl) rfl rfl ar_ ?_
         with_reducible refine (dom_Dom_Size.calls ((rd_T61 b 0).f0) _ _ ((rd_T61 b 0).f1) ((rd_T61 b 0).f2) ((rd_T61 b 0).f3) ((rd_T61 b 0).f4) cC _ ?_ ?_ dt.out).mono ?_
         exact ca_ ((cb_ bb.out HB.out))
         exact bN.out
         rintro e w62 ⟨rfl, hb⟩
         refine ⟨_, rfl, ?_⟩
         replace c := a_ (bb_ (bk_ c.out) hb)
         replace HB := a_ (bp_ bel_ hb)
         clear hb
         refine hK.out _ _ ⟨((HB.out.cell (wl_ w _ o)).trans o), ((HB.out.cell (wl_ w _ m)).trans m), ((HB.out.cell (wl_ w _ l)).trans l), ((HB.out.cell (wl_ w _ g)).trans g), ((HB.out.cell (wl_ w _ d)).trans d), ((HB.out.cell (wl_ w _ u)).trans u), ((HB.out.cell (wl_ w _ s)).trans s), ((HB.out.cell (wl_ w _ r)).trans r), ((HB.out.cell (wl_ w _ q)).trans q), ((HB.out.cell (wl_ w _ p)).trans p)⟩ (fun hHeld => ?_)
         clear hK K
         refine nor_ (N := some 28) ?_
         refine one_ (i := 7) (N := some 32) #[true, true, true, true, true, true, true, true, false, false, false] rfl rfl (one_of HT_.out (by kernel_rfl)) (by decide) (fun K hK => ?_)
         refine goes_ Tryz.func29 (by kernel_rfl) rfl #[.agg #[.int .i64 ((rd_T61 b 1).f0), .slice bh ((rd_T61 b 1).f1).length c393_1, .int .i64 ((rd_T61 b 1).f2), .int .i64 ((rd_T61 b 1).f3), .int .i64 ((rd_T61 b 1).f4)]] (by rfl) rfl rfl ar_ ?_
         with_reducible refine (dom_Dom_Size.calls ((rd_T61 b 1).f0) _ _ ((rd_T61 b 1).f1) ((rd_T61 b 1).f2) ((rd_T61 b 1).f3) ((rd_T61 b 1).f4) cD _ ?_ ?_ du.out).mono ?_
         exact ca_ ((cb_ be.out HB.out))
         exact bO.out
         rintro e w63 ⟨rfl, hb⟩
         refine ⟨_, rfl, ?_⟩
         replace c := a_ (bb_ (bk_ c.out) hb)
         replace HB := a_ (bp_ bel_ hb)
         clear hb
         refine hK.out _ _ ⟨((HB.out.cell (wl_ w _ o)).trans o), ((HB.out.cell (wl_ w _ m)).trans m), ((HB.out.cell (wl_ w _ l)).trans l), ((HB.out.cell (wl_ w _ g)).trans g), ((HB.out.cell (wl_ w _ d)).trans d), ((HB.out.cell (wl_ w _ u)).trans u), ((HB.out.cell (wl_ w _ s)).trans s), ((HB.out.cell (wl_ w _ r)).trans r), ((HB.out.cell (wl_ w _ q)).trans q), ((HB.out.cell (wl_ w _ p)).trans p)⟩ (fun hHeld => ?_)
         clear hK K
         refine nor_ (N := some 32) ?_
         refine pu_ (i := 8) (N := some 33) (any_of HT_.out (by kernel_rfl)) ?_
         refine pu_ (i := 9) (N := some 34) (any_of HT_.out (by kernel_rfl)) ?_
         refine pu_ (i := 10) (N := some 6) (any_of HT_.out (by kernel_rfl)) ?_
         refine done_ (done_of HT_.out (by kernel_rfl)) ?_
         obtain ⟨_, _, _, _, _, _, _, _, _, _, _, _, _, _, _, _⟩ := cel8_ c.out
         try go_wp2
         replace HB := a_ (below_drew1 HB.out)
         have p402 : 0 ≤ (0 : Int) := (by omega)
         have cy : 0 < (b.length : Int) := dq_
         obtain ⟨cW, cc, c402_1, dc, ae, af, ag, ah, ai, bY, bZ⟩ := at_T61 a7.out 0 p402 cy
         have aL := ai
         (try rw [show ((0 : Int)).toNat = 0 from rfl] at aL)
         (try rw [show 0 * 5 = 0 from rfl] at aL)
         (try rw [Addr.add_zero'] at aL)
         have aM := ah
         (try rw [show ((0 : Int)).toNat = 0 from rfl] at aM)
         (try rw [show 0 * 5 = 0 from rfl] at aM)
         (try rw [Addr.add_zero'] at aM)
         have aN := ag
         (try rw [show ((0 : Int)).toNat = 0 from rfl] at aN)
         (try rw [show 0 * 5 = 0 from rfl] at aN)
         (try rw [Addr.add_zero'] at aN)
         have aO := af
         (try rw [show ((0 : Int)).toNat = 0 from rfl] at aO)
         (try rw [show 0 * 5 = 0 from rfl] at aO)
         (try rw [Addr.add_zero'] at aO)
         have aP := ae
         (try rw [show ((0 : Int)).toNat = 0 from rfl] at aP)
         (try rw [show 0 * 5 = 0 from rfl] at aP)
         (try rw [Addr.add_zero'] at aP)
         obtain rfl : a = cW := (by injection dc)
         have dM : (0 < b.length) = True := et_ (by omega)
         (try rw [show ((0 : Int)).toNat = 0 from rfl] at ae)
         (try rw [show 0 * 5 = 0 from rfl] at ae)
         (try rw [Addr.add_zero'] at ae)
         (try rw [show ((0 : Int)).toNat = 0 from rfl] at af)
         (try rw [show 0 * 5 = 0 from rfl] at af)
         (try rw [Addr.add_zero'] at af)
         (try rw [show ((0 : Int)).toNat = 0 from rfl] at ag)
         (try rw [show 0 * 5 = 0 from rfl] at ag)
         (try rw [Addr.add_zero'] at ag)
         (try rw [show ((0 : Int)).toNat = 0 from rfl] at ah)
         (try rw [show 0 * 5 = 0 from rfl] at ah)
         (try rw [Addr.add_zero'] at ah)
         (try rw [show ((0 : Int)).toNat = 0 from rfl] at ai)
         (try rw [show 0 * 5 = 0 from rfl] at ai)
         (try rw [Addr.add_zero'] at ai)
         replace ae := (HB.out.cell (wl_ w _ ae)).trans ae
         replace af := (HB.out.cell (wl_ w _ af)).trans af
         replace ag := (HB.out.cell (wl_ w _ ag)).trans ag
         replace ah := (HB.out.cell (wl_ w _ ah)).trans ah
         replace ai := (HB.out.cell (wl_ w _ ai)).trans ai
         have b0 := a_ bZ
         have cH := a_ bY
         clear bZ bY
         replace p402 := et_ p402
         replace cy := et_ cy
         have p403 : 0 ≤ (1 : Int) := (by omega)
         have cz : 1 < (b.length : Int) := dq_
         obtain ⟨cX, cd, c403_1, dd, aj, ak, al, am, an, b1, b2⟩ := at_T61 a7.out 1 p403 cz
         have aQ := an
         (try rw [show ((1 : Int)).toNat = 1 from rfl] at aQ)
         (try rw [show 1 * 5 = 5 from rfl] at aQ)
         (try simp only [Nat.reduceMul, Nat.reduceEqDiff, Go.Addr.add, ↓reduceIte] at aQ)
         have aR := am
         (try rw [show ((1 : Int)).toNat = 1 from rfl] at aR)
         (try rw [show 1 * 5 = 5 from rfl] at aR)
         (try simp only [Nat.reduceMul, Nat.reduceEqDiff, Go.Addr.add, ↓reduceIte] at aR)
         have aS := al
         (try rw [show ((1 : Int)).toNat = 1 from rfl] at aS)
         (try rw [show 1 * 5 = 5 from rfl] at aS)
         (try simp only [Nat.reduceMul, Nat.reduceEqDiff, Go.Addr.add, ↓reduceIte] at aS)
         have aT := ak
         (try rw [show ((1 : Int)).toNat = 1 from rfl] at aT)
         (try rw [show 1 * 5 = 5 from rfl] at aT)
         (try simp only [Nat.reduceMul, Nat.reduceEqDiff, Go.Addr.add, ↓reduceIte] at aT)
         have aU := aj
         (try rw [show ((1 : Int)).toNat = 1 from rfl] at aU)
         (try rw [show 1 * 5 = 5 from rfl] at aU)
         (try simp only [Nat.reduceMul, Nat.reduceEqDiff, Go.Addr.add, ↓reduceIte] at aU)
         obtain rfl : a = cX := (by injection dd)
         (try simp only [show (1 : Int).toNat = 1 from rfl, Nat.reduceMul, Nat.reduceEqDiff, Go.Addr.add, ↓reduceIte] at aj)
         (try simp only [show (1 : Int).toNat = 1 from rfl, Nat.reduceMul, Nat.reduceEqDiff, Go.Addr.add, ↓reduceIte] at ak)
         (try simp only [show (1 : Int).toNat = 1 from rfl, Nat.reduceMul, Nat.reduceEqDiff, Go.Addr.add, ↓reduceIte] at al)
         (try simp only [show (1 : Int).toNat = 1 from rfl, Nat.reduceMul, Nat.reduceEqDiff, Go.Addr.add, ↓reduceIte] at am)
         (try simp only [show (1 : Int).toNat = 1 from rfl, Nat.reduceMul, Nat.reduceEqDiff, Go.Addr.add, ↓reduceIte] at an)
         have dN : (1 < b.length) = True := et_ (by omega)
         (try rw [show ((1 : Int)).toNat = 1 from rfl] at aj)
         (try rw [show 1 * 5 = 5 from rfl] at aj)
         (try rw [show ((1 : Int)).toNat = 1 from rfl] at ak)
         (try rw [show 1 * 5 = 5 from rfl] at ak)
         (try rw [show ((1 : Int)).toNat = 1 from rfl] at al)
         (try rw [show 1 * 5 = 5 from rfl] at al)
         (try rw [show ((1 : Int)).toNat = 1 from rfl] at am)
         (try rw [show 1 * 5 = 5 from rfl] at am)
         (try rw [show ((1 : Int)).toNat = 1 from rfl] at an)
         (try rw [show 1 * 5 = 5 from rfl] at an)
         replace aj := (HB.out.cell (wl_ w _ aj)).trans aj
         replace ak := (HB.out.cell (wl_ w _ ak)).trans ak
         replace al := (HB.out.cell (wl_ w _ al)).trans al
         replace am := (HB.out.cell (wl_ w _ am)).trans am
         replace an := (HB.out.cell (wl_ w _ an)).trans an
         have b3 := a_ b2
         have cI := a_ b1
         clear b2 b1
         replace p403 := et_ p403
         replace cz := et_ cz
         have p404 : 0 ≤ (2 : Int) := (by omega)
         have cA : 2 < (b.length : Int) := dq_
         obtain ⟨cY, ce, c404_1, de, ao, ap, aq, ar, au, b4, b5⟩ := at_T61 a7.out 2 p404 cA
         have aV := au
         (try rw [show ((2 : Int)).toNat = 2 from rfl] at aV)
         (try rw [show 2 * 5 = 10 from rfl] at aV)
         (try simp only [Nat.reduceMul, Nat.reduceEqDiff, Go.Addr.add, ↓reduceIte] at aV)
         have aW := ar
         (try rw [show ((2 : Int)).toNat = 2 from rfl] at aW)
         (try rw [show 2 * 5 = 10 from rfl] at aW)
         (try simp only [Nat.reduceMul, Nat.reduceEqDiff, Go.Addr.add, ↓reduceIte] at aW)
         have aX := aq
         (try rw [show ((2 : Int)).toNat = 2 from rfl] at aX)
         (try rw [show 2 * 5 = 10 from rfl] at aX)
         (try simp only [Nat.reduceMul, Nat.reduceEqDiff, Go.Addr.add, ↓reduceIte] at aX)
         have aY := ap
         (try rw [show ((2 : Int)).toNat = 2 from rfl] at aY)
         (try rw [show 2 * 5 = 10 from rfl] at aY)
         (try simp only [Nat.reduceMul, Nat.reduceEqDiff, Go.Addr.add, ↓reduceIte] at aY)
         have aZ := ao
         (try rw [show ((2 : Int)).toNat = 2 from rfl] at aZ)
         (try rw [show 2 * 5 = 10 from rfl] at aZ)
         (try simp only [Nat.reduceMul, Nat.reduceEqDiff, Go.Addr.add, ↓reduceIte] at aZ)
         obtain rfl : a = cY := (by injection de)
         (try simp only [show (2 : Int).toNat = 2 from rfl, Nat.reduceMul, Nat.reduceEqDiff, Go.Addr.add, ↓reduceIte] at ao)
         (try simp only [show (2 : Int).toNat = 2 from rfl, Nat.reduceMul, Nat.reduceEqDiff, Go.Addr.add, ↓reduceIte] at ap)
         (try simp only [show (2 : Int).toNat = 2 from rfl, Nat.reduceMul, Nat.reduceEqDiff, Go.Addr.add, ↓reduceIte] at aq)
         (try simp only [show (2 : Int).toNat = 2 from rfl, Nat.reduceMul, Nat.reduceEqDiff, Go.Addr.add, ↓reduceIte] at ar)
         (try simp only [show (2 : Int).toNat = 2 from rfl, Nat.reduceMul, Nat.reduceEqDiff, Go.Addr.add, ↓reduceIte] at au)
         have dO : (2 < b.length) = True := et_ (by omega)
         (try rw [show ((2 : Int)).toNat = 2 from rfl] at ao)
         (try rw [show 2 * 5 = 10 from rfl] at ao)
         (try rw [show ((2 : Int)).toNat = 2 from rfl] at ap)
         (try rw [show 2 * 5 = 10 from rfl] at ap)
         (try rw [show ((2 : Int)).toNat = 2 from rfl] at aq)
         (try rw [show 2 * 5 = 10 from rfl] at aq)
         (try rw [show ((2 : Int)).toNat = 2 from rfl] at ar)
         (try rw [show 2 * 5 = 10 from rfl] at ar)
         (try rw [show ((2 : Int)).toNat = 2 from rfl] at au)
         (try rw [show 2 * 5 = 10 from rfl] at au)
         replace ao := (HB.out.cell (wl_ w _ ao)).trans ao
         replace ap := (HB.out.cell (wl_ w _ ap)).trans ap
         replace aq := (HB.out.cell (wl_ w _ aq)).trans aq
         replace ar := (HB.out.cell (wl_ w _ ar)).trans ar
         replace au := (HB.out.cell (wl_ w _ au)).trans au
         have b6 := a_ b5
         have cJ := a_ b4
         clear b5 b4
         replace p404 := et_ p404
         replace cA := et_ cA
         refine start_ (n := 15) (S := fun w' => w'.cell? a = some (.int .i64 ((rd_T61 b 0).f0)) ∧ w'.cell? ⟨a.block, a.off + 1, none⟩ = some (.slice cc ((rd_T61 b 0).f1).length c402_1) ∧ w'.cell? ⟨a.block, a.off + 2, none⟩ = some (.int .i64 ((rd_T61 b 0).f2)) ∧ w'.cell? ⟨a.block, a.off + 3, none⟩ = some (.int .i64 ((rd_T61 b 0).f3)) ∧ w'.cell? ⟨a.block, a.off + 4, none⟩ = some (.int .i64 ((rd_T61 b 0).f4)) ∧ w'.cell? ⟨a.block, a.off + 5, none⟩ = some (.int .i64 ((rd_T61 b 1).f0)) ∧ w'.cell? ⟨a.block, a.off + 5 + 1, none⟩ = some (.slice cd ((rd_T61 b 1).f1).length c403_1) ∧ w'.cell? ⟨a.block, a.off + 5 + 2, none⟩ = some (.int .i64 ((rd_T61 b 1).f2)) ∧ w'.cell? ⟨a.block, a.off + 5 + 3, none⟩ = some (.int .i64 ((rd_T61 b 1).f3)) ∧ w'.cell? ⟨a.block, a.off + 5 + 4, none⟩ = some (.int .i64 ((rd_T61 b 1).f4)) ∧ w'.cell? ⟨a.block, a.off + 10, none⟩ = some (.int .i64 ((rd_T61 b 2).f0)) ∧ w'.cell? ⟨a.block, a.off + 10 + 1, none⟩ = some (.slice ce ((rd_T61 b 2).f1).length c404_1) ∧ w'.cell? ⟨a.block, a.off + 10 + 2, none⟩ = some (.int .i64 ((rd_T61 b 2).f2)) ∧ w'.cell? ⟨a.block, a.off + 10 + 3, none⟩ = some (.int .i64 ((rd_T61 b 2).f3)) ∧ w'.cell? ⟨a.block, a.off + 10 + 4, none⟩ = some (.int .i64 ((rd_T61 b 2).f4))) (ds := []) #[false, false, false, false, false, false, false, false, false, false, false, false, false, false, false] (by kernel_rfl) rfl rfl ⟨((HB.out.cell (wl_ w _ aP)).trans aP), ((HB.out.cell (wl_ w _ aO)).trans aO), ((HB.out.cell (wl_ w _ aN)).trans aN), ((HB.out.cell (wl_ w _ aM)).trans aM), ((HB.out.cell (wl_ w _ aL)).trans aL), ((HB.out.cell (wl_ w _ aU)).trans aU), ((HB.out.cell (wl_ w _ aT)).trans aT), ((HB.out.cell (wl_ w _ aS)).trans aS), ((HB.out.cell (wl_ w _ aR)).trans aR), ((HB.out.cell (wl_ w _ aQ)).trans aQ), ((HB.out.cell (wl_ w _ aZ)).trans aZ), ((HB.out.cell (wl_ w _ aY)).trans aY), ((HB.out.cell (wl_ w _ aX)).trans aX), ((HB.out.cell (wl_ w _ aW)).trans aW), ((HB.out.cell (wl_ w _ aV)).trans aV)⟩ (fun hHeld => ?_); refine with_tabW ext_Filter.tab8 ext_Filter.bits8 (fun HT_ HW_ => ?_)
         generalize w63.drew = w65 at c HB b0 b3 b6 ae af ag ah ai aj ak al am an ao ap aq ar au hHeld ⊢
         refine pu_ (i := 0) (N := some 36) (any_of HT_.out (by kernel_rfl)) ?_
         refine pu_ (i := 1) (N := some 37) (any_of HT_.out (by kernel_rfl)) ?_
         refine pu_ (i := 3) (N := some 39) (any_of HT_.out (by kernel_rfl)) ?_
         refine pu_ (i := 4) (N := some 40) (any_of HT_.out (by kernel_rfl)) ?_
         refine pu_ (i := 6) (N := some 42) (any_of HT_.out (by kernel_rfl)) ?_
         refine pu_ (i := 7) (N := some 43) (any_of HT_.out (by kernel_rfl)) ?_
         refine tak_ (i := 2) (N := some 38) (take_ofW HT_.out HW_.out (by kernel_rfl)) hHeld ?_
         refine tak_ (i := 5) (N := some 41) (take_ofW HT_.out HW_.out (by kernel_rfl)) hHeld ?_
         refine tak_ (i := 8) (N := some 44) (take_ofW HT_.out HW_.out (by kernel_rfl)) hHeld ?_
         refine one_ (i := 9) (N := some 45) #[true, true, true, true, true, true, true, true, true, true, false, false, false, false, false] rfl rfl (one_of HT_.out (by kernel_rfl)) (by decide) (fun K hK => ?_)
         refine goes_ Tryz.func32 (by kernel_rfl) rfl #[.agg #[.int .i64 ((rd_T61 b 0).f0), .slice cc ((rd_T61 b 0).f1).length c402_1, .int .i64 ((rd_T61 b 0).f2), .int .i64 ((rd_T61 b 0).f3), .int .i64 ((rd_T61 b 0).f4)], .agg #[.int .i64 ((rd_T61 b 1).f0), .slice cd ((rd_T61 b 1).f1).length c403_1, .int .i64 ((rd_T61 b 1).f2), .int .i64 ((rd_T61 b 1).f3), .int .i64 ((rd_T61 b 1).f4)], .agg #[.int .i64 ((rd_T61 b 2).f0), .slice ce ((rd_T61 b 2).f1).length c404_1, .int .i64 ((rd_T61 b 2).f2), .int .i64 ((rd_T61 b 2).f3), .int .i64 ((rd_T61 b 2).f4)], .func (.func 34) #[] #[]] (by rfl) rfl rfl ar_ ?_
         with_reducible refine (prop_Pairs_at_ext_Filter_2.calls k ((rd_T61 b 0).f0) _ _ ((rd_T61 b 0).f1) ((rd_T61 b 0).f2) ((rd_T61 b 0).f3) ((rd_T61 b 0).f4) ((rd_T61 b 1).f0) _ _ ((rd_T61 b 1).f1) ((rd_T61 b 1).f2) ((rd_T61 b 1).f3) ((rd_T61 b 1).f4) ((rd_T61 b 2).f0) _ _ ((rd_T61 b 2).f1) ((rd_T61 b 2).f2) ((rd_T61 b 2).f3) ((rd_T61 b 2).f4) dE false _ ?_ ?_ ?_ ?_ ?_ ?_ ?_ dW.out).mono ?_
         exact ca_ ((cb_ b0.out HB.out))
         exact cH.out
         exact ca_ ((cb_ b3.out HB.out))
         exact cI.out
         exact ca_ ((cb_ b6.out HB.out))
         exact cJ.out
         exact ca_ ((cb_ HRtab.out HB.out))
         rintro e w66 ⟨d5, rfl, b8, hb⟩
         refine ⟨_, rfl, ?_⟩
         replace HB := a_ (bp_ bel_ hb)
         clear hb b8
         refine hK.out _ _ ⟨((HB.out.cell (wl_ w _ aP)).trans aP), ((HB.out.cell (wl_ w _ aO)).trans aO), ((HB.out.cell (wl_ w _ aN)).trans aN), ((HB.out.cell (wl_ w _ aM)).trans aM), ((HB.out.cell (wl_ w _ aL)).trans aL), ((HB.out.cell (wl_ w _ aU)).trans aU), ((HB.out.cell (wl_ w _ aT)).trans aT), ((HB.out.cell (wl_ w _ aS)).trans aS), ((HB.out.cell (wl_ w _ aR)).trans aR), ((HB.out.cell (wl_ w _ aQ)).trans aQ), ((HB.out.cell (wl_ w _ aZ)).trans aZ), ((HB.out.cell (wl_ w _ aY)).trans aY), ((HB.out.cell (wl_ w _ aX)).trans aX), ((HB.out.cell (wl_ w _ aW)).trans aW), ((HB.out.cell (wl_ w _ aV)).trans aV)⟩ (fun hHeld => ?_)
         clear hK K
         refine nor_ (N := some 45) ?_
         refine pu_ (i := 10) (N := some 35) (any_of HT_.out (by kernel_rfl)) ?_
         refine pu_ (i := 11) (N := some 46) (any_of HT_.out (by kernel_rfl)) ?_
         refine pu_ (i := 12) (N := some 47) (any_of HT_.out (by kernel_rfl)) ?_
         refine pu_ (i := 13) (N := some 7) (any_of HT_.out (by kernel_rfl)) ?_
         refine pu_ (i := 14) (N := some 8) (any_of HT_.out (by kernel_rfl)) ?_
         refine done_ (done_of HT_.out (by kernel_rfl)) ?_
         try go_wp2
         go_ret2
         exact ⟨_, by first | rfl | (simp [errW_none, errW_some] <;> rfl) | (simp [*, errW_none, errW_some] <;> rfl), by first | exact Kd.S_nil _ _ _ _ _ | exact Kd.N_nil _ _ _ _ _ | exact Kd.V_nil _ _ _ _ _ | exact Kd.Q_nil _ _ _ _ _ | exact Kd.R_nil _ _ _ _ _, bel_⟩
       ·
        rw [ig_ c44] at H
        exact absurd H (by simp)
    ·
     rw [ig_ c17] at H
     exact absurd H (by simp)
   ·
    rw [ig_ c15] at H
    exact absurd H (by simp)
 ·
  replace c4 := bf_.mpr c4
  subst c4
  have H1 : (some (([] : List (S61)), false)) = some (r1, r2) := by rw [ig_ (show ¬ (false = true) by decide)] at H; exact H
  clear H
  have H := H1
  clear H1
  simp only [Option.some.injEq, Prod.mk.injEq] at H
  obtain ⟨rfl, rfl⟩ := H
  go_enter Tryz.func10, Tryz.ntmps10
  go_wp2_with (first | ((with_reducible refine gate_dst (N := 2) rfl ?_); refine bxe_ (N := 2) (cs := #[.int .i64 av, .slice bv a1.length c0_1, .slice bw a2.length c0_2, .slice bx a3.length c0_3, .slice bz a4.length c0_4, .slice bA a5.length c0_5, .int .i64 a8, .slice bB a6.length c0_7]) (t := 32) ?_; intro bf hg w67 hbox hb; have c := a_ (hbox); have bC := a_ (by rw [hg]; exact (bz_ bel_) : w.heap.size ≤ bf); have cB := bC; replace HB := a_ (bp_ bel_ hb); clear hb hbox hg; obtain ⟨_, _, _, _, _, _, _, _, _, _, _, _, _, _, _, _⟩ := cel8_ c.out) | ((with_reducible refine gate_callee (f := 27) rfl ?_); refine goesL_ (some 11) rfl rfl Tryz.func27 (by kernel_rfl) rfl #[.agg #[.int .i64 av, .slice bv a1.length c0_1, .slice bw a2.length c0_2, .slice bx a3.length c0_3, .slice bz a4.length c0_4, .slice bA a5.length c0_5, .int .i64 a8, .slice bB a6.length c0_7], .slice A1 b.length c1, .int .i64 8, .int .i64 10] rfl ar_ ?_; (with_reducible refine (prop_Fits.calls k av _ _ a1 _ _ a2 _ _ a3 _ _ a4 _ _ a5 a8 _ _ a6 _ _ b 8 10 false _ ?_ ?_ ?_ ?_ ?_ ?_ ?_ ?_ ?_ ?_ ?_ ?_ ?_ ?_ A3.out).mono ?_); exact ca_ ((cb_ cf.out HB.out)); exact cg.out; exact ca_ ((cb_ ch.out HB.out)); exact ci.out; exact ca_ ((cb_ cj.out HB.out)); exact ck.out; exact ca_ ((cb_ cl.out HB.out)); exact cm.out; exact ca_ ((cb_ cn.out HB.out)); exact co.out; exact ca_ ((cb_ cp.out HB.out)); exact cq.out; exact ca_ ((cb_ a7.out HB.out)); exact cK.out; rintro e w69 ⟨rfl, hb⟩; refine ⟨_, rfl, ?_⟩; replace HB := a_ (bp_ bel_ hb); clear hb))
  go_ret2
  exact ⟨_, by first | rfl | (simp [errW_none, errW_some] <;> rfl) | (simp [*, errW_none, errW_some] <;> rfl), by first | exact Kd.S_nil _ _ _ _ _ | exact Kd.N_nil _ _ _ _ _ | exact Kd.V_nil _ _ _ _ _ | exact Kd.Q_nil _ _ _ _ _ | exact Kd.R_nil _ _ _ _ _, bel_⟩

end Go.Proofs.YtiofjnhmogeenaaGreatDoor.XExtFilters
