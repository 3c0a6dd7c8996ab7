-- by xprint.py, a program of this session, over the kit's print
import Derived.Test.YtmhchlbbfpmdgaaGreatDoorXCRex0
import Derived.Test.YtmhchlbbfpmdgaaGreatDoorXCRex7
import Derived.Test.YtmhchlbbfpmdgaaGreatDoorXCRex10
import Derived.Test.YtmhchlbbfpmdgaaGreatDoorXCRex12
import Derived.Test.YtmhchlbbfpmdgaaGreatDoorSq
namespace Go.Proofs.YtmhchlbbfpmdgaaGreatDoor.XClauseRefuses
open Go.RowKit Go.Proofs.YtmhchlbbfpmdgaaGreatDoor.Sq Go.Proofs.YtmhchlbbfpmdgaaGreatDoorW.PrintWords Go.Proofs.YtmhchlbbfpmdgaaGreatDoorW.PrintLast Go.Proofs.YtmhchlbbfpmdgaaGreatDoorW.PrintMore
attribute [local go_sem] max2_int min2_int max_two min_two max_three min_three max_four min_four   -- for this text's walks alone
set_option linter.unusedVariables false
set_option linter.unusedSimpArgs false

/-! ### clause_Filter: function 9 -/
def clause_Filter.l0 : Nat → List (S58) → List (S58) → Int → List (S58) → Int → Int → Int → List Int → List Int → List Int → List Int → List Int → Int → List (List Int) → Option ((List (S58)) × Bool)
 | 0, _, _, _, _, _, _, _, _, _, _, _, _, _, _ => none
 | k + 1, r, s, p, q, t, a, b, c, d, e, g, l, m, n => if a < t then (if 0 ≤ a then (if a < (q.length : Int) then ((clause_want.f b c d e g l m n a).bind fun u => ((dom_Dom_Has.f ((rd_T58 q a).f0) ((rd_T58 q a).f1) ((rd_T58 q a).f2) ((rd_T58 q a).f3) ((rd_T58 q a).f4) u).bind fun v => (if v = true then (if p ≥ 0 then (some (s, true)) else (clause_Filter.l0 k r s a q t (wrap64 (a + 1)) b c d e g l m n)) else (clause_Filter.l0 k r s p q t (wrap64 (a + 1)) b c d e g l m n)))) else (none)) else (none)) else (if p < 0 then (some (([] : List (S58)), false)) else (if 0 ≤ p then (if p < (r.length : Int) then ((clause_want.f b c d e g l m n p).bind fun x => ((dom_Dom_Only.f k ((rd_T58 r p).f0) ((rd_T58 r p).f1) ((rd_T58 r p).f2) ((rd_T58 r p).f3) ((rd_T58 r p).f4) x).bind fun o => (if p < (s.length : Int) then (some ((s.set (p : Int).toNat (⟨o.1, o.2.1, o.2.2.1, o.2.2.2.1, o.2.2.2.2.1⟩ : S58)), true)) else (none)))) else (none)) else (none)))
def clause_Filter.f (k : Nat) (a : Int) (b : List Int) (c : List Int) (d : List Int) (e : List Int) (g : List Int) (l : Int) (m : List (List Int)) (n : List (S58)) : Option ((List (S58)) × Bool) := (prop_Fits.f k a b c d e g l m n 12 12).bind fun o => (if o = true then ((slices_CloneDom.f n).bind fun p => (clause_Filter.l0 k n p (-1) n (n.length : Int) 0 a b c d e g l m)) else (some (([] : List (S58)), false)))
theorem clause_Filter.mono_l : ∀ k, (∀ e f g l m n o p q s a b c d, LeO (clause_Filter.l0 k e f g l m n o p q s a b c d) (clause_Filter.l0 (k + 1) e f g l m n o p q s a b c d))
 | 0 => by intros; exact LeO.none _
 | k + 1 => by
  have ih0 := clause_Filter.mono_l k
  intro e f g l m n o p q s a b c d
  unfold clause_Filter.l0
  have m0 := @dom_Dom_Only.mono
  have m1 := @prop_Fits.mono
  exact leo_
theorem clause_Filter.mono : ∀ a b c d e g l m n k, LeO (clause_Filter.f k a b c d e g l m n) (clause_Filter.f (k + 1) a b c d e g l m n) := by
 intro a b c d e g l m n k
 have ih0 := clause_Filter.mono_l k
 unfold clause_Filter.f
 have m0 := @dom_Dom_Only.mono
 have m1 := @prop_Fits.mono
 exact leo_
def clause_Filter.T15 : Bool × List (List Nat × List Nat) := (true, [([], []), ([], []), ([], []), ([], []), ([2, 3], [2, 3]), ([4], [4]), ([], []), ([], []), ([6, 7], [6, 7]), ([5, 8, 8], [5, 8]), ([9], [9]), ([10], [10]), ([10], [10]), ([0, 1, 0, 1, 2, 3, 4, 5, 6, 7, 8, 9, 10, 11], [0, 1]), ([13, 11, 9, 0, 1, 2, 3, 4, 5, 6, 7, 8, 9, 10, 11], [11, 13])])
def clause_Filter.B15 : List Nat := [0, 0, 0, 0, 12, 28, 0, 0, 192, 508, 1020, 2044, 2044, 4095, 12287]
theorem clause_Filter.tab15 : rtab .any (opsOf Tryz.f9 15) = clause_Filter.T15 := by kernel_rfl
theorem clause_Filter.bits15 : waitsOk clause_Filter.T15.2 clause_Filter.B15 = true := by kernel_rfl
set_option maxHeartbeats 8000000 in
set_option maxRecDepth 100000 in
theorem clause_Filter.calls (k : Nat) (A : Int) (J : Option Addr) (c0_1 : Nat) (r : List Int) (M : Option Addr) (c0_2 : Nat) (s : List Int) (O : Option Addr) (c0_3 : Nat) (u : List Int) (P : Option Addr) (c0_4 : Nat) (v : List Int) (Q : Option Addr) (c0_5 : Nat) (y : List Int) (B : Int) (U : Option Addr) (c0_7 : Nat) (z : List (List Int)) (P1_ : Nat → Prop) (A1 : Option Addr) (c1 : Nat) (d : List (S58)) (r1 : List (S58)) (r2 : Bool) (w : World) (a2 : Kd.C (Kd.int .i64) w J r.length r) (a3 : r.length ≤ c0_1) (a4 : Kd.C (Kd.int .i64) w M s.length s) (a5 : s.length ≤ c0_2) (a6 : Kd.C (Kd.int .i64) w O u.length u) (a7 : u.length ≤ c0_3) (a8 : Kd.C (Kd.int .i64) w P v.length v) (a9 : v.length ≤ c0_4) (ba : Kd.C (Kd.int .i64) w Q y.length y) (bb : y.length ≤ c0_5) (bc : Kd.C (Kd.slice 3 (Kd.int .i64)) w U z.length z) (bd : z.length ≤ c0_7) (bD : Kd.V k58 58 w w.heap.size (fun l => P1_ l) (.slice A1 d.length c1) d) (hrtab : Kd.C (Kd.int .u8) w (some ⟨0, 0, none⟩) tabL.length tabL) (h : clause_Filter.f k A r s u v y B z d = some (r1, r2)) :
  Calls Tryz.prog 9 #[.agg #[.int .i64 A, .slice J r.length c0_1, .slice M s.length c0_2, .slice O u.length c0_3, .slice P v.length c0_4, .slice Q y.length c0_5, .int .i64 B, .slice U z.length c0_7], .slice A1 d.length c1] w fun e w' => ∃ bu : Value, e = .returned (.tuple #[bu, .bool r2]) ∧ Kd.N k58 58 w' w.heap.size (fun l => (P1_ l ∨ w.heap.size ≤ l)) bu r1 ∧ Below w.heap.size w w' := by
 have hu32 := Tryz.underlying32
 have hu58 := Tryz.underlying58
 have ah := a_ a2
 have ai := a_ a3
 clear a2 a3
 have aj := a_ a4
 have ak := a_ a5
 clear a4 a5
 have al := a_ a6
 have am := a_ a7
 clear a6 a7
 have an := a_ a8
 have ao := a_ a9
 clear a8 a9
 have ap := a_ ba
 have aq := a_ bb
 clear ba bb
 have ar := a_ bc
 have au := a_ bd
 clear bc bd
 have ab := a_ (show Kd.V k58 58 w w.heap.size (fun l => (P1_ l ∨ w.heap.size ≤ l)) (.slice A1 d.length c1) d from vm_ bD (fun l hk => .inl hk))
 have HRtab := a_ hrtab
 clear hrtab
 have HB := a_ (Below.refl w.heap.size w)
 unfold clause_Filter.f at h
 have H := h
 clear h
 replace H := bo_ H
 obtain ⟨bv, A3, H⟩ := H
 try dsimp only at H
 by_cases c4 : bv = true
 rotate_left
 ·
  replace c4 := bf_.mpr c4
  subst c4
  have H1 : (some (([] : List (S58)), false)) = some (r1, r2) := by rw [ig_ (show ¬ (false = true) by decide)] at H; exact H
  clear H
  have H := H1
  clear H1
  simp only [Option.some.injEq, Prod.mk.injEq] at H
  obtain ⟨rfl, rfl⟩ := H
  go_enter Tryz.func9, Tryz.ntmps9
  go_wp2_with (first | ((with_reducible refine gate_dst (N := 2) rfl ?_); refine bxe_ (N := 2) (cs := #[.int .i64 A, .slice J r.length c0_1, .slice M s.length c0_2, .slice O u.length c0_3, .slice P v.length c0_4, .slice Q y.length c0_5, .int .i64 B, .slice U z.length c0_7]) (t := 32) ?_; intro g hg w49 hbox hb; replace ab := a_ (vb_ (Kd.V_elderB (vV_ ab.out) g (Nat.le_of_eq hg.symm)) hb); have c := a_ (hbox); have aR := a_ (by rw [hg]; exact (bz_ bel_) : w.heap.size ≤ g); have be := aR; replace HB := hq_ hb; clear hb hbox hg; obtain ⟨_, _, _, _, _, _, _, _, _, _, _, _, _, _, _, _⟩ := cel8_ c.out) | ((with_reducible refine gate_callee (f := 26) rfl ?_); refine goesL_ (some 12) rfl rfl Tryz.func26 kr_ rfl #[.agg #[.int .i64 A, .slice J r.length c0_1, .slice M s.length c0_2, .slice O u.length c0_3, .slice P v.length c0_4, .slice Q y.length c0_5, .int .i64 B, .slice U z.length c0_7], .slice A1 d.length c1, .int .i64 12, .int .i64 12] rfl ar_ ?_; (with_reducible refine (prop_Fits.calls k A _ _ r _ _ s _ _ u _ _ v _ _ y B _ _ z _ _ d 12 12 false _ ?_ ?_ ?_ ?_ ?_ ?_ ?_ ?_ ?_ ?_ ?_ ?_ ?_ ?_ A3.out).mono ?_); exact ca_ ((cb_ ah.out HB.out)); exact ai.out; exact ca_ ((cb_ aj.out HB.out)); exact ak.out; exact ca_ ((cb_ al.out HB.out)); exact am.out; exact ca_ ((cb_ an.out HB.out)); exact ao.out; exact ca_ ((cb_ ap.out HB.out)); exact aq.out; exact ca_ ((cb_ ar.out HB.out)); exact au.out; exact ca_ ((Kd.V_reads' ab.out).2.2); exact (Kd.V_reads' ab.out).2.1; rintro e w51 ⟨rfl, hb⟩; refine ⟨_, rfl, ?_⟩; replace HB := hq_ hb; clear hb))
  go_ret2
  exact ⟨_, er_, by first | exact Kd.S_nil _ _ _ _ _ | exact Kd.N_nil _ _ _ _ _ | exact Kd.V_nil _ _ _ _ _ | exact Kd.Q_nil _ _ _ _ _ | exact Kd.R_nil _ _ _ _ _, bel_⟩
 subst c4
 rw [ip_ rfl] at H
 replace H := bo_ H
 obtain ⟨F, A5, H⟩ := H
 try dsimp only at H
 have H' := a_ H
 clear H
 go_enter Tryz.func9, Tryz.ntmps9
 go_wp2_with (first | ((with_reducible refine gate_dst (N := 2) rfl ?_); refine bxe_ (N := 2) (cs := #[.int .i64 A, .slice J r.length c0_1, .slice M s.length c0_2, .slice O u.length c0_3, .slice P v.length c0_4, .slice Q y.length c0_5, .int .i64 B, .slice U z.length c0_7]) (t := 32) ?_; intro g hg w6 hbox hb; replace ab := a_ (vb_ (Kd.V_elderB (vV_ ab.out) g (Nat.le_of_eq hg.symm)) hb); have c := a_ (hbox); have aR := a_ (by rw [hg]; exact (bz_ bel_) : w.heap.size ≤ g); have be := aR; replace HB := hq_ hb; clear hb hbox hg; obtain ⟨_, _, _, _, _, _, _, _, _, _, _, _, _, _, _, _⟩ := cel8_ c.out) | ((with_reducible refine gate_callee (f := 26) rfl ?_); refine goesL_ (some 12) rfl rfl Tryz.func26 kr_ rfl #[.agg #[.int .i64 A, .slice J r.length c0_1, .slice M s.length c0_2, .slice O u.length c0_3, .slice P v.length c0_4, .slice Q y.length c0_5, .int .i64 B, .slice U z.length c0_7], .slice A1 d.length c1, .int .i64 12, .int .i64 12] rfl ar_ ?_; (with_reducible refine (prop_Fits.calls k A _ _ r _ _ s _ _ u _ _ v _ _ y B _ _ z _ _ d 12 12 true _ ?_ ?_ ?_ ?_ ?_ ?_ ?_ ?_ ?_ ?_ ?_ ?_ ?_ ?_ A3.out).mono ?_); exact ca_ ((cb_ ah.out HB.out)); exact ai.out; exact ca_ ((cb_ aj.out HB.out)); exact ak.out; exact ca_ ((cb_ al.out HB.out)); exact am.out; exact ca_ ((cb_ an.out HB.out)); exact ao.out; exact ca_ ((cb_ ap.out HB.out)); exact aq.out; exact ca_ ((cb_ ar.out HB.out)); exact au.out; exact ca_ ((Kd.V_reads' ab.out).2.2); exact (Kd.V_reads' ab.out).2.1; rintro e w8 ⟨rfl, hb⟩; refine ⟨_, rfl, ?_⟩; replace ab := a_ (vb_ (vV_ ab.out) hb); replace c := a_ (bq_ c.out hb); replace HB := hq_ hb; clear hb) | ((with_reducible refine gate_callee (f := 27) rfl ?_); refine goesL_ (some 15) rfl rfl Tryz.func27 kr_ rfl #[.slice A1 d.length c1] rfl ar_ ?_; (with_reducible refine (slices_CloneDom.calls (fun l => ((P1_ l ∨ w.heap.size ≤ l) ∧ l ≠ g)) _ _ d F _ ?_ A5.out).mono ?_); exact ab.out; rintro e w9 ⟨W, rfl, aH, hb⟩; refine ⟨_, rfl, ?_⟩; replace ab := a_ (Kd.V_elder' (vV_ ab.out) (Kd.N_base aH) hb); have br := a_ (Kd.N_lower (nm_ (ok' := fun l => (P1_ l ∨ w.heap.size ≤ l) ∧ l ≠ g) aH (fun l hk_ => ⟨Or.elim hk_ (fun hs_ => hs_.1) (fun hn_ => (.inr (Nat.le_trans (bz_ bel_) hn_))), Or.elim hk_ (fun hs_ => hs_.2) (fun hn_ => (Kd.freshB (bk_ c.out) l hn_))⟩)) (bz_ bel_)); replace c := a_ (bq_ c.out hb); replace HB := hq_ hb; clear hb aH))
 go_loopg [7, 18] k (fun kq v7 bF w' => ∃ (m : Int) (a : Int), v7 = .int .i64 m ∧ bF = .int .i64 a ∧ Aside0 (clause_Filter.l0 kq d F m d (d.length : Int) a A r s u v y B z = some (r1, r2)) ∧ Aside0 (kq ≤ k) ∧ Aside0 (Kd.V k58 58 w' w.heap.size (fun l => (P1_ l ∨ w.heap.size ≤ l) ∧ some l ≠ (W : Value).ownBlock ∧ l ≠ g) (.slice A1 d.length c1) d) ∧ Aside0 (Kd.N k58 58 w' w.heap.size (fun l => (P1_ l ∨ w.heap.size ≤ l) ∧ l ≠ g) W F) ∧ Aside0 (Kd.V k58 58 w' w.heap.size (fun l => (P1_ l ∨ w.heap.size ≤ l) ∧ some l ≠ (W : Value).ownBlock ∧ l ≠ g) (.slice A1 d.length c1) d) ∧ Aside0 (w'.heap[g]? = some (.cells #[.int .i64 A, (.slice J r.length c0_1), (.slice M s.length c0_2), (.slice O u.length c0_3), (.slice P v.length c0_4), (.slice Q y.length c0_5), .int .i64 B, (.slice U z.length c0_7)] 32 (0, 0))) ∧ Aside0 (Below w.heap.size w w'))
 case atStart => exact ⟨((-1)), (0), eq_, eq_, H', ⟨lr_ _⟩, ⟨by refine vV_ ?_; exact vm_ ab.out (fun _ hk => ⟨hk.1.1, ⟨hk.2, hk.1.2⟩⟩)⟩, ⟨vN_ br.out⟩, ⟨by refine vV_ ?_; exact vm_ ab.out (fun _ hk => ⟨hk.1.1, ⟨hk.2, hk.1.2⟩⟩)⟩, ⟨bk_ c.out⟩, ⟨bel_⟩⟩
 clear H'
 try clear c1
 try clear c2
 try clear p2
 try clear c4
 try clear c9
 obtain ⟨m, a, rfl, rfl, HA, bf, HO_1, HO_6, HO_16, c, HB⟩ := hrel
 cases gk with
 | zero => exact absurd HA.out (by simp [clause_Filter.l0])
 | succ k1 =>
  have H := HA.out
  clear HA
  simp only [clause_Filter.l0] at H
  by_cases c10 : a < (d.length : Int)
  rotate_left
  ·
   rw [ig_ c10] at H
   have c10b0 : decide (a < (d.length : Int)) = false := df_ c10
   clear c10
   by_cases c38 : m < 0
   ·
    rw [ip_ c38] at H
    have c38b0 : decide (m < 0) = true := dt_ c38
    clear c38
    simp only [Option.some.injEq, Prod.mk.injEq] at H
    obtain ⟨rfl, rfl⟩ := H
    go_wp2
    go_ret2
    exact ⟨_, er_, by first | exact Kd.S_nil _ _ _ _ _ | exact Kd.N_nil _ _ _ _ _ | exact Kd.V_nil _ _ _ _ _ | exact Kd.Q_nil _ _ _ _ _ | exact Kd.R_nil _ _ _ _ _, bel_⟩
   rw [ig_ c38] at H
   have c38b0 : decide (m < 0) = false := df_ c38
   clear c38
   by_cases c39 : 0 ≤ m
   rotate_left
   ·
    rw [ig_ c39] at H
    exact absurd H (by simp)
   rw [ip_ c39] at H
   have c39b0 : decide (0 ≤ m) = true := dt_ c39
   clear c39
   by_cases c40 : m < (d.length : Int)
   rotate_left
   ·
    rw [ig_ c40] at H
    exact absurd H (by simp)
   rw [ip_ c40] at H
   have c40b0 : decide (m < (d.length : Int)) = true := dt_ c40
   clear c40
   replace H := bo_ H
   obtain ⟨aZ, bG, H⟩ := H
   try dsimp only at H
   replace H := bs_.mp H
   obtain ⟨⟨aC, aD, aE, aF, aG, bx⟩, bm, H⟩ := H
   try dsimp only at H
   have bH := a_ bm
   clear bm
   by_cases c43 : m < (F.length : Int)
   rotate_left
   ·
    rw [ig_ c43] at H
    exact absurd H (by simp)
   rw [ip_ c43] at H
   have c43b0 : decide (m < (F.length : Int)) = true := dt_ c43
   clear c43
   obtain ⟨bz, ax⟩ : ∃ y_ : List (S58), y_ = (F.set (m : Int).toNat (⟨aC, aD, aE, aF, aG⟩ : S58)) := ⟨_, rfl⟩
   replace H : (some (bz, true)) = some (r1, r2) := by first | (rw [ax]; with_reducible exact H) | (have H2_ := (ob_ _ _).symm.trans H; rw [ax]; with_reducible exact H2_) | (have H2_ := (ob_ _ _).symm.trans H; with_reducible exact H2_) | with_reducible exact H | (rw [ax]; exact H) | exact H
   have bs := a_ ax
   clear ax
   simp only [Option.some.injEq, Prod.mk.injEq] at H
   obtain ⟨rfl, rfl⟩ := H
   try go_wp2
   replace HO_1 := a_ (Kd.V_drew HO_1.out)
   replace HO_6 := a_ (Kd.N_drew HO_6.out)
   replace c := a_ (blk_drew c.out)
   replace HB := a_ (below_drew1 HB.out)
   have p378 : 0 ≤ (m : Int) := dq_
   have aS : m < (d.length : Int) := dq_
   obtain ⟨aa, aY, c378_1, bA, aM, ay, aN, aO, aP, aQ, bj⟩ := at_T58 (Kd.V_reads' HO_1.out).2.2 m p378 aS
   cases bA
   obtain ⟨ce378, hce378, hMe378, hcc378⟩ := Kd.V_get HO_1.out z58 m p378 (by first | exact aS | exact dq_ | (have e_ := (Kd.V_reads' HO_1.out).1; omega))
   obtain ⟨ua378_1, uc378_1, rfl, az, aA⟩ := k58_openF hMe378
   have av := hcc378 1 _ rfl
   rw [add_field _ _ 1 (by omega)] at av
   replace av := si_ (av.symm.trans ay)
   injection av with hva_ hvn_ hvc_
   rw [hva_] at aA
   rw [hvc_] at az
   have HL378_1 := a_ (show Kd.V (Kd.int .u64) 80 _ w.heap.size _ _ ((rd_T58 d m).f1) from Kd.V_mk az aA)
   clear hva_ hvn_ hvc_ aA az
   clear hcc378 hce378
   have bC := a_ aQ
   clear bj aQ
   replace p378 := et_ p378
   replace aS := et_ aS
   refine start_ (n := 15) (S := fun w' => w'.cell? ⟨g, 0, none⟩ = some (.int .i64 A) ∧ w'.cell? ⟨g, 1, none⟩ = some (.slice J r.length c0_1) ∧ w'.cell? ⟨g, 2, none⟩ = some (.slice M s.length c0_2) ∧ w'.cell? ⟨g, 3, none⟩ = some (.slice O u.length c0_3) ∧ w'.cell? ⟨g, 4, none⟩ = some (.slice P v.length c0_4) ∧ w'.cell? ⟨g, 5, none⟩ = some (.slice Q y.length c0_5) ∧ w'.cell? ⟨g, 6, none⟩ = some (.int .i64 B) ∧ w'.cell? ⟨g, 7, none⟩ = some (.slice U z.length c0_7) ∧ w'.cell? (aa.add ((m).toNat * 5)) = some (.int .i64 ((rd_T58 d m).f0)) ∧ w'.cell? ⟨(aa.add ((m).toNat * 5)).block, (aa.add ((m).toNat * 5)).off + 1, none⟩ = some (.slice aY ((rd_T58 d m).f1).length c378_1) ∧ w'.cell? ⟨(aa.add ((m).toNat * 5)).block, (aa.add ((m).toNat * 5)).off + 2, none⟩ = some (.int .i64 ((rd_T58 d m).f2)) ∧ w'.cell? ⟨(aa.add ((m).toNat * 5)).block, (aa.add ((m).toNat * 5)).off + 3, none⟩ = some (.int .i64 ((rd_T58 d m).f3)) ∧ w'.cell? ⟨(aa.add ((m).toNat * 5)).block, (aa.add ((m).toNat * 5)).off + 4, none⟩ = some (.int .i64 ((rd_T58 d m).f4))) (ds := [14]) #[false, false, false, false, false, false, false, false, false, false, false, false, false, false, false] kr_ rfl rfl (cb8_ c.out ⟨aM, ay, aN, aO, aP⟩) (fun hHeld => ?_); refine with_tabW clause_Filter.tab15 clause_Filter.bits15 (fun HT_ HW_ => ?_)
   generalize wr.drew = w45 at HO_1 HO_6 HO_16 c HB HL378_1 aM ay aN aO aP hHeld ⊢
   refine pu_ (i := 0) (N := some 37) ao_ ?_
   refine pu_ (i := 1) (N := some 38) ao_ ?_
   refine pu_ (i := 2) (N := some 39) ao_ ?_
   refine pu_ (i := 3) (N := some 40) ao_ ?_
   refine pu_ (i := 4) (N := some 41) ao_ ?_
   refine pu_ (i := 7) (N := some 44) ao_ ?_
   refine tak_ (i := 5) (N := some 42) tw_ hHeld ?_
   refine tak_ (i := 6) (N := some 43) tw_ hHeld ?_
   refine one_ (i := 8) (N := some 45) #[true, true, true, true, true, true, true, true, true, false, false, false, false, false, false] rfl rfl on_ (by decide) (fun K hK => ?_)
   refine goes_ Tryz.func28 kr_ rfl #[.agg #[.int .i64 A, .slice J r.length c0_1, .slice M s.length c0_2, .slice O u.length c0_3, .slice P v.length c0_4, .slice Q y.length c0_5, .int .i64 B, .slice U z.length c0_7], .int .i64 m] (by rfl) rfl rfl ar_ ?_
   with_reducible refine (clause_want.calls A _ _ r _ _ s _ _ u _ _ v _ _ y B _ _ z m aZ _ ?_ ?_ ?_ ?_ ?_ ?_ ?_ ?_ ?_ ?_ ?_ ?_ bG.out).mono ?_
   exact ca_ ((cb_ ah.out HB.out))
   exact ai.out
   exact ca_ ((cb_ aj.out HB.out))
   exact ak.out
   exact ca_ ((cb_ al.out HB.out))
   exact am.out
   exact ca_ ((cb_ an.out HB.out))
   exact ao.out
   exact ca_ ((cb_ ap.out HB.out))
   exact aq.out
   exact ca_ ((cb_ ar.out HB.out))
   exact au.out
   rintro e w46 ⟨rfl, hb⟩
   have a0 := (hb.cell (wl_ _ _ (hHeld.2.2.2.2.2.2.2.2.1))).trans (hHeld.2.2.2.2.2.2.2.2.1)
   have a1 := (hb.cell (wl_ _ _ (hHeld.2.2.2.2.2.2.2.2.2.1))).trans (hHeld.2.2.2.2.2.2.2.2.2.1)
   have aT := (hb.cell (wl_ _ _ (hHeld.2.2.2.2.2.2.2.2.2.2.1))).trans (hHeld.2.2.2.2.2.2.2.2.2.2.1)
   have aU := (hb.cell (wl_ _ _ (hHeld.2.2.2.2.2.2.2.2.2.2.2.1))).trans (hHeld.2.2.2.2.2.2.2.2.2.2.2.1)
   have aV := (hb.cell (wl_ _ _ (hHeld.2.2.2.2.2.2.2.2.2.2.2.2))).trans (hHeld.2.2.2.2.2.2.2.2.2.2.2.2)
   refine ⟨_, rfl, ?_⟩
   replace HO_6 := a_ (Kd.N_below (vN_ HO_6.out) hb)
   replace HL378_1 := a_ (vb_ (vV_ HL378_1.out) hb)
   replace c := a_ (bq_ c.out hb)
   replace HB := hq_ hb
   clear hb
   refine hK.out _ _ (cb8_ c.out ⟨a0, a1, aT, aU, aV⟩) (fun hHeld => ?_)
   clear hK K
   refine nor_ (N := some 45) ?_
   refine one_ (i := 9) (N := some 46) #[true, true, true, true, true, true, true, true, true, true, false, false, false, false, false] rfl rfl on_ (by decide) (fun K hK => ?_)
   refine goes_ Tryz.func29 kr_ rfl #[.agg #[.int .i64 ((rd_T58 d m).f0), .slice aY ((rd_T58 d m).f1).length c378_1, .int .i64 ((rd_T58 d m).f2), .int .i64 ((rd_T58 d m).f3), .int .i64 ((rd_T58 d m).f4)], .int .i64 aZ] (by rfl) rfl rfl ar_ ?_
   with_reducible refine (dom_Dom_Only.calls k1 ((rd_T58 d m).f0) (fun l => ((P1_ l ∨ w.heap.size ≤ l) ∧ (some l ≠ (W : Value).ownBlock ∧ l ≠ g))) _ _ ((rd_T58 d m).f1) ((rd_T58 d m).f2) ((rd_T58 d m).f3) ((rd_T58 d m).f4) aZ aC aD aE aF aG bx _ ?_ ?_ bH.out).mono ?_
   exact HL378_1.out
   exact ca_ ((cb_ HRtab.out HB.out))
   rintro e w47 ⟨bZ, rfl, aH, hb⟩
   have a0 := (hb.cell (wl_ _ _ (hHeld.2.2.2.2.2.2.2.2.1))).trans (hHeld.2.2.2.2.2.2.2.2.1)
   have a1 := (hb.cell (wl_ _ _ (hHeld.2.2.2.2.2.2.2.2.2.1))).trans (hHeld.2.2.2.2.2.2.2.2.2.1)
   have aT := (hb.cell (wl_ _ _ (hHeld.2.2.2.2.2.2.2.2.2.2.1))).trans (hHeld.2.2.2.2.2.2.2.2.2.2.1)
   have aU := (hb.cell (wl_ _ _ (hHeld.2.2.2.2.2.2.2.2.2.2.2.1))).trans (hHeld.2.2.2.2.2.2.2.2.2.2.2.1)
   have aV := (hb.cell (wl_ _ _ (hHeld.2.2.2.2.2.2.2.2.2.2.2.2))).trans (hHeld.2.2.2.2.2.2.2.2.2.2.2.2)
   refine ⟨_, rfl, ?_⟩
   have aW := a_ (Kd.V_lower (vm_ (ok' := fun l => (P1_ l ∨ w.heap.size ≤ l) ∧ some l ≠ (W : Value).ownBlock ∧ l ≠ g) aH (fun l hk_ => ⟨Or.elim hk_ (fun hs_ => hs_.1) (fun hn_ => (.inr (Nat.le_trans (bz_ bel_) hn_))), Or.elim hk_ (fun hs_ => hs_.2.1) (fun hn_ => (fr_ (Kd.N_lt (vN_ HO_6.out)) l hn_)), Or.elim hk_ (fun hs_ => hs_.2.2) (fun hn_ => (Kd.freshB (bk_ c.out) l hn_))⟩)) (bz_ bel_))
   replace HO_6 := a_ (Kd.N_below (vN_ HO_6.out) hb)
   replace c := a_ (bq_ c.out hb)
   replace HB := hq_ hb
   obtain ⟨Ao_v382, co_v382, eo_v382⟩ := Kd.V_slice aW.out
   subst eo_v382
   clear hb aH
   have p44 : 0 ≤ (m : Int) := dq_
   have bn : (m : Int) < ((F.length : Int) : Int) := dq_
   obtain ⟨go44, bB, bo, bp, gl44, cl44, HG44⟩ := Kd.N_form HO_6.out (by omega)
   (first | cases bo | (injection bo with ea_ en_ ec_; (first | subst ea_ | (injection ea_ with ea_; subst ea_)); subst ec_; clear en_))
   have GB44 := a_ bp
   have GG44 := a_ HG44
   clear bp gl44 HG44
   obtain ⟨ce44, hcl44, hM44, hcc44, hfr44⟩ := Kd.N_elem HO_6.out z58 (m : Int) p44 bn
   obtain ⟨ua44_1, uc44_1, rfl, bI, bJ⟩ := k58_openF hM44
   have bK : World.cell? _ ⟨go44, (m : Int).toNat * 5, none⟩ = some (.int .i64 ((rd_T58 F m).f0)) := hcc44 0 _ rfl
   have bL : World.cell? _ ⟨go44, (m : Int).toNat * 5 + 1, none⟩ = some (.slice ua44_1 ((rd_T58 F m).f1).length uc44_1) := hcc44 1 _ rfl
   have bM : World.cell? _ ⟨go44, (m : Int).toNat * 5 + 2, none⟩ = some (.int .i64 ((rd_T58 F m).f2)) := hcc44 2 _ rfl
   have bN : World.cell? _ ⟨go44, (m : Int).toNat * 5 + 3, none⟩ = some (.int .i64 ((rd_T58 F m).f3)) := hcc44 3 _ rfl
   have bO : World.cell? _ ⟨go44, (m : Int).toNat * 5 + 4, none⟩ = some (.int .i64 ((rd_T58 F m).f4)) := hcc44 4 _ rfl
   have hf44_0 : World.frozen? _ ⟨go44, (m : Int).toNat * 5, none⟩ = false := hfr44 0
   have hf44_1 : World.frozen? _ ⟨go44, (m : Int).toNat * 5 + 1, none⟩ = false := hfr44 1
   have hf44_2 : World.frozen? _ ⟨go44, (m : Int).toNat * 5 + 2, none⟩ = false := hfr44 2
   have hf44_3 : World.frozen? _ ⟨go44, (m : Int).toNat * 5 + 3, none⟩ = false := hfr44 3
   have hf44_4 : World.frozen? _ ⟨go44, (m : Int).toNat * 5 + 4, none⟩ = false := hfr44 4
   clear hcl44 hcc44 hfr44 hM44
   replace p44 := et_ p44
   replace bn := et_ bn
   have bq := a_ (show Kd.N k58 58 _ w.heap.size (fun l => (P1_ l ∨ w.heap.size ≤ l) ∧ l ≠ g) (.slice (some ⟨go44, 0, none⟩) F.length bB) F from (nm_ (HO_6.out) (fun l hk => ⟨hk.1, hk.2⟩)))
   obtain ⟨ce48, hcl48, hM48, hcc48, hfr48⟩ := Kd.N_elem bq.out z58 (m : Int) (dq_) (by have h_ : (m : Int) < ((F.length : Int) : Int) := dq_; first | exact h_ | (have e_ := (Kd.N_reads' HO_6.out).1; omega) | simpa using h_)
   obtain ⟨ua48_1, uc48_1, rfl, bP, bQ⟩ := k58_openF hM48
   have HP48 := (Kd.N_seg bq.out (m : Int) (dq_) (by have h_ : (m : Int) < ((F.length : Int) : Int) := dq_; first | exact h_ | (have e_ := (Kd.N_reads' HO_6.out).1; omega) | simpa using h_) (seg := [.int .i64 aC, (.slice Ao_v382 aD.length co_v382), .int .i64 aE, .int .i64 aF, .int .i64 aG]) (j := 0) hcl48 hcc48 (show 5 ≤ 5 from by decide) (x' := (⟨aC, aD, aE, aF, aG⟩ : S58)) (k58_mkF _ _ (⟨aC, aD, aE, aF, aG⟩ : S58) (Kd.V_reads' (vm_ (ok' := (fun l => ((fun l => (P1_ l ∨ w.heap.size ≤ l) ∧ l ≠ g)) l ∧ l ≠ go44)) (aW.out) (fun l hk => ⟨⟨hk.1, hk.2.2⟩, fun e_ => (hk.2.1) (by rw [e_]; rfl)⟩))).2.1 (Kd.V_F (vm_ (ok' := (fun l => ((fun l => (P1_ l ∨ w.heap.size ≤ l) ∧ l ≠ g)) l ∧ l ≠ go44)) (aW.out) (fun l hk => ⟨⟨hk.1, hk.2.2⟩, fun e_ => (hk.2.1) (by rw [e_]; rfl)⟩)))) (fun _ hk => hk)).1
   rw [← bs.out] at HP48
   have HQ48 := a_ HP48
   clear hcl48 hcc48 hfr48 hM48 HP48
   refine hK.out _ _ (cb8_ c.out ⟨a0, a1, aT, aU, aV⟩) (fun hHeld => ?_)
   clear hK K
   refine nor_ (N := some 46) ?_
   refine pu_ (i := 10) (N := some 36) ao_ ?_
   refine pu_ (i := 11) (N := some 47) ao_ ?_
   refine pu_ (i := 12) (N := some 48) ao_ ?_
   refine pu_ (i := 13) (N := some 49) ao_ ?_
   refine last_ (i := 14) (N := none) #[true, true, true, true, true, true, true, true, true, true, true, true, true, true, true] rfl rfl on_ (by decide) (fun K hK => ?_)
   refine skip_ (w1 := ?_) (by rfl) rfl ?_ ?_
   rotate_left
   ·
    go_simp
    rfl
   refine hK.out _ _ ?_
   clear hK K
   refine done_ dn_ ?_
   try go_wp2
   go_ret2
   exact ⟨_, er_, by refine vN_ ?_; exact nm_ HQ48.out (fun _ hk => hk.1), by repeat (first | (with_reducible first | exact HB.out | apply below_alloc | apply pw_below_drewN | apply below_drew1 | refine below_set ?_ GB44.out | refine below_set ?_ GB44.out | refine below_set ?_ GB44.out | refine below_set ?_ GB44.out | refine below_set ?_ GB44.out | refine below_set ?_ be.out) | exact HB.out)⟩
  rw [ip_ c10] at H
  have c10b0 : decide (a < (d.length : Int)) = true := dt_ c10
  clear c10
  by_cases c11 : 0 ≤ a
  rotate_left
  ·
   rw [ig_ c11] at H
   exact absurd H (by simp)
  rw [ip_ c11] at H
  have c11b0 : decide (0 ≤ a) = true := dt_ c11
  clear c11
  by_cases c12 : a < (d.length : Int)
  rotate_left
  ·
   rw [ig_ c12] at H
   exact absurd H (by simp)
  rw [ip_ c12] at H
  have c12b0 : decide (a < (d.length : Int)) = true := dt_ c12
  clear c12
  replace H := bo_ H
  obtain ⟨ag, bk, H⟩ := H
  try dsimp only at H
  replace H := bo_ H
  obtain ⟨bw, bl, H⟩ := H
  try dsimp only at H
  by_cases c15 : bw = true
  rotate_left
  ·
   replace c15 := bf_.mpr c15
   subst c15
   have H1 : (clause_Filter.l0 k1 d F m d (d.length : Int) (wrap64 (a + 1)) A r s u v y B z) = some (r1, r2) := by rw [ig_ (show ¬ (false = true) by decide)] at H; exact H
   clear H
   have H := H1
   clear H1
   have H' := a_ H
   clear H
   have p374 : 0 ≤ (a : Int) := dq_
   have Y : a < (d.length : Int) := dq_
   obtain ⟨ac, q, c374_1, aB, aI, ad, aJ, aK, aL, X, ae⟩ := at_T58 (Kd.V_reads' HO_16.out).2.2 a p374 Y
   cases aB
   obtain ⟨ce374, hce374, hMe374, hcc374⟩ := Kd.V_get HO_16.out z58 a p374 (by first | exact Y | exact dq_ | (have e_ := (Kd.V_reads' HO_16.out).1; omega))
   obtain ⟨ua374_1, uc374_1, rfl, G, I⟩ := k58_openF hMe374
   have E := hcc374 1 _ rfl
   rw [add_field _ _ 1 (by omega)] at E
   replace E := si_ (E.symm.trans ad)
   injection E with hva_ hvn_ hvc_
   rw [hva_] at I
   rw [hvc_] at G
   have HL374_1 := a_ (show Kd.V (Kd.int .u64) 80 _ w.heap.size _ _ ((rd_T58 d a).f1) from Kd.V_mk G I)
   clear hva_ hvn_ hvc_ I G
   clear hcc374 hce374
   have af := a_ X
   clear ae X
   replace p374 := et_ p374
   replace Y := et_ Y
   try go_wp2_with (first | ((with_reducible refine gate_dst (N := 9) rfl ?_); refine bxe_ (N := 9) (cs := #[.int .i64 0, .slice none 0 0, .int .i64 0, .int .i64 0, .int .i64 0]) (t := 58) ?_; intro b hg w31 hbox hb; replace HO_1 := a_ (vb_ (Kd.V_elderB (vV_ HO_1.out) b (Nat.le_of_eq hg.symm)) hb); replace HO_6 := a_ (Kd.N_below (Kd.N_elderB (vN_ HO_6.out) b (Nat.le_of_eq hg.symm)) hb); replace HO_16 := a_ (vb_ (Kd.V_elderB (vV_ HO_16.out) b (Nat.le_of_eq hg.symm)) hb); replace HL374_1 := a_ (vb_ (Kd.V_elderB (vV_ HL374_1.out) b (Nat.le_of_eq hg.symm)) hb); have o := a_ (hbox); have aw := a_ (by rw [hg]; exact (bz_ bel_) : w.heap.size ≤ b); have bg := aw; replace HB := hq_ hb; have p := a_ ((by rw [hg]; exact Nat.ne_of_lt (blk_lt (bk_ c.out)) : g ≠ b)); have Z := a_ ((by rw [hg]; exact Nat.ne_of_gt (blk_lt (bk_ c.out)) : b ≠ g)); replace c := a_ (bq_ c.out hb); clear hb hbox hg; have bV := Z.out; have bW := p.out; obtain ⟨_, _, _, _, _, _, _, _, _, _⟩ := cel5_ o.out))
   obtain ⟨w34, hq_⟩ : ∃ x, x = (((((w31.setCell ⟨b, 0, none⟩ (.int .i64 ((rd_T58 d a).f0))).setCell ⟨b, 1, none⟩ (.slice q ((rd_T58 d a).f1).length c374_1)).setCell ⟨b, 2, none⟩ (.int .i64 ((rd_T58 d a).f2))).setCell ⟨b, 3, none⟩ (.int .i64 ((rd_T58 d a).f3))).setCell ⟨b, 4, none⟩ (.int .i64 ((rd_T58 d a).f4))) := ⟨_, rfl⟩
   replace HO_1 : Aside0 (Kd.V k58 58 w34 w.heap.size (fun l => (P1_ l ∨ w.heap.size ≤ l) ∧ some l ≠ (W : Value).ownBlock ∧ l ≠ g ∧ l ≠ b) (.slice (some ac) d.length c1) d) := ⟨by subst hq_; refine vV_ ?_; exact vm_ (fV_ (fV_ (fV_ (fV_ (fV_ (vm_ HO_1.out (fun l hk => (⟨hk, hk.2⟩ : _ ∧ l ≠ b)))))))) (fun _ hk => ⟨hk.1.1.1, ⟨hk.1.1.2.1, ⟨hk.1.1.2.2, hk.1.2⟩⟩⟩)⟩
   replace HO_6 : Aside0 (Kd.N k58 58 w34 w.heap.size (fun l => (P1_ l ∨ w.heap.size ≤ l) ∧ l ≠ g ∧ l ≠ b) W F) := ⟨by subst hq_; refine vN_ ?_; exact nm_ (fN_ (fN_ (fN_ (fN_ (fN_ (nm_ HO_6.out (fun l hk => (⟨hk, hk.2⟩ : _ ∧ l ≠ b)))))))) (fun _ hk => ⟨hk.1.1.1, ⟨hk.1.1.2, hk.1.2⟩⟩)⟩
   replace HO_16 : Aside0 (Kd.V k58 58 w34 w.heap.size (fun l => (P1_ l ∨ w.heap.size ≤ l) ∧ some l ≠ (W : Value).ownBlock ∧ l ≠ g ∧ l ≠ b) (.slice (some ac) d.length c1) d) := ⟨by subst hq_; refine vV_ ?_; exact vm_ (fV_ (fV_ (fV_ (fV_ (fV_ (vm_ HO_16.out (fun l hk => (⟨hk, hk.2⟩ : _ ∧ l ≠ b)))))))) (fun _ hk => ⟨hk.1.1.1, ⟨hk.1.1.2.1, ⟨hk.1.1.2.2, hk.1.2⟩⟩⟩)⟩
   replace HL374_1 : Aside0 (Kd.V (Kd.int .u64) 80 w34 w.heap.size (fun l => (P1_ l ∨ w.heap.size ≤ l) ∧ some l ≠ (W : Value).ownBlock ∧ l ≠ g ∧ l ≠ b) (.slice q ((rd_T58 d a).f1).length c374_1) ((rd_T58 d a).f1)) := ⟨by subst hq_; refine vV_ ?_; exact vm_ (fV_ (fV_ (fV_ (fV_ (fV_ (vm_ HL374_1.out (fun l hk => (⟨hk, hk.2⟩ : _ ∧ l ≠ b)))))))) (fun _ hk => ⟨hk.1.1.1, ⟨hk.1.1.2.1, ⟨hk.1.1.2.2, hk.1.2⟩⟩⟩)⟩
   replace c : Aside0 (w34.heap[g]? = some (.cells #[.int .i64 A, .slice J r.length c0_1, .slice M s.length c0_2, .slice O u.length c0_3, .slice P v.length c0_4, .slice Q y.length c0_5, .int .i64 B, .slice U z.length c0_7] 32 (0, 0))) := ⟨by subst hq_; refine bk_ ?_; refine blk_far ?_ p.out _; refine bk_ ?_; refine blk_far ?_ p.out _; refine bk_ ?_; refine blk_far ?_ p.out _; refine bk_ ?_; refine blk_far ?_ p.out _; refine bk_ ?_; refine blk_far ?_ p.out _; refine bk_ ?_; exact c.out⟩
   replace o : Aside0 (w34.heap[b]? = some (.cells #[.int .i64 ((rd_T58 d a).f0), .slice q ((rd_T58 d a).f1).length c374_1, .int .i64 ((rd_T58 d a).f2), .int .i64 ((rd_T58 d a).f3), .int .i64 ((rd_T58 d a).f4)] 58 (0, 0))) := ⟨by subst hq_; refine bk_ ?_; refine bu_ (cs := #[.int .i64 ((rd_T58 d a).f0), .slice q ((rd_T58 d a).f1).length c374_1, .int .i64 ((rd_T58 d a).f2), .int .i64 ((rd_T58 d a).f3), .int .i64 0]) ?_ 4 _ rfl; refine bk_ ?_; refine bu_ (cs := #[.int .i64 ((rd_T58 d a).f0), .slice q ((rd_T58 d a).f1).length c374_1, .int .i64 ((rd_T58 d a).f2), .int .i64 0, .int .i64 0]) ?_ 3 _ rfl; refine bk_ ?_; refine bu_ (cs := #[.int .i64 ((rd_T58 d a).f0), .slice q ((rd_T58 d a).f1).length c374_1, .int .i64 0, .int .i64 0, .int .i64 0]) ?_ 2 _ rfl; refine bk_ ?_; refine bu_ (cs := #[.int .i64 ((rd_T58 d a).f0), .slice none 0 0, .int .i64 0, .int .i64 0, .int .i64 0]) ?_ 1 _ rfl; refine bk_ ?_; refine bu_ (cs := #[.int .i64 0, .slice none 0 0, .int .i64 0, .int .i64 0, .int .i64 0]) ?_ 0 _ rfl; refine bk_ ?_; exact o.out⟩
   replace HB : Aside0 (Below w.heap.size w w34) := ⟨by subst hq_; exact bel_⟩
   rw [← hq_]
   clear hq_
   replace HO_1 := a_ (Kd.V_drew HO_1.out)
   replace HO_6 := a_ (Kd.N_drew HO_6.out)
   replace HO_16 := a_ (Kd.V_drew HO_16.out)
   replace HL374_1 := a_ (Kd.V_drew HL374_1.out)
   replace c := a_ (blk_drew c.out)
   replace o := a_ (blk_drew o.out)
   replace HB := a_ (below_drew1 HB.out)
   refine start_ (n := 6) (S := fun w' => w'.cell? ⟨b, 0, none⟩ = some (.int .i64 ((rd_T58 d a).f0)) ∧ w'.cell? ⟨b, 1, none⟩ = some (.slice q ((rd_T58 d a).f1).length c374_1) ∧ w'.cell? ⟨b, 2, none⟩ = some (.int .i64 ((rd_T58 d a).f2)) ∧ w'.cell? ⟨b, 3, none⟩ = some (.int .i64 ((rd_T58 d a).f3)) ∧ w'.cell? ⟨b, 4, none⟩ = some (.int .i64 ((rd_T58 d a).f4)) ∧ w'.cell? ⟨g, 0, none⟩ = some (.int .i64 A) ∧ w'.cell? ⟨g, 1, none⟩ = some (.slice J r.length c0_1) ∧ w'.cell? ⟨g, 2, none⟩ = some (.slice M s.length c0_2) ∧ w'.cell? ⟨g, 3, none⟩ = some (.slice O u.length c0_3) ∧ w'.cell? ⟨g, 4, none⟩ = some (.slice P v.length c0_4) ∧ w'.cell? ⟨g, 5, none⟩ = some (.slice Q y.length c0_5) ∧ w'.cell? ⟨g, 6, none⟩ = some (.int .i64 B) ∧ w'.cell? ⟨g, 7, none⟩ = some (.slice U z.length c0_7)) (ds := []) #[false, false, false, false, false, false] kr_ rfl rfl (cb5_ o.out (ca8_ c.out)) (fun hHeld => ?_)
   generalize w34.drew = w35 at HO_1 HO_6 HO_16 HL374_1 c o HB hHeld ⊢
   refine pu_ (i := 2) (N := some 25) kr_ ?_
   refine tak_ (i := 0) (N := some 23) kr_ hHeld ?_
   refine tak_ (i := 1) (N := some 24) kr_ hHeld ?_
   refine one_ (i := 3) (N := some 26) #[true, true, true, true, false, false] rfl rfl kr_ (by decide) (fun K hK => ?_)
   refine goes_ Tryz.func28 kr_ rfl #[.agg #[.int .i64 A, .slice J r.length c0_1, .slice M s.length c0_2, .slice O u.length c0_3, .slice P v.length c0_4, .slice Q y.length c0_5, .int .i64 B, .slice U z.length c0_7], .int .i64 a] (by rfl) rfl rfl ar_ ?_
   with_reducible refine (clause_want.calls A _ _ r _ _ s _ _ u _ _ v _ _ y B _ _ z a ag _ ?_ ?_ ?_ ?_ ?_ ?_ ?_ ?_ ?_ ?_ ?_ ?_ bk.out).mono ?_
   exact ca_ ((cb_ ah.out HB.out))
   exact ai.out
   exact ca_ ((cb_ aj.out HB.out))
   exact ak.out
   exact ca_ ((cb_ al.out HB.out))
   exact am.out
   exact ca_ ((cb_ an.out HB.out))
   exact ao.out
   exact ca_ ((cb_ ap.out HB.out))
   exact aq.out
   exact ca_ ((cb_ ar.out HB.out))
   exact au.out
   rintro e w36 ⟨rfl, hb⟩
   refine ⟨_, rfl, ?_⟩
   replace HO_1 := a_ (vb_ (vV_ HO_1.out) hb)
   replace HO_6 := a_ (Kd.N_below (vN_ HO_6.out) hb)
   replace HO_16 := a_ (vb_ (vV_ HO_16.out) hb)
   replace HL374_1 := a_ (vb_ (vV_ HL374_1.out) hb)
   replace c := a_ (bq_ c.out hb)
   replace o := a_ (bq_ o.out hb)
   replace HB := hq_ hb
   clear hb
   refine hK.out _ _ (cb5_ o.out (ca8_ c.out)) (fun hHeld => ?_)
   clear hK K
   refine nor_ (N := some 26) ?_
   refine one_ (i := 4) (N := some 27) #[true, true, true, true, true, false] rfl rfl kr_ (by decide) (fun K hK => ?_)
   refine goes_ Tryz.func24 kr_ rfl #[.agg #[.int .i64 ((rd_T58 d a).f0), .slice q ((rd_T58 d a).f1).length c374_1, .int .i64 ((rd_T58 d a).f2), .int .i64 ((rd_T58 d a).f3), .int .i64 ((rd_T58 d a).f4)], .int .i64 ag] (by rfl) rfl rfl ar_ ?_
   with_reducible refine (dom_Dom_Has.calls ((rd_T58 d a).f0) _ _ ((rd_T58 d a).f1) ((rd_T58 d a).f2) ((rd_T58 d a).f3) ((rd_T58 d a).f4) ag false _ ?_ ?_ bl.out).mono ?_
   focus repeat (first | exact ((Kd.V_reads' (vV_ HL374_1.out)).2.2) | (with_reducible refine Kd.C_alloc ?_ _) | (with_reducible refine Kd.C_drewN ?_ _) | (with_reducible refine Kd.C_drew ?_))
   exact af.out
   rintro e w37 ⟨rfl, hb⟩
   refine ⟨_, rfl, ?_⟩
   replace HO_1 := a_ (vb_ (vV_ HO_1.out) hb)
   replace HO_6 := a_ (Kd.N_below (vN_ HO_6.out) hb)
   replace HO_16 := a_ (vb_ (vV_ HO_16.out) hb)
   replace c := a_ (bq_ c.out hb)
   replace o := a_ (bq_ o.out hb)
   replace HB := hq_ hb
   clear hb
   refine hK.out _ _ (cb5_ o.out (ca8_ c.out)) (fun hHeld => ?_)
   clear hK K
   refine nor_ (N := some 27) ?_
   refine pu_ (i := 5) (N := some 28) kr_ ?_
   refine done_ kr_ ?_
   try go_wp2
   go_roundg k1
   case measure => have := bf.out; omega
   exact ⟨(m), (wrap64 (a + 1)), eq_, eq_, H', ⟨by have := bf.out; omega⟩, ⟨by refine vV_ ?_; exact vm_ HO_1.out (fun _ hk => ⟨hk.1, ⟨hk.2.1, hk.2.2.1⟩⟩)⟩, ⟨by refine vN_ ?_; exact nm_ HO_6.out (fun _ hk => ⟨hk.1, hk.2.1⟩)⟩, ⟨by refine vV_ ?_; exact vm_ HO_16.out (fun _ hk => ⟨hk.1, ⟨hk.2.1, hk.2.2.1⟩⟩)⟩, ⟨bk_ c.out⟩, ⟨bel_⟩⟩
  subst c15
  rw [ip_ rfl] at H
  by_cases c16 : m ≥ 0
  ·
   rw [ip_ c16] at H
   have c16b0 : decide (0 ≤ m) = true := dt_ c16
   clear c16
   simp only [Option.some.injEq, Prod.mk.injEq] at H
   obtain ⟨rfl, rfl⟩ := H
   have p374 : 0 ≤ (a : Int) := dq_
   have Y : a < (d.length : Int) := dq_
   obtain ⟨ac, q, c374_1, aB, aI, ad, aJ, aK, aL, X, ae⟩ := at_T58 (Kd.V_reads' HO_16.out).2.2 a p374 Y
   cases aB
   obtain ⟨ce374, hce374, hMe374, hcc374⟩ := Kd.V_get HO_16.out z58 a p374 (by first | exact Y | exact dq_ | (have e_ := (Kd.V_reads' HO_16.out).1; omega))
   obtain ⟨ua374_1, uc374_1, rfl, G, I⟩ := k58_openF hMe374
   have E := hcc374 1 _ rfl
   rw [add_field _ _ 1 (by omega)] at E
   replace E := si_ (E.symm.trans ad)
   injection E with hva_ hvn_ hvc_
   rw [hva_] at I
   rw [hvc_] at G
   have HL374_1 := a_ (show Kd.V (Kd.int .u64) 80 _ w.heap.size _ _ ((rd_T58 d a).f1) from Kd.V_mk G I)
   clear hva_ hvn_ hvc_ I G
   clear hcc374 hce374
   have af := a_ X
   clear ae X
   replace p374 := et_ p374
   replace Y := et_ Y
   try go_wp2_with (first | ((with_reducible refine gate_dst (N := 9) rfl ?_); refine bxe_ (N := 9) (cs := #[.int .i64 0, .slice none 0 0, .int .i64 0, .int .i64 0, .int .i64 0]) (t := 58) ?_; intro b hg w17 hbox hb; replace HO_1 := a_ (vb_ (Kd.V_elderB (vV_ HO_1.out) b (Nat.le_of_eq hg.symm)) hb); replace HO_6 := a_ (Kd.N_below (Kd.N_elderB (vN_ HO_6.out) b (Nat.le_of_eq hg.symm)) hb); replace HO_16 := a_ (vb_ (Kd.V_elderB (vV_ HO_16.out) b (Nat.le_of_eq hg.symm)) hb); replace HL374_1 := a_ (vb_ (Kd.V_elderB (vV_ HL374_1.out) b (Nat.le_of_eq hg.symm)) hb); have o := a_ (hbox); have aw := a_ (by rw [hg]; exact (bz_ bel_) : w.heap.size ≤ b); have bg := aw; replace HB := hq_ hb; have p := a_ ((by rw [hg]; exact Nat.ne_of_lt (blk_lt (bk_ c.out)) : g ≠ b)); have Z := a_ ((by rw [hg]; exact Nat.ne_of_gt (blk_lt (bk_ c.out)) : b ≠ g)); replace c := a_ (bq_ c.out hb); clear hb hbox hg; have bR := Z.out; have bS := p.out; obtain ⟨_, _, _, _, _, _, _, _, _, _⟩ := cel5_ o.out))
   obtain ⟨w20, hq_⟩ : ∃ x, x = (((((w17.setCell ⟨b, 0, none⟩ (.int .i64 ((rd_T58 d a).f0))).setCell ⟨b, 1, none⟩ (.slice q ((rd_T58 d a).f1).length c374_1)).setCell ⟨b, 2, none⟩ (.int .i64 ((rd_T58 d a).f2))).setCell ⟨b, 3, none⟩ (.int .i64 ((rd_T58 d a).f3))).setCell ⟨b, 4, none⟩ (.int .i64 ((rd_T58 d a).f4))) := ⟨_, rfl⟩
   replace HO_1 : Aside0 (Kd.V k58 58 w20 w.heap.size (fun l => (P1_ l ∨ w.heap.size ≤ l) ∧ some l ≠ (W : Value).ownBlock ∧ l ≠ g ∧ l ≠ b) (.slice (some ac) d.length c1) d) := ⟨by subst hq_; refine vV_ ?_; exact vm_ (fV_ (fV_ (fV_ (fV_ (fV_ (vm_ HO_1.out (fun l hk => (⟨hk, hk.2⟩ : _ ∧ l ≠ b)))))))) (fun _ hk => ⟨hk.1.1.1, ⟨hk.1.1.2.1, ⟨hk.1.1.2.2, hk.1.2⟩⟩⟩)⟩
   replace HO_6 : Aside0 (Kd.N k58 58 w20 w.heap.size (fun l => (P1_ l ∨ w.heap.size ≤ l) ∧ l ≠ g ∧ l ≠ b) W F) := ⟨by subst hq_; refine vN_ ?_; exact nm_ (fN_ (fN_ (fN_ (fN_ (fN_ (nm_ HO_6.out (fun l hk => (⟨hk, hk.2⟩ : _ ∧ l ≠ b)))))))) (fun _ hk => ⟨hk.1.1.1, ⟨hk.1.1.2, hk.1.2⟩⟩)⟩
   replace HO_16 : Aside0 (Kd.V k58 58 w20 w.heap.size (fun l => (P1_ l ∨ w.heap.size ≤ l) ∧ some l ≠ (W : Value).ownBlock ∧ l ≠ g ∧ l ≠ b) (.slice (some ac) d.length c1) d) := ⟨by subst hq_; refine vV_ ?_; exact vm_ (fV_ (fV_ (fV_ (fV_ (fV_ (vm_ HO_16.out (fun l hk => (⟨hk, hk.2⟩ : _ ∧ l ≠ b)))))))) (fun _ hk => ⟨hk.1.1.1, ⟨hk.1.1.2.1, ⟨hk.1.1.2.2, hk.1.2⟩⟩⟩)⟩
   replace HL374_1 : Aside0 (Kd.V (Kd.int .u64) 80 w20 w.heap.size (fun l => (P1_ l ∨ w.heap.size ≤ l) ∧ some l ≠ (W : Value).ownBlock ∧ l ≠ g ∧ l ≠ b) (.slice q ((rd_T58 d a).f1).length c374_1) ((rd_T58 d a).f1)) := ⟨by subst hq_; refine vV_ ?_; exact vm_ (fV_ (fV_ (fV_ (fV_ (fV_ (vm_ HL374_1.out (fun l hk => (⟨hk, hk.2⟩ : _ ∧ l ≠ b)))))))) (fun _ hk => ⟨hk.1.1.1, ⟨hk.1.1.2.1, ⟨hk.1.1.2.2, hk.1.2⟩⟩⟩)⟩
   replace c : Aside0 (w20.heap[g]? = some (.cells #[.int .i64 A, .slice J r.length c0_1, .slice M s.length c0_2, .slice O u.length c0_3, .slice P v.length c0_4, .slice Q y.length c0_5, .int .i64 B, .slice U z.length c0_7] 32 (0, 0))) := ⟨by subst hq_; refine bk_ ?_; refine blk_far ?_ p.out _; refine bk_ ?_; refine blk_far ?_ p.out _; refine bk_ ?_; refine blk_far ?_ p.out _; refine bk_ ?_; refine blk_far ?_ p.out _; refine bk_ ?_; refine blk_far ?_ p.out _; refine bk_ ?_; exact c.out⟩
   replace o : Aside0 (w20.heap[b]? = some (.cells #[.int .i64 ((rd_T58 d a).f0), .slice q ((rd_T58 d a).f1).length c374_1, .int .i64 ((rd_T58 d a).f2), .int .i64 ((rd_T58 d a).f3), .int .i64 ((rd_T58 d a).f4)] 58 (0, 0))) := ⟨by subst hq_; refine bk_ ?_; refine bu_ (cs := #[.int .i64 ((rd_T58 d a).f0), .slice q ((rd_T58 d a).f1).length c374_1, .int .i64 ((rd_T58 d a).f2), .int .i64 ((rd_T58 d a).f3), .int .i64 0]) ?_ 4 _ rfl; refine bk_ ?_; refine bu_ (cs := #[.int .i64 ((rd_T58 d a).f0), .slice q ((rd_T58 d a).f1).length c374_1, .int .i64 ((rd_T58 d a).f2), .int .i64 0, .int .i64 0]) ?_ 3 _ rfl; refine bk_ ?_; refine bu_ (cs := #[.int .i64 ((rd_T58 d a).f0), .slice q ((rd_T58 d a).f1).length c374_1, .int .i64 0, .int .i64 0, .int .i64 0]) ?_ 2 _ rfl; refine bk_ ?_; refine bu_ (cs := #[.int .i64 ((rd_T58 d a).f0), .slice none 0 0, .int .i64 0, .int .i64 0, .int .i64 0]) ?_ 1 _ rfl; refine bk_ ?_; refine bu_ (cs := #[.int .i64 0, .slice none 0 0, .int .i64 0, .int .i64 0, .int .i64 0]) ?_ 0 _ rfl; refine bk_ ?_; exact o.out⟩
   replace HB : Aside0 (Below w.heap.size w w20) := ⟨by subst hq_; exact bel_⟩
   rw [← hq_]
   clear hq_
   replace HO_1 := a_ (Kd.V_drew HO_1.out)
   replace HO_6 := a_ (Kd.N_drew HO_6.out)
   replace HO_16 := a_ (Kd.V_drew HO_16.out)
   replace HL374_1 := a_ (Kd.V_drew HL374_1.out)
   replace c := a_ (blk_drew c.out)
   replace o := a_ (blk_drew o.out)
   replace HB := a_ (below_drew1 HB.out)
   refine start_ (n := 6) (S := fun w' => w'.cell? ⟨b, 0, none⟩ = some (.int .i64 ((rd_T58 d a).f0)) ∧ w'.cell? ⟨b, 1, none⟩ = some (.slice q ((rd_T58 d a).f1).length c374_1) ∧ w'.cell? ⟨b, 2, none⟩ = some (.int .i64 ((rd_T58 d a).f2)) ∧ w'.cell? ⟨b, 3, none⟩ = some (.int .i64 ((rd_T58 d a).f3)) ∧ w'.cell? ⟨b, 4, none⟩ = some (.int .i64 ((rd_T58 d a).f4)) ∧ w'.cell? ⟨g, 0, none⟩ = some (.int .i64 A) ∧ w'.cell? ⟨g, 1, none⟩ = some (.slice J r.length c0_1) ∧ w'.cell? ⟨g, 2, none⟩ = some (.slice M s.length c0_2) ∧ w'.cell? ⟨g, 3, none⟩ = some (.slice O u.length c0_3) ∧ w'.cell? ⟨g, 4, none⟩ = some (.slice P v.length c0_4) ∧ w'.cell? ⟨g, 5, none⟩ = some (.slice Q y.length c0_5) ∧ w'.cell? ⟨g, 6, none⟩ = some (.int .i64 B) ∧ w'.cell? ⟨g, 7, none⟩ = some (.slice U z.length c0_7)) (ds := []) #[false, false, false, false, false, false] kr_ rfl rfl (cb5_ o.out (ca8_ c.out)) (fun hHeld => ?_)
   generalize w20.drew = w21 at HO_1 HO_6 HO_16 HL374_1 c o HB hHeld ⊢
   refine pu_ (i := 2) (N := some 25) kr_ ?_
   refine tak_ (i := 0) (N := some 23) kr_ hHeld ?_
   refine tak_ (i := 1) (N := some 24) kr_ hHeld ?_
   refine one_ (i := 3) (N := some 26) #[true, true, true, true, false, false] rfl rfl kr_ (by decide) (fun K hK => ?_)
   refine goes_ Tryz.func28 kr_ rfl #[.agg #[.int .i64 A, .slice J r.length c0_1, .slice M s.length c0_2, .slice O u.length c0_3, .slice P v.length c0_4, .slice Q y.length c0_5, .int .i64 B, .slice U z.length c0_7], .int .i64 a] (by rfl) rfl rfl ar_ ?_
   with_reducible refine (clause_want.calls A _ _ r _ _ s _ _ u _ _ v _ _ y B _ _ z a ag _ ?_ ?_ ?_ ?_ ?_ ?_ ?_ ?_ ?_ ?_ ?_ ?_ bk.out).mono ?_
   exact ca_ ((cb_ ah.out HB.out))
   exact ai.out
   exact ca_ ((cb_ aj.out HB.out))
   exact ak.out
   exact ca_ ((cb_ al.out HB.out))
   exact am.out
   exact ca_ ((cb_ an.out HB.out))
   exact ao.out
   exact ca_ ((cb_ ap.out HB.out))
   exact aq.out
   exact ca_ ((cb_ ar.out HB.out))
   exact au.out
   rintro e w22 ⟨rfl, hb⟩
   refine ⟨_, rfl, ?_⟩
   replace HO_1 := a_ (vb_ (vV_ HO_1.out) hb)
   replace HO_6 := a_ (Kd.N_below (vN_ HO_6.out) hb)
   replace HO_16 := a_ (vb_ (vV_ HO_16.out) hb)
   replace HL374_1 := a_ (vb_ (vV_ HL374_1.out) hb)
   replace c := a_ (bq_ c.out hb)
   replace o := a_ (bq_ o.out hb)
   replace HB := hq_ hb
   clear hb
   refine hK.out _ _ (cb5_ o.out (ca8_ c.out)) (fun hHeld => ?_)
   clear hK K
   refine nor_ (N := some 26) ?_
   refine one_ (i := 4) (N := some 27) #[true, true, true, true, true, false] rfl rfl kr_ (by decide) (fun K hK => ?_)
   refine goes_ Tryz.func24 kr_ rfl #[.agg #[.int .i64 ((rd_T58 d a).f0), .slice q ((rd_T58 d a).f1).length c374_1, .int .i64 ((rd_T58 d a).f2), .int .i64 ((rd_T58 d a).f3), .int .i64 ((rd_T58 d a).f4)], .int .i64 ag] (by rfl) rfl rfl ar_ ?_
   with_reducible refine (dom_Dom_Has.calls ((rd_T58 d a).f0) _ _ ((rd_T58 d a).f1) ((rd_T58 d a).f2) ((rd_T58 d a).f3) ((rd_T58 d a).f4) ag true _ ?_ ?_ bl.out).mono ?_
   focus repeat (first | exact ((Kd.V_reads' (vV_ HL374_1.out)).2.2) | (with_reducible refine Kd.C_alloc ?_ _) | (with_reducible refine Kd.C_drewN ?_ _) | (with_reducible refine Kd.C_drew ?_))
   exact af.out
   rintro e w23 ⟨rfl, hb⟩
   refine ⟨_, rfl, ?_⟩
   replace HO_1 := a_ (vb_ (vV_ HO_1.out) hb)
   replace HO_6 := a_ (Kd.N_below (vN_ HO_6.out) hb)
   replace HO_16 := a_ (vb_ (vV_ HO_16.out) hb)
   replace HL374_1 := a_ (vb_ (vV_ HL374_1.out) hb)
   replace c := a_ (bq_ c.out hb)
   replace o := a_ (bq_ o.out hb)
   replace HB := hq_ hb
   clear hb
   refine hK.out _ _ (cb5_ o.out (ca8_ c.out)) (fun hHeld => ?_)
   clear hK K
   refine nor_ (N := some 27) ?_
   refine pu_ (i := 5) (N := some 28) kr_ ?_
   refine done_ kr_ ?_
   try go_wp2
   go_ret2
   exact ⟨_, er_, by refine vN_ ?_; exact nm_ HO_6.out (fun _ hk => hk.1), bel_⟩
  rw [ig_ c16] at H
  have c16b0 : decide (0 ≤ m) = false := df_ c16
  clear c16
  have H' := a_ H
  clear H
  have p374 : 0 ≤ (a : Int) := dq_
  have Y : a < (d.length : Int) := dq_
  obtain ⟨ac, q, c374_1, aB, aI, ad, aJ, aK, aL, X, ae⟩ := at_T58 (Kd.V_reads' HO_16.out).2.2 a p374 Y
  cases aB
  obtain ⟨ce374, hce374, hMe374, hcc374⟩ := Kd.V_get HO_16.out z58 a p374 (by first | exact Y | exact dq_ | (have e_ := (Kd.V_reads' HO_16.out).1; omega))
  obtain ⟨ua374_1, uc374_1, rfl, G, I⟩ := k58_openF hMe374
  have E := hcc374 1 _ rfl
  rw [add_field _ _ 1 (by omega)] at E
  replace E := si_ (E.symm.trans ad)
  injection E with hva_ hvn_ hvc_
  rw [hva_] at I
  rw [hvc_] at G
  have HL374_1 := a_ (show Kd.V (Kd.int .u64) 80 _ w.heap.size _ _ ((rd_T58 d a).f1) from Kd.V_mk G I)
  clear hva_ hvn_ hvc_ I G
  clear hcc374 hce374
  have af := a_ X
  clear ae X
  replace p374 := et_ p374
  replace Y := et_ Y
  try go_wp2_with (first | ((with_reducible refine gate_dst (N := 9) rfl ?_); refine bxe_ (N := 9) (cs := #[.int .i64 0, .slice none 0 0, .int .i64 0, .int .i64 0, .int .i64 0]) (t := 58) ?_; intro b hg w24 hbox hb; replace HO_1 := a_ (vb_ (Kd.V_elderB (vV_ HO_1.out) b (Nat.le_of_eq hg.symm)) hb); replace HO_6 := a_ (Kd.N_below (Kd.N_elderB (vN_ HO_6.out) b (Nat.le_of_eq hg.symm)) hb); replace HO_16 := a_ (vb_ (Kd.V_elderB (vV_ HO_16.out) b (Nat.le_of_eq hg.symm)) hb); replace HL374_1 := a_ (vb_ (Kd.V_elderB (vV_ HL374_1.out) b (Nat.le_of_eq hg.symm)) hb); have o := a_ (hbox); have aw := a_ (by rw [hg]; exact (bz_ bel_) : w.heap.size ≤ b); have bg := aw; replace HB := hq_ hb; have p := a_ ((by rw [hg]; exact Nat.ne_of_lt (blk_lt (bk_ c.out)) : g ≠ b)); have Z := a_ ((by rw [hg]; exact Nat.ne_of_gt (blk_lt (bk_ c.out)) : b ≠ g)); replace c := a_ (bq_ c.out hb); clear hb hbox hg; have bT := Z.out; have bU := p.out; obtain ⟨_, _, _, _, _, _, _, _, _, _⟩ := cel5_ o.out))
  obtain ⟨w27, hq_⟩ : ∃ x, x = (((((w24.setCell ⟨b, 0, none⟩ (.int .i64 ((rd_T58 d a).f0))).setCell ⟨b, 1, none⟩ (.slice q ((rd_T58 d a).f1).length c374_1)).setCell ⟨b, 2, none⟩ (.int .i64 ((rd_T58 d a).f2))).setCell ⟨b, 3, none⟩ (.int .i64 ((rd_T58 d a).f3))).setCell ⟨b, 4, none⟩ (.int .i64 ((rd_T58 d a).f4))) := ⟨_, rfl⟩
  replace HO_1 : Aside0 (Kd.V k58 58 w27 w.heap.size (fun l => (P1_ l ∨ w.heap.size ≤ l) ∧ some l ≠ (W : Value).ownBlock ∧ l ≠ g ∧ l ≠ b) (.slice (some ac) d.length c1) d) := ⟨by subst hq_; refine vV_ ?_; exact vm_ (fV_ (fV_ (fV_ (fV_ (fV_ (vm_ HO_1.out (fun l hk => (⟨hk, hk.2⟩ : _ ∧ l ≠ b)))))))) (fun _ hk => ⟨hk.1.1.1, ⟨hk.1.1.2.1, ⟨hk.1.1.2.2, hk.1.2⟩⟩⟩)⟩
  replace HO_6 : Aside0 (Kd.N k58 58 w27 w.heap.size (fun l => (P1_ l ∨ w.heap.size ≤ l) ∧ l ≠ g ∧ l ≠ b) W F) := ⟨by subst hq_; refine vN_ ?_; exact nm_ (fN_ (fN_ (fN_ (fN_ (fN_ (nm_ HO_6.out (fun l hk => (⟨hk, hk.2⟩ : _ ∧ l ≠ b)))))))) (fun _ hk => ⟨hk.1.1.1, ⟨hk.1.1.2, hk.1.2⟩⟩)⟩
  replace HO_16 : Aside0 (Kd.V k58 58 w27 w.heap.size (fun l => (P1_ l ∨ w.heap.size ≤ l) ∧ some l ≠ (W : Value).ownBlock ∧ l ≠ g ∧ l ≠ b) (.slice (some ac) d.length c1) d) := ⟨by subst hq_; refine vV_ ?_; exact vm_ (fV_ (fV_ (fV_ (fV_ (fV_ (vm_ HO_16.out (fun l hk => (⟨hk, hk.2⟩ : _ ∧ l ≠ b)))))))) (fun _ hk => ⟨hk.1.1.1, ⟨hk.1.1.2.1, ⟨hk.1.1.2.2, hk.1.2⟩⟩⟩)⟩
  replace HL374_1 : Aside0 (Kd.V (Kd.int .u64) 80 w27 w.heap.size (fun l => (P1_ l ∨ w.heap.size ≤ l) ∧ some l ≠ (W : Value).ownBlock ∧ l ≠ g ∧ l ≠ b) (.slice q ((rd_T58 d a).f1).length c374_1) ((rd_T58 d a).f1)) := ⟨by subst hq_; refine vV_ ?_; exact vm_ (fV_ (fV_ (fV_ (fV_ (fV_ (vm_ HL374_1.out (fun l hk => (⟨hk, hk.2⟩ : _ ∧ l ≠ b)))))))) (fun _ hk => ⟨hk.1.1.1, ⟨hk.1.1.2.1, ⟨hk.1.1.2.2, hk.1.2⟩⟩⟩)⟩
  replace c : Aside0 (w27.heap[g]? = some (.cells #[.int .i64 A, .slice J r.length c0_1, .slice M s.length c0_2, .slice O u.length c0_3, .slice P v.length c0_4, .slice Q y.length c0_5, .int .i64 B, .slice U z.length c0_7] 32 (0, 0))) := ⟨by subst hq_; refine bk_ ?_; refine blk_far ?_ p.out _; refine bk_ ?_; refine blk_far ?_ p.out _; refine bk_ ?_; refine blk_far ?_ p.out _; refine bk_ ?_; refine blk_far ?_ p.out _; refine bk_ ?_; refine blk_far ?_ p.out _; refine bk_ ?_; exact c.out⟩
  replace o : Aside0 (w27.heap[b]? = some (.cells #[.int .i64 ((rd_T58 d a).f0), .slice q ((rd_T58 d a).f1).length c374_1, .int .i64 ((rd_T58 d a).f2), .int .i64 ((rd_T58 d a).f3), .int .i64 ((rd_T58 d a).f4)] 58 (0, 0))) := ⟨by subst hq_; refine bk_ ?_; refine bu_ (cs := #[.int .i64 ((rd_T58 d a).f0), .slice q ((rd_T58 d a).f1).length c374_1, .int .i64 ((rd_T58 d a).f2), .int .i64 ((rd_T58 d a).f3), .int .i64 0]) ?_ 4 _ rfl; refine bk_ ?_; refine bu_ (cs := #[.int .i64 ((rd_T58 d a).f0), .slice q ((rd_T58 d a).f1).length c374_1, .int .i64 ((rd_T58 d a).f2), .int .i64 0, .int .i64 0]) ?_ 3 _ rfl; refine bk_ ?_; refine bu_ (cs := #[.int .i64 ((rd_T58 d a).f0), .slice q ((rd_T58 d a).f1).length c374_1, .int .i64 0, .int .i64 0, .int .i64 0]) ?_ 2 _ rfl; refine bk_ ?_; refine bu_ (cs := #[.int .i64 ((rd_T58 d a).f0), .slice none 0 0, .int .i64 0, .int .i64 0, .int .i64 0]) ?_ 1 _ rfl; refine bk_ ?_; refine bu_ (cs := #[.int .i64 0, .slice none 0 0, .int .i64 0, .int .i64 0, .int .i64 0]) ?_ 0 _ rfl; refine bk_ ?_; exact o.out⟩
  replace HB : Aside0 (Below w.heap.size w w27) := ⟨by subst hq_; exact bel_⟩
  rw [← hq_]
  clear hq_
  replace HO_1 := a_ (Kd.V_drew HO_1.out)
  replace HO_6 := a_ (Kd.N_drew HO_6.out)
  replace HO_16 := a_ (Kd.V_drew HO_16.out)
  replace HL374_1 := a_ (Kd.V_drew HL374_1.out)
  replace c := a_ (blk_drew c.out)
  replace o := a_ (blk_drew o.out)
  replace HB := a_ (below_drew1 HB.out)
  refine start_ (n := 6) (S := fun w' => w'.cell? ⟨b, 0, none⟩ = some (.int .i64 ((rd_T58 d a).f0)) ∧ w'.cell? ⟨b, 1, none⟩ = some (.slice q ((rd_T58 d a).f1).length c374_1) ∧ w'.cell? ⟨b, 2, none⟩ = some (.int .i64 ((rd_T58 d a).f2)) ∧ w'.cell? ⟨b, 3, none⟩ = some (.int .i64 ((rd_T58 d a).f3)) ∧ w'.cell? ⟨b, 4, none⟩ = some (.int .i64 ((rd_T58 d a).f4)) ∧ w'.cell? ⟨g, 0, none⟩ = some (.int .i64 A) ∧ w'.cell? ⟨g, 1, none⟩ = some (.slice J r.length c0_1) ∧ w'.cell? ⟨g, 2, none⟩ = some (.slice M s.length c0_2) ∧ w'.cell? ⟨g, 3, none⟩ = some (.slice O u.length c0_3) ∧ w'.cell? ⟨g, 4, none⟩ = some (.slice P v.length c0_4) ∧ w'.cell? ⟨g, 5, none⟩ = some (.slice Q y.length c0_5) ∧ w'.cell? ⟨g, 6, none⟩ = some (.int .i64 B) ∧ w'.cell? ⟨g, 7, none⟩ = some (.slice U z.length c0_7)) (ds := []) #[false, false, false, false, false, false] kr_ rfl rfl (cb5_ o.out (ca8_ c.out)) (fun hHeld => ?_)
  generalize w27.drew = w28 at HO_1 HO_6 HO_16 HL374_1 c o HB hHeld ⊢
  refine pu_ (i := 2) (N := some 25) kr_ ?_
  refine tak_ (i := 0) (N := some 23) kr_ hHeld ?_
  refine tak_ (i := 1) (N := some 24) kr_ hHeld ?_
  refine one_ (i := 3) (N := some 26) #[true, true, true, true, false, false] rfl rfl kr_ (by decide) (fun K hK => ?_)
  refine goes_ Tryz.func28 kr_ rfl #[.agg #[.int .i64 A, .slice J r.length c0_1, .slice M s.length c0_2, .slice O u.length c0_3, .slice P v.length c0_4, .slice Q y.length c0_5, .int .i64 B, .slice U z.length c0_7], .int .i64 a] (by rfl) rfl rfl ar_ ?_
  with_reducible refine (clause_want.calls A _ _ r _ _ s _ _ u _ _ v _ _ y B _ _ z a ag _ ?_ ?_ ?_ ?_ ?_ ?_ ?_ ?_ ?_ ?_ ?_ ?_ bk.out).mono ?_
  exact ca_ ((cb_ ah.out HB.out))
  exact ai.out
  exact ca_ ((cb_ aj.out HB.out))
  exact ak.out
  exact ca_ ((cb_ al.out HB.out))
  exact am.out
  exact ca_ ((cb_ an.out HB.out))
  exact ao.out
  exact ca_ ((cb_ ap.out HB.out))
  exact aq.out
  exact ca_ ((cb_ ar.out HB.out))
  exact au.out
  rintro e w29 ⟨rfl, hb⟩
  refine ⟨_, rfl, ?_⟩
  replace HO_1 := a_ (vb_ (vV_ HO_1.out) hb)
  replace HO_6 := a_ (Kd.N_below (vN_ HO_6.out) hb)
  replace HO_16 := a_ (vb_ (vV_ HO_16.out) hb)
  replace HL374_1 := a_ (vb_ (vV_ HL374_1.out) hb)
  replace c := a_ (bq_ c.out hb)
  replace o := a_ (bq_ o.out hb)
  replace HB := hq_ hb
  clear hb
  refine hK.out _ _ (cb5_ o.out (ca8_ c.out)) (fun hHeld => ?_)
  clear hK K
  refine nor_ (N := some 26) ?_
  refine one_ (i := 4) (N := some 27) #[true, true, true, true, true, false] rfl rfl kr_ (by decide) (fun K hK => ?_)
  refine goes_ Tryz.func24 kr_ rfl #[.agg #[.int .i64 ((rd_T58 d a).f0), .slice q ((rd_T58 d a).f1).length c374_1, .int .i64 ((rd_T58 d a).f2), .int .i64 ((rd_T58 d a).f3), .int .i64 ((rd_T58 d a).f4)], .int .i64 ag] (by rfl) rfl rfl ar_ ?_
  with_reducible refine (dom_Dom_Has.calls ((rd_T58 d a).f0) _ _ ((rd_T58 d a).f1) ((rd_T58 d a).f2) ((rd_T58 d a).f3) ((rd_T58 d a).f4) ag true _ ?_ ?_ bl.out).mono ?_
  focus repeat (first | exact ((Kd.V_reads' (vV_ HL374_1.out)).2.2) | (with_reducible refine Kd.C_alloc ?_ _) | (with_reducible refine Kd.C_drewN ?_ _) | (with_reducible refine Kd.C_drew ?_))
  exact af.out
  rintro e w30 ⟨rfl, hb⟩
  refine ⟨_, rfl, ?_⟩
  replace HO_1 := a_ (vb_ (vV_ HO_1.out) hb)
  replace HO_6 := a_ (Kd.N_below (vN_ HO_6.out) hb)
  replace HO_16 := a_ (vb_ (vV_ HO_16.out) hb)
  replace c := a_ (bq_ c.out hb)
  replace o := a_ (bq_ o.out hb)
  replace HB := hq_ hb
  clear hb
  refine hK.out _ _ (cb5_ o.out (ca8_ c.out)) (fun hHeld => ?_)
  clear hK K
  refine nor_ (N := some 27) ?_
  refine pu_ (i := 5) (N := some 28) kr_ ?_
  refine done_ kr_ ?_
  try go_wp2
  go_roundg k1
  case measure => have := bf.out; omega
  exact ⟨(a), (wrap64 (a + 1)), eq_, eq_, H', ⟨by have := bf.out; omega⟩, ⟨by refine vV_ ?_; exact vm_ HO_1.out (fun _ hk => ⟨hk.1, ⟨hk.2.1, hk.2.2.1⟩⟩)⟩, ⟨by refine vN_ ?_; exact nm_ HO_6.out (fun _ hk => ⟨hk.1, hk.2.1⟩)⟩, ⟨by refine vV_ ?_; exact vm_ HO_16.out (fun _ hk => ⟨hk.1, ⟨hk.2.1, hk.2.2.1⟩⟩)⟩, ⟨bk_ c.out⟩, ⟨bel_⟩⟩

end Go.Proofs.YtmhchlbbfpmdgaaGreatDoor.XClauseRefuses
