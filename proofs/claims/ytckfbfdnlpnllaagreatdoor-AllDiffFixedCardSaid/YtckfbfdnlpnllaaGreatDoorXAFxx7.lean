-- by xprint.py, a program of this session, over the kit's print
import Derived.Test.YtckfbfdnlpnllaaGreatDoorXAFxx0
import Derived.Test.YtckfbfdnlpnllaaGreatDoorXAFxx1
import Derived.Test.YtckfbfdnlpnllaaGreatDoorXAFxx5
import Derived.Test.YtckfbfdnlpnllaaGreatDoorXAFxx6
import Derived.Test.YtckfbfdnlpnllaaGreatDoorSq
namespace Go.Proofs.YtckfbfdnlpnllaaGreatDoor.XAllDiffFixed
open Go.RowKit Go.Proofs.YtckfbfdnlpnllaaGreatDoor.Sq Go.Proofs.YtckfbfdnlpnllaaGreatDoorW.PrintWords Go.Proofs.YtckfbfdnlpnllaaGreatDoorW.PrintLast Go.Proofs.YtckfbfdnlpnllaaGreatDoorW.PrintMore
attribute [local go_sem] max2_int min2_int max_two min_two max_three min_three max_four min_four   -- for this text's walks alone
set_option linter.unusedVariables false
set_option linter.unusedSimpArgs false

/-! ### dom_Of: function 33 -/
def dom_Of.l0 : Nat → List Int → Int → Int → Int → List Int → Int → Int → Int → Option (Int × List Int × Int × Int × Int × Int)
 | 0, _, _, _, _, _, _, _, _ => none
 | k + 1, e, n, c, a, b, g, l, m => if c < n then (if 0 ≤ c then (if c < (e.length : Int) then (if 0 ≤ (wrap64 (Int.tdiv (wrap64 ((rd e c) - a)) 64)) then (if (wrap64 (Int.tdiv (wrap64 ((rd e c) - a)) 64)) < (b.length : Int) then (if 0 ≤ (Int.tmod (wrap64 ((rd e c) - a)) 64) then (dom_Of.l0 k e n (wrap64 (c + 1)) a (b.set ((wrap64 (Int.tdiv (wrap64 ((rd e c) - a)) 64)) : Int).toNat (Go.bits .or .u64 (rd b (wrap64 (Int.tdiv (wrap64 ((rd e c) - a)) 64))) (shl .u64 1 (Int.tmod (wrap64 ((rd e c) - a)) 64)))) g l m) else (none)) else (none)) else (none)) else (none)) else (none)) else ((dom_made.f k a b).bind fun d => (some (d.1, d.2.1, d.2.2.1, d.2.2.2.1, d.2.2.2.2, 0)))
def dom_Of.f (k : Nat) (b : List Int) : Option (Int × List Int × Int × Int × Int × Int) := if (b.length : Int) = 0 then (none) else ((slices_ContainsFunc_int_int_60_at_dom_Of_1.f k b).bind fun c => (if c = true then (none) else ((slices_Max_int.f b).bind fun d => ((slices_Min_int.f b).bind fun e => (if (wrap64 (d - e)) ≥ 65536 then (none) else ((slices_Min_int.f b).bind fun g => ((slices_Max_int.f b).bind fun l => ((dom_room.f g l).bind fun a => (dom_Of.l0 k b (b.length : Int) 0 a.1 a.2.1 a.2.2.1 a.2.2.2.1 a.2.2.2.2)))))))))
theorem dom_Of.mono_l : ∀ k, (∀ a b c d e f g l, LeO (dom_Of.l0 k a b c d e f g l) (dom_Of.l0 (k + 1) a b c d e f g l))
 | 0 => by intros; exact LeO.none _
 | k + 1 => by
  have ih0 := dom_Of.mono_l k
  intro a b c d e f g l
  unfold dom_Of.l0
  have m0 := @dom_made.mono
  have m1 := @slices_ContainsFunc_int_int_60_at_dom_Of_1.mono
  exact leo_
theorem dom_Of.mono : ∀ a k, LeO (dom_Of.f k a) (dom_Of.f (k + 1) a) := by
 intro a k
 have ih0 := dom_Of.mono_l k
 unfold dom_Of.f
 have m0 := @dom_made.mono
 have m1 := @slices_ContainsFunc_int_int_60_at_dom_Of_1.mono
 exact leo_
def dom_Of.T11 : Bool × List (List Nat × List Nat) := (true, [([], []), ([0], [0]), ([], []), ([], []), ([3], [3]), ([2, 4], [2, 4]), ([5], [5]), ([1, 6], [1, 6]), ([7], [7]), ([], []), ([], []), ([10], [10]), ([9, 11], [9, 11]), ([12], [12]), ([13], [13]), ([8, 14], [8, 14]), ([1, 6, 0, 1, 2, 3, 4, 5, 6, 7, 8, 9, 10, 11, 12, 13, 14, 15], [1, 6]), ([16, 15, 0, 1, 2, 3, 4, 5, 6, 7, 8, 9, 10, 11, 12, 13, 14, 15], [15, 16])])
def dom_Of.B11 : List Nat := [0, 1, 0, 0, 8, 28, 60, 127, 255, 0, 0, 1024, 3584, 7680, 15872, 32767, 65535, 131071]
theorem dom_Of.tab11 : rtab .any (opsOf Tryz.f33 11) = dom_Of.T11 := by kernel_rfl
theorem dom_Of.bits11 : waitsOk dom_Of.T11.2 dom_Of.B11 = true := by kernel_rfl
set_option maxHeartbeats 8000000 in
set_option maxRecDepth 100000 in
theorem dom_Of.calls (k : Nat) (A0 : Option Addr) (c0 : Nat) (g : List Int) (r1 : Int) (r2 : List Int) (r3 : Int) (r4 : Int) (r5 : Int) (r6 : Int) (w : World) (aN : Kd.C (Kd.int .i64) w A0 g.length g) (aO : g.length ≤ c0) (hrtab : Kd.C (Kd.int .u8) w (some ⟨0, 0, none⟩) tabL.length tabL) (h : dom_Of.f k g = some (r1, r2, r3, r4, r5, r6)) :
  Calls Tryz.prog 33 #[.slice A0 g.length c0] w fun e w' => ∃ aP : Value, e = .returned (.tuple #[.agg #[.int .i64 r1, aP, .int .i64 r3, .int .i64 r4, .int .i64 r5], .int .i64 r6]) ∧ Kd.V (Kd.int .u64) 81 w' w.heap.size (fun u => (w.heap.size ≤ u)) aP r2 ∧ Below w.heap.size w w' := by
 have hu57 := Tryz.underlying57
 have Y := a_ aN
 have al := a_ aO
 clear aN aO
 have HRtab := a_ hrtab
 clear hrtab
 have HB := a_ (Below.refl w.heap.size w)
 unfold dom_Of.f at h
 have H := h
 clear h
 by_cases c2 : (g.length : Int) = 0
 ·
  rw [ip_ c2] at H
  exact ab_ H
 rw [ig_ c2] at H
 have c2b0 : ((g.length : Int) == 0) = false := be_.mpr c2
 have c2b1 : ((g.length : Int) != 0) = true := ni_.mpr c2
 have c2b2 : ¬ (g = []) := fun h_ => c2 (by rw [h_]; rfl)
 replace H := bo_ H
 obtain ⟨aR, A3, H⟩ := H
 try dsimp only at H
 by_cases c4 : aR = true
 ·
  subst c4
  rw [ip_ rfl] at H
  exact ab_ H
 replace c4 := bf_.mpr c4
 subst c4
 have H1 : ((slices_Max_int.f g).bind fun P => ((slices_Min_int.f g).bind fun Q => (if (wrap64 (P - Q)) ≥ 65536 then (none) else ((slices_Min_int.f g).bind fun U => ((slices_Max_int.f g).bind fun W => ((dom_room.f U W).bind fun z => (dom_Of.l0 k g (g.length : Int) 0 z.1 z.2.1 z.2.2.1 z.2.2.2.1 z.2.2.2.2))))))) = some (r1, r2, r3, r4, r5, r6) := by rw [ig_ (show ¬ (false = true) by decide)] at H; exact H
 clear H
 have H := H1
 clear H1
 replace H := bo_ H
 obtain ⟨P, A5, H⟩ := H
 try dsimp only at H
 replace H := bo_ H
 obtain ⟨Q, A6, H⟩ := H
 try dsimp only at H
 by_cases c7 : (wrap64 (P - Q)) ≥ 65536
 ·
  rw [ip_ c7] at H
  exact ab_ H
 rw [ig_ c7] at H
 have c7b0 : decide (65536 ≤ (wrap64 (P - Q))) = false := df_ c7
 clear c7
 replace H := bo_ H
 obtain ⟨U, A8, H⟩ := H
 try dsimp only at H
 replace H := bo_ H
 obtain ⟨W, A9, H⟩ := H
 try dsimp only at H
 replace H := bs_.mp H
 obtain ⟨⟨m, B, s, v, x⟩, av, H⟩ := H
 try dsimp only at H
 have aX := a_ av
 clear av
 have H' := a_ H
 clear H
 go_enter Tryz.func33, Tryz.ntmps33
 go_wp2_with (first | ((with_reducible refine gate_dst (N := 2) rfl ?_); refine bxe_ (N := 2) (cs := #[.int .i64 0, .slice none 0 0, .int .i64 0, .int .i64 0, .int .i64 0]) (t := 57) ?_; intro p hg w11 hbox hb; have b := a_ (hbox); have aI := a_ (by rw [hg]; exact (bz_ bel_) : w.heap.size ≤ p); have aJ := aI; replace HB := hq_ hb; clear hb hbox hg) | ((with_reducible refine gate_callee (f := 60) rfl ?_); refine goesL_ (some 14) rfl rfl Tryz.func60 kr_ rfl #[.slice A0 g.length c0, .func (.func 61) #[] #[]] rfl ar_ ?_; (with_reducible refine (slices_ContainsFunc_int_int_60_at_dom_Of_1.calls k _ _ g false _ ?_ ?_ A3.out).mono ?_); exact ca_ ((cb_ Y.out HB.out)); exact al.out; rintro e w' ⟨rfl, ⟨nd, rfl⟩⟩; refine ⟨_, rfl, ?_⟩; (try (rw [drewN_self w11]; generalize hq_ : World.drewN w11 _ = w11; replace b : Aside0 (w11.heap[p]? = some (.cells #[.int .i64 0, .slice none 0 0, .int .i64 0, .int .i64 0, .int .i64 0] 57 (0, 0))) := ⟨by rw [← hq_]; exact (bk_ b.out)⟩; replace HB : Aside0 (Below w.heap.size w w11) := ⟨by rw [← hq_]; exact bel_⟩; clear hq_)); (try (obtain ⟨_, _, _, _, _, _, _, _, _, _⟩ := cel5_ b.out))) | ((with_reducible refine gate_callee (f := 62) rfl ?_); refine goesL_ (some 18) rfl rfl Tryz.func62 kr_ rfl #[.slice A0 g.length c0] rfl ar_ ?_; (with_reducible refine (slices_Max_int.calls _ _ g P _ ?_ ?_ A5.out).mono ?_); exact ca_ ((cb_ Y.out HB.out)); exact al.out; rintro e w' ⟨rfl, ⟨nd, rfl⟩⟩; refine ⟨_, rfl, ?_⟩; (try (rw [drewN_self w11]; generalize hq_ : World.drewN w11 _ = w11; replace b : Aside0 (w11.heap[p]? = some (.cells #[.int .i64 0, .slice none 0 0, .int .i64 0, .int .i64 0, .int .i64 0] 57 (0, 0))) := ⟨by rw [← hq_]; exact (bk_ b.out)⟩; replace HB : Aside0 (Below w.heap.size w w11) := ⟨by rw [← hq_]; exact bel_⟩; clear hq_)); (try (obtain ⟨_, _, _, _, _, _, _, _, _, _⟩ := cel5_ b.out))) | ((with_reducible refine gate_callee (f := 63) rfl ?_); refine goesL_ (some 20) rfl rfl Tryz.func63 kr_ rfl #[.slice A0 g.length c0] rfl ar_ ?_; (with_reducible refine (slices_Min_int.calls _ _ g Q _ ?_ ?_ A6.out).mono ?_); exact ca_ ((cb_ Y.out HB.out)); exact al.out; rintro e w' ⟨rfl, ⟨nd, rfl⟩⟩; refine ⟨_, rfl, ?_⟩; (try (rw [drewN_self w11]; generalize hq_ : World.drewN w11 _ = w11; replace b : Aside0 (w11.heap[p]? = some (.cells #[.int .i64 0, .slice none 0 0, .int .i64 0, .int .i64 0, .int .i64 0] 57 (0, 0))) := ⟨by rw [← hq_]; exact (bk_ b.out)⟩; replace HB : Aside0 (Below w.heap.size w w11) := ⟨by rw [← hq_]; exact bel_⟩; clear hq_)); (try (obtain ⟨_, _, _, _, _, _, _, _, _, _⟩ := cel5_ b.out))) | ((with_reducible refine gate_callee (f := 63) rfl ?_); refine goesL_ (some 25) rfl rfl Tryz.func63 kr_ rfl #[.slice A0 g.length c0] rfl ar_ ?_; (with_reducible refine (slices_Min_int.calls _ _ g U _ ?_ ?_ A8.out).mono ?_); exact ca_ ((cb_ Y.out HB.out)); exact al.out; rintro e w' ⟨rfl, ⟨nd, rfl⟩⟩; refine ⟨_, rfl, ?_⟩; (try (rw [drewN_self w11]; generalize hq_ : World.drewN w11 _ = w11; replace b : Aside0 (w11.heap[p]? = some (.cells #[.int .i64 0, .slice none 0 0, .int .i64 0, .int .i64 0, .int .i64 0] 57 (0, 0))) := ⟨by rw [← hq_]; exact (bk_ b.out)⟩; replace HB : Aside0 (Below w.heap.size w w11) := ⟨by rw [← hq_]; exact bel_⟩; clear hq_)); (try (obtain ⟨_, _, _, _, _, _, _, _, _, _⟩ := cel5_ b.out))) | ((with_reducible refine gate_callee (f := 62) rfl ?_); refine goesL_ (some 27) rfl rfl Tryz.func62 kr_ rfl #[.slice A0 g.length c0] rfl ar_ ?_; (with_reducible refine (slices_Max_int.calls _ _ g W _ ?_ ?_ A9.out).mono ?_); exact ca_ ((cb_ Y.out HB.out)); exact al.out; rintro e w' ⟨rfl, ⟨nd, rfl⟩⟩; refine ⟨_, rfl, ?_⟩; (try (rw [drewN_self w11]; generalize hq_ : World.drewN w11 _ = w11; replace b : Aside0 (w11.heap[p]? = some (.cells #[.int .i64 0, .slice none 0 0, .int .i64 0, .int .i64 0, .int .i64 0] 57 (0, 0))) := ⟨by rw [← hq_]; exact (bk_ b.out)⟩; replace HB : Aside0 (Below w.heap.size w w11) := ⟨by rw [← hq_]; exact bel_⟩; clear hq_)); (try (obtain ⟨_, _, _, _, _, _, _, _, _, _⟩ := cel5_ b.out))) | ((with_reducible refine gate_callee (f := 53) rfl ?_); refine goesL_ (some 28) rfl rfl Tryz.func53 kr_ rfl #[.int .i64 U, .int .i64 W] rfl ar_ ?_; (with_reducible refine (dom_room.calls U W m B s v x _ aX.out).mono ?_); rintro e w17 ⟨bb, rfl, am, hb⟩; refine ⟨_, rfl, ?_⟩; have J := a_ (Kd.R_lower (Kd.R_newM (M := fun u => (w.heap.size ≤ u)) am (bz_ bel_) (fun u h_ => h_)) (bz_ bel_)); replace b := a_ (bq_ b.out hb); replace HB := hq_ hb; clear hb am) | ((with_reducible refine gate_dst (N := 4) rfl ?_); refine bxe_ (N := 4) (cs := #[.int .i64 0, .slice none 0 0, .int .i64 0, .int .i64 0, .int .i64 0]) (t := 57) ?_; intro q hg w18 hbox hb; replace J := a_ (rb_ (vR_ J.out) hb); have l := a_ (hbox); have aK := a_ (by rw [hg]; exact (bz_ bel_) : w.heap.size ≤ q); have aL := aK; replace HB := hq_ hb; have o := a_ ((by rw [hg]; exact Nat.ne_of_lt (blk_lt (bk_ b.out)) : p ≠ q)); have I := a_ ((by rw [hg]; exact Nat.ne_of_gt (blk_lt (bk_ b.out)) : q ≠ p)); replace b := a_ (bq_ b.out hb); clear hb hbox hg; have a0 := I.out; have a1 := o.out; obtain ⟨_, _, _, _, _, _, _, _, _, _⟩ := cel5_ l.out; obtain ⟨Z, aa, aS⟩ := Kd.R_slice J.out; subst aS))
 go_loopg [31] k (fun kq aY w' => ∃ (c : Int) (a : List Int) (u228001 : Value), aY = .int .i64 c ∧ Aside0 (dom_Of.l0 kq g (g.length : Int) c m a s v x = some (r1, r2, r3, r4, r5, r6)) ∧ Aside0 (kq ≤ k) ∧ Aside0 (Kd.R (Kd.int .u64) 81 w' w.heap.size (fun u => (w.heap.size ≤ u)) u228001 a) ∧ Aside0 (w'.heap[p]? = some (.cells #[.int .i64 0, (.slice none 0 0), .int .i64 0, .int .i64 0, .int .i64 0] 57 (0, 0))) ∧ Aside0 (w'.heap[q]? = some (.cells #[.int .i64 m, u228001, .int .i64 s, .int .i64 v, .int .i64 x] 57 (0, 0))) ∧ Aside0 (Below w.heap.size w w'))
 case atStart => exact ⟨(0), (B), (.slice Z B.length aa), eq_, H', ⟨lr_ _⟩, ⟨by refine vR_ ?_; exact rm_ (fR_ (fR_ (fR_ (fR_ (fR_ (rt_ J.out l.out (by decide))))))) (fun _ hk => hk.1.1)⟩, ⟨by refine bk_ ?_; refine blk_far ?_ o.out _; refine bk_ ?_; refine blk_far ?_ o.out _; refine bk_ ?_; refine blk_far ?_ o.out _; refine bk_ ?_; refine blk_far ?_ o.out _; refine bk_ ?_; refine blk_far ?_ o.out _; refine bk_ ?_; exact b.out⟩, ⟨by refine bk_ ?_; refine bu_ (cs := #[.int .i64 m, .slice Z B.length aa, .int .i64 s, .int .i64 v, .int .i64 0]) ?_ 4 _ rfl; refine bk_ ?_; refine bu_ (cs := #[.int .i64 m, .slice Z B.length aa, .int .i64 s, .int .i64 0, .int .i64 0]) ?_ 3 _ rfl; refine bk_ ?_; refine bu_ (cs := #[.int .i64 m, .slice Z B.length aa, .int .i64 0, .int .i64 0, .int .i64 0]) ?_ 2 _ rfl; refine bk_ ?_; refine bu_ (cs := #[.int .i64 m, .slice none 0 0, .int .i64 0, .int .i64 0, .int .i64 0]) ?_ 1 _ rfl; refine bk_ ?_; refine bu_ (cs := #[.int .i64 0, .slice none 0 0, .int .i64 0, .int .i64 0, .int .i64 0]) ?_ 0 _ rfl; refine bk_ ?_; exact l.out⟩, ⟨bel_⟩⟩
 clear H'
 try clear c1
 try clear c2
 try clear c2b0
 try clear c2b1
 try clear c2b2
 try clear p2
 try clear c3
 try clear c4
 try clear c5
 try clear c6
 try clear p6
 try clear c7
 try clear c7b0
 try clear c19
 obtain ⟨c, a, u228001, rfl, HA, aQ, HO_228001, b, l, HB⟩ := hrel
 cases gk with
 | zero => exact absurd HA.out (by simp [dom_Of.l0])
 | succ k1 =>
  have H := HA.out
  clear HA
  simp only [dom_Of.l0] at H
  by_cases c22 : c < (g.length : Int)
  rotate_left
  ·
   rw [ig_ c22] at H
   have c22b0 : decide (c < (g.length : Int)) = false := df_ c22
   clear c22
   replace H := bs_.mp H
   obtain ⟨⟨G, X, ac, aq, aE⟩, aF, H⟩ := H
   try dsimp only at H
   have aZ := a_ aF
   clear aF
   simp only [Option.some.injEq, Prod.mk.injEq] at H
   obtain ⟨rfl, rfl, rfl, rfl, rfl, rfl⟩ := H
   have a4 := I.out
   have a5 := o.out
   obtain ⟨_, _, _, _, _, _, _, _, _, _⟩ := cel5_ l.out
   obtain ⟨aG, aH, aV⟩ := Kd.R_slice HO_228001.out
   subst aV
   go_wp2_with (first | ((with_reducible refine gate_callee (f := 54) rfl ?_); refine goesL_ (some 57) rfl rfl Tryz.func54 kr_ rfl #[.int .i64 m, .slice aG a.length aH] rfl ar_ ?_; (with_reducible refine (dom_made.calls k1 m (fun u => some u = (.slice aG a.length aH : Value).ownBlock) _ _ a G X ac aq aE _ ?_ ?_ aZ.out).mono ?_); exact Kd.R_V (Kd.R_tight rfl (rt_ (rt_ (HO_228001.out) b.out (by decide)) l.out (by decide))); exact ca_ ((cb_ HRtab.out HB.out)); rintro e w39 ⟨be, rfl, am, hb⟩; refine ⟨_, rfl, ?_⟩; have au := a_ (Kd.V_lower (vm_ (ok' := fun u => (w.heap.size ≤ u) ∧ u ≠ p ∧ u ≠ q) am (fun u hk_ => ⟨Or.elim hk_ (fun hs_ => ((rt_ (rt_ (HO_228001.out) b.out (by decide)) l.out (by decide)).1 u hs_.symm).1.1) (fun hn_ => (Nat.le_trans (bz_ bel_) hn_)), Or.elim hk_ (fun hs_ => ((rt_ (rt_ (HO_228001.out) b.out (by decide)) l.out (by decide)).1 u hs_.symm).1.2) (fun hn_ => (Kd.freshB (bk_ b.out) u hn_)), Or.elim hk_ (fun hs_ => ((rt_ (rt_ (HO_228001.out) b.out (by decide)) l.out (by decide)).1 u hs_.symm).2) (fun hn_ => (Kd.freshB (bk_ l.out) u hn_))⟩)) (bz_ bel_)); replace b := a_ (bq_ b.out hb); replace HB := hq_ hb; clear hb am; obtain ⟨_, _, _, _, _, _, _, _, _, _⟩ := cel5_ b.out; obtain ⟨ad, ae, aW⟩ := Kd.V_slice au.out; subst aW))
   refine bodyPost_ret (results_ct rfl _ _ p 57 #[.int .i64 G, .slice ad X.length ae, .int .i64 ac, .int .i64 aq, .int .i64 aE] (0, 0) _ rfl (by refine bk_ ?_; refine bu_ (cs := #[.int .i64 G, .slice ad X.length ae, .int .i64 ac, .int .i64 aq, .int .i64 0]) ?_ 4 _ rfl; refine bk_ ?_; refine bu_ (cs := #[.int .i64 G, .slice ad X.length ae, .int .i64 ac, .int .i64 0, .int .i64 0]) ?_ 3 _ rfl; refine bk_ ?_; refine bu_ (cs := #[.int .i64 G, .slice ad X.length ae, .int .i64 0, .int .i64 0, .int .i64 0]) ?_ 2 _ rfl; refine bk_ ?_; refine bu_ (cs := #[.int .i64 G, .slice none 0 0, .int .i64 0, .int .i64 0, .int .i64 0]) ?_ 1 _ rfl; refine bk_ ?_; refine bu_ (cs := #[.int .i64 0, .slice none 0 0, .int .i64 0, .int .i64 0, .int .i64 0]) ?_ 0 _ rfl; refine bk_ ?_; exact b.out) Tryz.underlying57 rfl kr_) rfl ?_
   exact ⟨_, er_, by refine vV_ ?_; exact vm_ (fV_ (fV_ (fV_ (fV_ (fV_ (vm_ au.out (fun u hk => (⟨hk, hk.2.1⟩ : _ ∧ u ≠ p)))))))) (fun _ hk => hk.1.1), bel_⟩
  rw [ip_ c22] at H
  have c22b0 : decide (c < (g.length : Int)) = true := dt_ c22
  clear c22
  by_cases c23 : 0 ≤ c
  rotate_left
  ·
   rw [ig_ c23] at H
   exact ab_ H
  rw [ip_ c23] at H
  have c23b0 : decide (0 ≤ c) = true := dt_ c23
  clear c23
  by_cases c24 : c < (g.length : Int)
  rotate_left
  ·
   rw [ig_ c24] at H
   exact ab_ H
  rw [ip_ c24] at H
  have c24b0 : decide (c < (g.length : Int)) = true := dt_ c24
  clear c24
  obtain ⟨d, ab⟩ : ∃ j_ : Int, (wrap64 (Int.tdiv (wrap64 ((rd g c) - m)) 64)) = j_ := ⟨_, rfl⟩
  replace H : (if 0 ≤ (d) then (if (d) < (a.length : Int) then (if 0 ≤ (Int.tmod (wrap64 ((rd g c) - m)) 64) then (dom_Of.l0 k1 g (g.length : Int) (wrap64 (c + 1)) m (a.set ((d) : Int).toNat (Go.bits .or .u64 (rd a (d)) (shl .u64 1 (Int.tmod (wrap64 ((rd g c) - m)) 64)))) s v x) else (none)) else (none)) else (none)) = some (r1, r2, r3, r4, r5, r6) := by first | (rw [ab] at H; exact H) | (simp only [ab] at H ⊢; exact H)
  have hji25w : (IntKind.i64.wrap (Int.tdiv (wrap64 ((rd g c) - m)) 64)) = d := (i64_w _).trans ab
  by_cases c26 : 0 ≤ (d)
  rotate_left
  ·
   rw [ig_ c26] at H
   exact ab_ H
  rw [ip_ c26] at H
  have c26b0 : decide (0 ≤ (d)) = true := dt_ c26
  clear c26
  by_cases c27 : (d) < (a.length : Int)
  rotate_left
  ·
   rw [ig_ c27] at H
   exact ab_ H
  rw [ip_ c27] at H
  have c27b0 : decide ((d) < (a.length : Int)) = true := dt_ c27
  clear c27
  obtain ⟨r, ar⟩ : ∃ j_ : Int, (Int.tmod (wrap64 ((rd g c) - m)) 64) = j_ := ⟨_, rfl⟩
  replace H : (if 0 ≤ (r) then (dom_Of.l0 k1 g (g.length : Int) (wrap64 (c + 1)) m (a.set ((d) : Int).toNat (Go.bits .or .u64 (rd a (d)) (shl .u64 1 (r)))) s v x) else (none)) = some (r1, r2, r3, r4, r5, r6) := by first | (rw [ar] at H; exact H) | (simp only [ar] at H ⊢; exact H)
  by_cases c29 : 0 ≤ (r)
  rotate_left
  ·
   rw [ig_ c29] at H
   exact ab_ H
  rw [ip_ c29] at H
  have c29b0 := et_ c29
  have c29b1 : decide (0 ≤ (r)) = true := dt_ c29
  clear c29
  obtain ⟨y, O⟩ : ∃ j_ : Int, (shl .u64 1 (r)) = j_ := ⟨_, rfl⟩
  replace H : (dom_Of.l0 k1 g (g.length : Int) (wrap64 (c + 1)) m (a.set ((d) : Int).toNat (Go.bits .or .u64 (rd a (d)) (y))) s v x) = some (r1, r2, r3, r4, r5, r6) := by first | (rw [O] at H; exact H) | (simp only [O] at H ⊢; exact H)
  have aw : (IntKind.u64.wrap (1 * 2 ^ min (r).toNat 64)) = y := O
  have hji30z : (r) ≤ 64 → (IntKind.u64.wrap (1 * 2 ^ (r).toNat)) = y := shl_small O
  have hji30u : (IntKind.u64.wrap (2 ^ min (r).toNat 64)) = y := by have h_ := aw; rw [Int.one_mul] at h_; exact h_
  have hji30v : (r) ≤ 64 → (IntKind.u64.wrap (2 ^ (r).toNat)) = y := fun hle_ => by have h_ := hji30z hle_; rw [Int.one_mul] at h_; exact h_
  obtain ⟨ax, A⟩ : ∃ y_ : List Int, y_ = (a.set ((d) : Int).toNat (Go.bits .or .u64 (rd a (d)) (y))) := ⟨_, rfl⟩
  replace H : (dom_Of.l0 k1 g (g.length : Int) (wrap64 (c + 1)) m ax s v x) = some (r1, r2, r3, r4, r5, r6) := h2_ H A
  have aM := a_ A
  clear A
  have H' := a_ H
  clear H
  have p228 : 0 ≤ (c : Int) := dq_
  have ao : c < (g.length : Int) := dq_
  obtain ⟨a2, aT, E⟩ := ai_ Y.out c p228 ao
  cases aT
  replace E := hx_ HB E
  replace p228 := et_ p228
  replace ao := et_ ao
  try go_wp2
  replace HO_228001 := a_ (Kd.R_drew HO_228001.out)
  replace b := a_ (blk_drew b.out)
  replace l := a_ (blk_drew l.out)
  replace HB := a_ (below_drew1 HB.out)
  obtain ⟨bc, ay, az⟩ := Kd.R_slice HO_228001.out
  (first | subst az | (injection az with f1_ f2_ f3_; have f4_ := f1_.symm; have f5_ := f3_.symm; clear f1_ f2_ f3_; subst f4_; subst f5_))
  have p229 : 0 ≤ ((d) : Int) := dq_
  have ap : (d) < (a.length : Int) := dq_
  obtain ⟨a3, aU, F⟩ := ai_ (rr_ HO_228001.out).2.2 (d) p229 ap
  cases aU
  replace p229 := et_ p229
  replace ap := et_ ap
  have p31 : 0 ≤ ((d) : Int) := dq_
  have aA : ((d) : Int) < ((a.length : Int) : Int) := dq_
  obtain ⟨go31, bd, aB, aC, gl31, cl31, HG31⟩ := Kd.R_form HO_228001.out (by omega)
  (first | cases aB | (injection aB with ea_ en_ ec_; (first | subst ea_ | (injection ea_ with ea_; subst ea_)); subst ec_; clear en_))
  have GB31 := a_ aC
  have GG31 := a_ HG31
  clear aC gl31 HG31
  (first | simp only [add_plain] at F | skip)
  obtain ⟨aD, hf31_0⟩ := Kd.R_celln 0 HO_228001.out ((d) : Int) p31 aA
  replace p31 := et_ p31
  replace aA := et_ aA
  have HP34 := Kd.R_putn HO_228001.out ((d) : Int) (Go.bits .or .u64 (rd a (d)) (y))
  rw [← aM.out] at HP34
  have HQ34 := a_ HP34
  clear HP34
  refine start_ (n := 18) (S := fun w' => w'.cell? ⟨q, 0, none⟩ = some (.int .i64 m) ∧ w'.cell? ⟨q, 1, none⟩ = some (.slice (some ⟨go31, 0, none⟩) a.length ay) ∧ w'.cell? ⟨q, 2, none⟩ = some (.int .i64 s) ∧ w'.cell? ⟨q, 3, none⟩ = some (.int .i64 v) ∧ w'.cell? ⟨q, 4, none⟩ = some (.int .i64 x) ∧ w'.cell? ⟨go31, ((d)).toNat, none⟩ = some (.int .u64 (rd a (d)))) (ds := [17]) #[false, false, false, false, false, false, false, false, false, false, false, false, false, false, false, false, false, false] kr_ rfl rfl (cb5_ l.out (F)) (fun hHeld => ?_); refine with_tabW dom_Of.tab11 dom_Of.bits11 (fun HT_ HW_ => ?_)
  generalize wr.drew = w32 at HO_228001 b l HB GG31 HQ34 hf31_0 F aD hHeld ⊢
  refine pn_ 0 35 ao_ ?_
  refine pn_ 2 37 ao_ ?_
  refine pn_ 3 38 ao_ ?_
  refine pn_ 9 44 ao_ ?_
  refine pn_ 10 45 ao_ ?_
  refine tn_ 1 36 tw_ hHeld ?_
  refine tn_ 4 39 tw_ hHeld ?_
  refine pn_ 5 40 ao_ ?_
  refine pn_ 6 41 ao_ ?_
  refine pn_ 7 42 ao_ ?_
  refine tn_ 8 43 tw_ hHeld ?_
  refine tn_ 11 46 tw_ hHeld ?_
  refine pn_ 12 47 ao_ ?_
  refine pn_ 13 48 ao_ ?_
  refine pn_ 14 49 ao_ ?_
  refine pn_ 15 50 ao_ ?_
  refine pn_ 16 51 ao_ ?_
  refine last_ (i := 17) (N := none) #[true, true, true, true, true, true, true, true, true, true, true, true, true, true, true, true, true, true] rfl rfl on_ (by decide) (fun K hK => ?_)
  refine skip_ (w1 := ?_) (by rfl) rfl ?_ ?_
  rotate_left
  ·
   go_simp
   rfl
  refine hK.out _ _ ?_
  clear hK K
  refine done_ dn_ ?_
  try go_wp2
  go_roundg k1
  case measure => have := aQ.out; omega
  exact ⟨(wrap64 (c + 1)), (ax), (.slice (some ⟨go31, 0, none⟩) a.length ay), eq_, H', ⟨by have := aQ.out; omega⟩, ⟨vR_ HQ34.out⟩, ⟨by refine bk_ ?_; refine blk_far ?_ (by have h_ := Kd.R_ne HO_228001.out b.out (by decide); intro e_; exact h_ (by rw [e_]; rfl)) _; refine bk_ ?_; exact b.out⟩, ⟨by refine bk_ ?_; refine blk_far ?_ (by have h_ := Kd.R_ne HO_228001.out l.out (by decide); intro e_; exact h_ (by rw [e_]; rfl)) _; refine bk_ ?_; exact l.out⟩, ⟨by repeat (first | (with_reducible first | exact HB.out | apply below_alloc | apply pw_below_drewN | apply below_drew1 | refine below_set ?_ GB31.out | refine below_set ?_ aJ.out | refine below_set ?_ aL.out) | exact HB.out)⟩⟩

/-! ### prop_Made: function 32 -/
def prop_Made.l0 : Nat → List (S57) → List (List Int) → Int → Int → Option ((List (S57)) × Bool)
 | 0, _, _, _, _ => none
 | k + 1, d, e, c, b => if b < c then (if 0 ≤ b then (if b < (e.length : Int) then ((dom_Of.f k (rd_L3 e b)).bind fun a => (if a.2.2.2.2.2 = 0 then (if d.length < 2513169434916 then (prop_Made.l0 k (d ++ [(⟨a.1, a.2.1, a.2.2.1, a.2.2.2.1, a.2.2.2.2.1⟩ : S57)]) e c (wrap64 (b + 1))) else (none)) else (none))) else (none)) else (none)) else (some (d, true))
def prop_Made.f (k : Nat) (a : List (List Int)) : Option ((List (S57)) × Bool) := prop_Made.l0 k ([] : List (S57)) a (a.length : Int) 0
theorem prop_Made.mono_l : ∀ k, (∀ a b c d, LeO (prop_Made.l0 k a b c d) (prop_Made.l0 (k + 1) a b c d))
 | 0 => by intros; exact LeO.none _
 | k + 1 => by
  have ih0 := prop_Made.mono_l k
  intro a b c d
  unfold prop_Made.l0
  have m0 := @dom_Of.mono
  exact leo_
theorem prop_Made.mono : ∀ a k, LeO (prop_Made.f k a) (prop_Made.f (k + 1) a) := by
 intro a k
 have ih0 := prop_Made.mono_l k
 unfold prop_Made.f
 have m0 := @dom_Of.mono
 exact leo_
set_option maxHeartbeats 8000000 in
set_option maxRecDepth 100000 in
theorem prop_Made.calls (k : Nat) (A0 : Option Addr) (c0 : Nat) (o : List (List Int)) (O : List (S57)) (P : Bool) (w : World) (X : Kd.C (Kd.slice 3 (Kd.int .i64)) w A0 o.length o) (Y : o.length ≤ c0) (hrtab : Kd.C (Kd.int .u8) w (some ⟨0, 0, none⟩) tabL.length tabL) (h : prop_Made.f k o = some (O, P)) :
  Calls Tryz.prog 32 #[.slice A0 o.length c0] w fun e w' => ∃ Z : Value, e = .returned (.tuple #[Z, .bool P]) ∧ Kd.N k57 57 w' w.heap.size (fun a => (w.heap.size ≤ a)) Z O ∧ Below w.heap.size w w' := by
 have hu57 := Tryz.underlying57
 have ag := a_ X
 have ao := a_ Y
 clear X Y
 have HRtab := a_ hrtab
 clear hrtab
 have HB := a_ (Below.refl w.heap.size w)
 unfold prop_Made.f at h
 have H := h
 clear h
 have H' := a_ H
 clear H
 go_enter Tryz.func32, Tryz.ntmps32
 go_wp2
 go_loopg [4, 11] k (fun kq v4 ah w' => ∃ (r : List (S57)) (c : Int), ah = .int .i64 c ∧ Aside0 (prop_Made.l0 kq r o (o.length : Int) c = some (O, P)) ∧ Aside0 (kq ≤ k) ∧ Aside0 (Kd.N k57 57 w' w.heap.size (fun a => (w.heap.size ≤ a)) v4 r) ∧ Aside0 (Below w.heap.size w w'))
 case atStart => exact ⟨(([] : List (S57))), (0), eq_, H', ⟨lr_ _⟩, ⟨nil_⟩, ⟨bel_⟩⟩
 clear H'
 obtain ⟨r, c, rfl, HA, aa, HO_4, HB⟩ := hrel
 cases gk with
 | zero => exact absurd HA.out (by simp [prop_Made.l0])
 | succ k1 =>
  have H := HA.out
  clear HA
  simp only [prop_Made.l0] at H
  by_cases c2 : c < (o.length : Int)
  rotate_left
  ·
   rw [ig_ c2] at H
   have c2b0 : decide (c < (o.length : Int)) = false := df_ c2
   clear c2
   simp only [Option.some.injEq, Prod.mk.injEq] at H
   obtain ⟨rfl, rfl⟩ := H
   go_wp2
   go_ret2
   exact ⟨_, er_, vN_ HO_4.out, bel_⟩
  rw [ip_ c2] at H
  have c2b0 : decide (c < (o.length : Int)) = true := dt_ c2
  clear c2
  by_cases c3 : 0 ≤ c
  rotate_left
  ·
   rw [ig_ c3] at H
   exact ab_ H
  rw [ip_ c3] at H
  have c3b0 : decide (0 ≤ c) = true := dt_ c3
  clear c3
  by_cases c4 : c < (o.length : Int)
  rotate_left
  ·
   rw [ig_ c4] at H
   exact ab_ H
  rw [ip_ c4] at H
  have c4b0 : decide (c < (o.length : Int)) = true := dt_ c4
  clear c4
  replace H := bs_.mp H
  obtain ⟨⟨l, g, m, q, s, F⟩, ab, H⟩ := H
  try dsimp only at H
  have A5 := a_ ab
  clear ab
  by_cases c6 : F = 0
  rotate_left
  ·
   rw [ig_ c6] at H
   exact ab_ H
  rw [ip_ c6] at H
  have c6b0 : (F == 0) = true := beq_iff_eq.mpr c6
  have c6b1 : (F != 0) = false := bn_.mpr c6
  clear c6
  by_cases c7 : r.length < 2513169434916
  rotate_left
  ·
   rw [ig_ c7] at H
   exact ab_ H
  rw [ip_ c7] at H
  have LMc7 := a_ c7
  clear c7
  obtain ⟨K, y⟩ : ∃ y_ : List (S57), y_ = (r ++ [(⟨l, g, m, q, s⟩ : S57)]) := ⟨_, rfl⟩
  replace H : (prop_Made.l0 k1 K o (o.length : Int) (wrap64 (c + 1))) = some (O, P) := h2_ H y
  have Q := a_ y
  clear y
  have H' := a_ H
  clear H
  have p238 : 0 ≤ (c : Int) := dq_
  have G : c < (o.length : Int) := dq_
  obtain ⟨ai, M, c238_0, ad, A, B, E⟩ := at_L3 ag.out c p238 G
  cases ad
  replace A := hx_ HB A
  have I := a_ E
  have J := a_ B
  clear E B
  replace p238 := et_ p238
  replace G := et_ G
  go_wp2_with (first | ((with_reducible refine gate_callee (f := 33) rfl ?_); refine goesL_ (some 17) rfl rfl Tryz.func33 kr_ rfl #[.slice M (rd_L3 o c).length c238_0] rfl ar_ ?_; (with_reducible refine (dom_Of.calls k1 _ _ (rd_L3 o c) l g m q s F _ ?_ ?_ ?_ A5.out).mono ?_); exact ca_ ((cb_ I.out HB.out)); exact J.out; exact ca_ ((cb_ HRtab.out HB.out)); rintro e w8 ⟨am, rfl, ac, hb⟩; refine ⟨_, rfl, ?_⟩; have n := a_ (Kd.V_lower (vm_ (ok' := fun a => (w.heap.size ≤ a) ∧ some a ≠ u4.ownBlock) ac (fun a hk_ => ⟨(Nat.le_trans (bz_ bel_) hk_), (fr_ (Kd.N_lt (vN_ HO_4.out)) a hk_)⟩)) (bz_ bel_)); replace HO_4 := a_ (Kd.N_below (vN_ HO_4.out) hb); replace HB := hq_ hb; clear hb ac) | ((with_reducible refine gate_dst (N := 7) rfl ?_); refine bxe_ (N := 7) (cs := #[.int .i64 0, .slice none 0 0, .int .i64 0, .int .i64 0, .int .i64 0]) (t := 57) ?_; intro d hg w9 hbox hb; replace HO_4 := a_ (Kd.N_below (Kd.N_elderB (vN_ HO_4.out) d (Nat.le_of_eq hg.symm)) hb); replace n := a_ (vb_ (Kd.V_elderB (vV_ n.out) d (Nat.le_of_eq hg.symm)) hb); have z := a_ (hbox); have U := a_ (by rw [hg]; exact (bz_ bel_) : w.heap.size ≤ d); have aj := U; replace HB := hq_ hb; clear hb hbox hg; obtain ⟨_, _, _, _, _, _, _, _, _, _⟩ := cel5_ z.out; obtain ⟨u, x, ae⟩ := Kd.V_slice n.out; subst ae) | ((with_reducible refine gate_store (t := 57) (p := 7) rfl ?_); refine store_event (t := 57) (p := 7) (v := ?vo_w12) (w1 := (((((w9.setCell ⟨d, 0, none⟩ (.int .i64 l)).setCell ⟨d, 1, none⟩ (.slice u g.length x)).setCell ⟨d, 2, none⟩ (.int .i64 m)).setCell ⟨d, 3, none⟩ (.int .i64 q)).setCell ⟨d, 4, none⟩ (.int .i64 s))) ?hg ?ho ?hn ?hr ?_; (case ho => rfl); (case hg => rfl); (case hn => rfl); (case hr => first | (go_simp; done) | (go_simp; rfl)); intro w12 hw; replace HO_4 : Aside0 (Kd.N k57 57 w12 w.heap.size (fun a => (w.heap.size ≤ a) ∧ a ≠ d) u4 r) := ⟨(by rw [hw]; exact (by refine vN_ ?_; exact nm_ (fN_ (fN_ (fN_ (fN_ (fN_ (nm_ HO_4.out (fun a hk => (⟨hk, hk.2⟩ : _ ∧ a ≠ d)))))))) (fun _ hk => ⟨hk.1.1, hk.1.2⟩)))⟩; replace n : Aside0 (Kd.V (Kd.int .u64) 81 w12 w.heap.size (fun a => (w.heap.size ≤ a) ∧ some a ≠ u4.ownBlock ∧ a ≠ d) (.slice u g.length x) g) := ⟨(by rw [hw]; exact (by refine vV_ ?_; exact vm_ (fV_ (fV_ (fV_ (fV_ (fV_ (vm_ n.out (fun a hk => (⟨hk, hk.2⟩ : _ ∧ a ≠ d)))))))) (fun _ hk => ⟨hk.1.1.1, ⟨hk.1.1.2, hk.1.2⟩⟩)))⟩; replace z : Aside0 (w12.heap[d]? = some (.cells #[.int .i64 l, .slice u g.length x, .int .i64 m, .int .i64 q, .int .i64 s] 57 (0, 0))) := ⟨(by rw [hw]; exact (by refine bk_ ?_; refine bu_ (cs := #[.int .i64 l, .slice u g.length x, .int .i64 m, .int .i64 q, .int .i64 0]) ?_ 4 _ rfl; refine bk_ ?_; refine bu_ (cs := #[.int .i64 l, .slice u g.length x, .int .i64 m, .int .i64 0, .int .i64 0]) ?_ 3 _ rfl; refine bk_ ?_; refine bu_ (cs := #[.int .i64 l, .slice u g.length x, .int .i64 0, .int .i64 0, .int .i64 0]) ?_ 2 _ rfl; refine bk_ ?_; refine bu_ (cs := #[.int .i64 l, .slice none 0 0, .int .i64 0, .int .i64 0, .int .i64 0]) ?_ 1 _ rfl; refine bk_ ?_; refine bu_ (cs := #[.int .i64 0, .slice none 0 0, .int .i64 0, .int .i64 0, .int .i64 0]) ?_ 0 _ rfl; refine bk_ ?_; exact z.out))⟩; replace HB : Aside0 (Below w.heap.size w w12) := ⟨(by rw [hw]; exact bel_)⟩; clear hw; obtain ⟨_, _, _, _, _, _, _, _, _, _⟩ := cel5_ z.out) | ((with_reducible refine gate_builtin (b := .append) (xs := #[.tmp 22, .tmp 24]) rfl ?_); at_builtin; refine Kd.N_append k57 (w0 := w) w.heap.size rfl (.tmp 22) (.tmp 24) 39 57 (.agg #[(.int .i64 0), (.slice none 0 0), (.int .i64 0), (.int .i64 0), (.int .i64 0)]) 56 rfl Tryz.underlying39 info57 rfl (by decide) (by omega) u4 r (⟨l, g, m, q, s⟩ : S57) [.int .i64 l, .slice u g.length x, .int .i64 m, .int .i64 q, .int .i64 s] (fun a => (w.heap.size ≤ a) ∧ a ≠ d) (fun a => ((fun a => (w.heap.size ≤ a) ∧ a ≠ d)) a ∧ some a ≠ u4.ownBlock) rfl rfl ?aP (fun _ hk => hk) ?aF ?aO ?aB ?aS ?aL ?_; (case aP => exact (k57_mkF _ _ (⟨l, g, m, q, s⟩ : S57) (Kd.V_reads' (vm_ (ok' := (fun a => ((fun a => (w.heap.size ≤ a) ∧ a ≠ d)) a ∧ some a ≠ u4.ownBlock)) (n.out) (fun a hk => ⟨⟨hk.1, hk.2.2⟩, hk.2.1⟩))).2.1 (Kd.V_F (vm_ (ok' := (fun a => ((fun a => (w.heap.size ≤ a) ∧ a ≠ d)) a ∧ some a ≠ u4.ownBlock)) (n.out) (fun a hk => ⟨⟨hk.1, hk.2.2⟩, hk.2.1⟩))))); (case aB => exact bel_); (case aF => exact (fun a hk => ⟨(Nat.le_trans (bz_ bel_) hk), Kd.freshB (bk_ z.out) a hk⟩)); (case aO => exact (vN_ HO_4.out)); (case aS => exact (bz_ bel_)); (case aL => have := LMc7.out; omega); intro an w14 ho hb hg hat; rw [← Q.out] at ho; replace HB := a_ (hb); have W := a_ (ho); clear HO_4; clear ho hb hg hat))
  go_roundg k1
  case measure => have := aa.out; omega
  exact ⟨(K), (wrap64 (c + 1)), eq_, H', ⟨by have := aa.out; omega⟩, ⟨by refine vN_ ?_; exact nm_ W.out (fun _ hk => hk.1)⟩, ⟨bel_⟩⟩

end Go.Proofs.YtckfbfdnlpnllaaGreatDoor.XAllDiffFixed
