-- by xprint.py, a program of this session, over the kit's print
import Derived.Test.YtijjhobjmehhoaaGreatDoorXGAlx0
import Derived.Test.YtijjhobjmehhoaaGreatDoorXGAlx5
import Derived.Test.YtijjhobjmehhoaaGreatDoorXGAlx6
import Derived.Test.YtijjhobjmehhoaaGreatDoorXGAlx13
import Derived.Test.YtijjhobjmehhoaaGreatDoorSq
namespace Go.Proofs.YtijjhobjmehhoaaGreatDoor.XGccAll
open Go.RowKit Go.Proofs.YtijjhobjmehhoaaGreatDoor.Sq Go.Proofs.YtijjhobjmehhoaaGreatDoorW.PrintWords Go.Proofs.YtijjhobjmehhoaaGreatDoorW.PrintLast Go.Proofs.YtijjhobjmehhoaaGreatDoorW.PrintMore
attribute [local go_sem] max2_int min2_int max_two min_two max_three min_three max_four min_four   -- for this text's walks alone
set_option linter.unusedVariables false
set_option linter.unusedSimpArgs false

/-! ### dom_Of: function 30 -/
def dom_Of.l0 : Nat → List Int → Int → Int → Int → List Int → Int → Int → Int → Option (Int × List Int × Int × Int × Int × Int)
 | 0, _, _, _, _, _, _, _, _ => none
 | k + 1, e, n, c, a, b, g, l, m => if c < n then (if 0 ≤ c then (if c < (e.length : Int) then (if 0 ≤ (wrap64 (Int.tdiv (wrap64 ((rd e c) - a)) 64)) then (if (wrap64 (Int.tdiv (wrap64 ((rd e c) - a)) 64)) < (b.length : Int) then (if 0 ≤ (Int.tmod (wrap64 ((rd e c) - a)) 64) then (dom_Of.l0 k e n (wrap64 (c + 1)) a (b.set ((wrap64 (Int.tdiv (wrap64 ((rd e c) - a)) 64)) : Int).toNat (Go.bits .or .u64 (rd b (wrap64 (Int.tdiv (wrap64 ((rd e c) - a)) 64))) (shl .u64 1 (Int.tmod (wrap64 ((rd e c) - a)) 64)))) g l m) else (none)) else (none)) else (none)) else (none)) else (none)) else ((dom_made.f k a b).bind fun d => (some (d.1, d.2.1, d.2.2.1, d.2.2.2.1, d.2.2.2.2, 0)))
def dom_Of.f (k : Nat) (b : List Int) : Option (Int × List Int × Int × Int × Int × Int) := if (b.length : Int) = 0 then (some (0, ([] : List Int), 0, 0, 0, 4)) else ((slices_ContainsFunc_int_int_61_at_dom_Of_1.f k b).bind fun c => (if c = true then (none) else ((slices_Max_int.f b).bind fun d => ((slices_Min_int.f b).bind fun e => (if (wrap64 (d - e)) ≥ 65536 then (none) else ((slices_Min_int.f b).bind fun g => ((slices_Max_int.f b).bind fun l => ((dom_room.f g l).bind fun a => (dom_Of.l0 k b (b.length : Int) 0 a.1 a.2.1 a.2.2.1 a.2.2.2.1 a.2.2.2.2)))))))))
theorem dom_Of.mono_l : ∀ k, (∀ a b c d e f g l, LeO (dom_Of.l0 k a b c d e f g l) (dom_Of.l0 (k + 1) a b c d e f g l))
 | 0 => by intros; exact LeO.none _
 | k + 1 => by
  have ih0 := dom_Of.mono_l k
  intro a b c d e f g l
  unfold dom_Of.l0
  have m0 := @dom_made.mono
  have m1 := @slices_ContainsFunc_int_int_61_at_dom_Of_1.mono
  exact leo_
theorem dom_Of.mono : ∀ a k, LeO (dom_Of.f k a) (dom_Of.f (k + 1) a) := by
 intro a k
 have ih0 := dom_Of.mono_l k
 unfold dom_Of.f
 have m0 := @dom_made.mono
 have m1 := @slices_ContainsFunc_int_int_61_at_dom_Of_1.mono
 exact leo_
def dom_Of.T11 : Bool × List (List Nat × List Nat) := (true, [([], []), ([0], [0]), ([], []), ([], []), ([3], [3]), ([2, 4], [2, 4]), ([5], [5]), ([1, 6], [1, 6]), ([7], [7]), ([], []), ([], []), ([10], [10]), ([9, 11], [9, 11]), ([12], [12]), ([13], [13]), ([8, 14], [8, 14]), ([1, 6, 0, 1, 2, 3, 4, 5, 6, 7, 8, 9, 10, 11, 12, 13, 14, 15], [1, 6]), ([16, 15, 0, 1, 2, 3, 4, 5, 6, 7, 8, 9, 10, 11, 12, 13, 14, 15], [15, 16])])
def dom_Of.B11 : List Nat := [0, 1, 0, 0, 8, 28, 60, 127, 255, 0, 0, 1024, 3584, 7680, 15872, 32767, 65535, 131071]
theorem dom_Of.tab11 : rtab .any (opsOf Tryz.f30 11) = dom_Of.T11 := by kernel_rfl
theorem dom_Of.bits11 : waitsOk dom_Of.T11.2 dom_Of.B11 = true := by kernel_rfl
set_option maxHeartbeats 8000000 in
set_option maxRecDepth 100000 in
theorem dom_Of.calls (k : Nat) (A0 : Option Addr) (c0 : Nat) (g : List Int) (r1 : Int) (r2 : List Int) (r3 : Int) (r4 : Int) (r5 : Int) (r6 : Int) (w : World) (aN : Kd.C (Kd.int .i64) w A0 g.length g) (aO : g.length ≤ c0) (hrtab : Kd.C (Kd.int .u8) w (some ⟨0, 0, none⟩) tabL.length tabL) (h : dom_Of.f k g = some (r1, r2, r3, r4, r5, r6)) :
  Calls Tryz.prog 30 #[.slice A0 g.length c0] w fun e w' => ∃ aP : Value, e = .returned (.tuple #[.agg #[.int .i64 r1, aP, .int .i64 r3, .int .i64 r4, .int .i64 r5], .int .i64 r6]) ∧ Kd.V (Kd.int .u64) 84 w' w.heap.size (fun u => (w.heap.size ≤ u)) aP r2 ∧ Below w.heap.size w w' := by
 have hu58 := Tryz.underlying58
 have Y := a_ aN
 have am := a_ aO
 clear aN aO
 have HRtab := a_ hrtab
 clear hrtab
 have HB := a_ (Below.refl w.heap.size w)
 unfold dom_Of.f at h
 have H := h
 clear h
 replace H := eg_ H
 rcases H with ⟨-, c2b0, c2b1, H⟩ | ⟨c2, c2b0, c2b1, H⟩
 ·
  simp only [Option.some.injEq, Prod.mk.injEq] at H
  obtain ⟨rfl, rfl, rfl, rfl, rfl, rfl⟩ := H
  go_enter Tryz.func30, Tryz.ntmps30
  go_wp2_with (first | ((with_reducible refine gate_dst (N := 2) rfl ?_); refine bxe_ (N := 2) (cs := #[.int .i64 0, .slice none 0 0, .int .i64 0, .int .i64 0, .int .i64 0]) (t := 58) ?_; intro m hg w3 hbox hb; have b := a_ (hbox); have Z := a_ (by rw [hg]; exact (bz_ bel_) : w.heap.size ≤ m); have au := Z; replace HB := hq_ hb; clear hb hbox hg; obtain ⟨_, _, _, _, _, _, _, _, _, _⟩ := cel5_ b.out))
  refine bodyPost_ret (results_ct rfl _ _ m 58 #[.int .i64 0, .slice none 0 0, .int .i64 0, .int .i64 0, .int .i64 0] (0, 0) _ rfl (by refine bk_ ?_; refine bu_ (cs := #[.int .i64 0, .slice none 0 0, .int .i64 0, .int .i64 0, .int .i64 0]) ?_ 4 _ rfl; refine bk_ ?_; refine bu_ (cs := #[.int .i64 0, .slice none 0 0, .int .i64 0, .int .i64 0, .int .i64 0]) ?_ 3 _ rfl; refine bk_ ?_; refine bu_ (cs := #[.int .i64 0, .slice none 0 0, .int .i64 0, .int .i64 0, .int .i64 0]) ?_ 2 _ rfl; refine bk_ ?_; refine bu_ (cs := #[.int .i64 0, .slice none 0 0, .int .i64 0, .int .i64 0, .int .i64 0]) ?_ 1 _ rfl; refine bk_ ?_; refine bu_ (cs := #[.int .i64 0, .slice none 0 0, .int .i64 0, .int .i64 0, .int .i64 0]) ?_ 0 _ rfl; refine bk_ ?_; exact b.out) Tryz.underlying58 rfl kr_) rfl ?_
  exact ⟨_, er_, Kd.V_nil _ _ _ _ _, bel_⟩
 have c2b2 : ¬ (g = []) := fun h_ => c2 (by rw [h_]; rfl)
 replace H := bo_ H
 obtain ⟨aR, A5, H⟩ := H
 try dsimp only at H
 replace H := gf_ H
 obtain ⟨rfl, H⟩ := H
 replace H := bo_ H
 obtain ⟨P, A7, H⟩ := H
 try dsimp only at H
 replace H := bo_ H
 obtain ⟨Q, A8, H⟩ := H
 try dsimp only at H
 replace H := gn_ H
 obtain ⟨c9, H⟩ := H
 have c9b0 : decide (65536 ≤ (wrap64 (P - Q))) = false := df_ c9
 clear c9
 replace H := bo_ H
 obtain ⟨U, aX, H⟩ := H
 try dsimp only at H
 replace H := bo_ H
 obtain ⟨W, aY, H⟩ := H
 try dsimp only at H
 replace H := bs_.mp H
 obtain ⟨⟨o, B, s, v, x⟩, ax, H⟩ := H
 try dsimp only at H
 have aZ := a_ ax
 clear ax
 have H' := a_ H
 clear H
 go_enter Tryz.func30, Tryz.ntmps30
 go_wp2_with (first | ((with_reducible refine gate_dst (N := 2) rfl ?_); refine bxe_ (N := 2) (cs := #[.int .i64 0, .slice none 0 0, .int .i64 0, .int .i64 0, .int .i64 0]) (t := 58) ?_; intro m hg w13 hbox hb; have b := a_ (hbox); have Z := a_ (by rw [hg]; exact (bz_ bel_) : w.heap.size ≤ m); have au := Z; replace HB := hq_ hb; clear hb hbox hg) | ((with_reducible refine gate_callee (f := 61) rfl ?_); refine goesL_ (some 14) rfl rfl Tryz.func61 kr_ rfl #[.slice A0 g.length c0, .func (.func 62) #[] #[]] rfl ar_ ?_; (with_reducible refine (slices_ContainsFunc_int_int_61_at_dom_Of_1.calls k _ _ g false _ ?_ ?_ A5.out).mono ?_); exact ca_ ((cb_ Y.out HB.out)); exact am.out; rintro e w' ⟨rfl, ⟨nd, rfl⟩⟩; refine ⟨_, rfl, ?_⟩; (try (rw [drewN_self w13]; generalize hq_ : World.drewN w13 _ = w13; replace b : Aside0 (w13.heap[m]? = some (.cells #[.int .i64 0, .slice none 0 0, .int .i64 0, .int .i64 0, .int .i64 0] 58 (0, 0))) := ⟨by rw [← hq_]; exact (bk_ b.out)⟩; replace HB : Aside0 (Below w.heap.size w w13) := ⟨by rw [← hq_]; exact bel_⟩; clear hq_)); (try (obtain ⟨_, _, _, _, _, _, _, _, _, _⟩ := cel5_ b.out))) | ((with_reducible refine gate_callee (f := 63) rfl ?_); refine goesL_ (some 18) rfl rfl Tryz.func63 kr_ rfl #[.slice A0 g.length c0] rfl ar_ ?_; (with_reducible refine (slices_Max_int.calls _ _ g P _ ?_ ?_ A7.out).mono ?_); exact ca_ ((cb_ Y.out HB.out)); exact am.out; rintro e w' ⟨rfl, ⟨nd, rfl⟩⟩; refine ⟨_, rfl, ?_⟩; (try (rw [drewN_self w13]; generalize hq_ : World.drewN w13 _ = w13; replace b : Aside0 (w13.heap[m]? = some (.cells #[.int .i64 0, .slice none 0 0, .int .i64 0, .int .i64 0, .int .i64 0] 58 (0, 0))) := ⟨by rw [← hq_]; exact (bk_ b.out)⟩; replace HB : Aside0 (Below w.heap.size w w13) := ⟨by rw [← hq_]; exact bel_⟩; clear hq_)); (try (obtain ⟨_, _, _, _, _, _, _, _, _, _⟩ := cel5_ b.out))) | ((with_reducible refine gate_callee (f := 64) rfl ?_); refine goesL_ (some 20) rfl rfl Tryz.func64 kr_ rfl #[.slice A0 g.length c0] rfl ar_ ?_; (with_reducible refine (slices_Min_int.calls _ _ g Q _ ?_ ?_ A8.out).mono ?_); exact ca_ ((cb_ Y.out HB.out)); exact am.out; rintro e w' ⟨rfl, ⟨nd, rfl⟩⟩; refine ⟨_, rfl, ?_⟩; (try (rw [drewN_self w13]; generalize hq_ : World.drewN w13 _ = w13; replace b : Aside0 (w13.heap[m]? = some (.cells #[.int .i64 0, .slice none 0 0, .int .i64 0, .int .i64 0, .int .i64 0] 58 (0, 0))) := ⟨by rw [← hq_]; exact (bk_ b.out)⟩; replace HB : Aside0 (Below w.heap.size w w13) := ⟨by rw [← hq_]; exact bel_⟩; clear hq_)); (try (obtain ⟨_, _, _, _, _, _, _, _, _, _⟩ := cel5_ b.out))) | ((with_reducible refine gate_callee (f := 64) rfl ?_); refine goesL_ (some 25) rfl rfl Tryz.func64 kr_ rfl #[.slice A0 g.length c0] rfl ar_ ?_; (with_reducible refine (slices_Min_int.calls _ _ g U _ ?_ ?_ aX.out).mono ?_); exact ca_ ((cb_ Y.out HB.out)); exact am.out; rintro e w' ⟨rfl, ⟨nd, rfl⟩⟩; refine ⟨_, rfl, ?_⟩; (try (rw [drewN_self w13]; generalize hq_ : World.drewN w13 _ = w13; replace b : Aside0 (w13.heap[m]? = some (.cells #[.int .i64 0, .slice none 0 0, .int .i64 0, .int .i64 0, .int .i64 0] 58 (0, 0))) := ⟨by rw [← hq_]; exact (bk_ b.out)⟩; replace HB : Aside0 (Below w.heap.size w w13) := ⟨by rw [← hq_]; exact bel_⟩; clear hq_)); (try (obtain ⟨_, _, _, _, _, _, _, _, _, _⟩ := cel5_ b.out))) | ((with_reducible refine gate_callee (f := 63) rfl ?_); refine goesL_ (some 27) rfl rfl Tryz.func63 kr_ rfl #[.slice A0 g.length c0] rfl ar_ ?_; (with_reducible refine (slices_Max_int.calls _ _ g W _ ?_ ?_ aY.out).mono ?_); exact ca_ ((cb_ Y.out HB.out)); exact am.out; rintro e w' ⟨rfl, ⟨nd, rfl⟩⟩; refine ⟨_, rfl, ?_⟩; (try (rw [drewN_self w13]; generalize hq_ : World.drewN w13 _ = w13; replace b : Aside0 (w13.heap[m]? = some (.cells #[.int .i64 0, .slice none 0 0, .int .i64 0, .int .i64 0, .int .i64 0] 58 (0, 0))) := ⟨by rw [← hq_]; exact (bk_ b.out)⟩; replace HB : Aside0 (Below w.heap.size w w13) := ⟨by rw [← hq_]; exact bel_⟩; clear hq_)); (try (obtain ⟨_, _, _, _, _, _, _, _, _, _⟩ := cel5_ b.out))) | ((with_reducible refine gate_callee (f := 65) rfl ?_); refine goesL_ (some 28) rfl rfl Tryz.func65 kr_ rfl #[.int .i64 U, .int .i64 W] rfl ar_ ?_; (with_reducible refine (dom_room.calls U W o B s v x _ aZ.out).mono ?_); rintro e w19 ⟨bb, rfl, an, hb⟩; refine ⟨_, rfl, ?_⟩; have J := a_ (Kd.R_lower (Kd.R_newM (M := fun u => (w.heap.size ≤ u)) an (bz_ bel_) (fun u h_ => h_)) (bz_ bel_)); replace b := a_ (bq_ b.out hb); replace HB := hq_ hb; clear hb an) | ((with_reducible refine gate_dst (N := 4) rfl ?_); refine bxe_ (N := 4) (cs := #[.int .i64 0, .slice none 0 0, .int .i64 0, .int .i64 0, .int .i64 0]) (t := 58) ?_; intro q hg w20 hbox hb; replace J := a_ (rb_ (vR_ J.out) hb); have l := a_ (hbox); have aK := a_ (by rw [hg]; exact (bz_ bel_) : w.heap.size ≤ q); have aL := aK; replace HB := hq_ hb; have p := a_ ((by rw [hg]; exact Nat.ne_of_lt (blk_lt (bk_ b.out)) : m ≠ q)); have I := a_ ((by rw [hg]; exact Nat.ne_of_gt (blk_lt (bk_ b.out)) : q ≠ m)); replace b := a_ (bq_ b.out hb); clear hb hbox hg; have a2 := I.out; have a3 := p.out; obtain ⟨_, _, _, _, _, _, _, _, _, _⟩ := cel5_ l.out; obtain ⟨aa, ab, aS⟩ := Kd.R_slice J.out; subst aS))
 go_loopg [31] k (fun kq a0 w' => ∃ (c : Int) (a : List Int) (u335001 : Value), a0 = .int .i64 c ∧ Aside0 (dom_Of.l0 kq g (g.length : Int) c o a s v x = some (r1, r2, r3, r4, r5, r6)) ∧ Aside0 (kq ≤ k) ∧ Aside0 (Kd.R (Kd.int .u64) 84 w' w.heap.size (fun u => (w.heap.size ≤ u)) u335001 a) ∧ Aside0 (w'.heap[m]? = some (.cells #[.int .i64 0, (.slice none 0 0), .int .i64 0, .int .i64 0, .int .i64 0] 58 (0, 0))) ∧ Aside0 (w'.heap[q]? = some (.cells #[.int .i64 o, u335001, .int .i64 s, .int .i64 v, .int .i64 x] 58 (0, 0))) ∧ Aside0 (Below w.heap.size w w'))
 case atStart => exact ⟨(0), (B), (.slice aa B.length ab), eq_, H', ⟨lr_ _⟩, ⟨by refine vR_ ?_; exact rm_ (fR_ (fR_ (fR_ (fR_ (fR_ (rt_ J.out l.out (by decide))))))) (fun _ hk => hk.1.1)⟩, ⟨by refine bk_ ?_; refine blk_far ?_ p.out _; refine bk_ ?_; refine blk_far ?_ p.out _; refine bk_ ?_; refine blk_far ?_ p.out _; refine bk_ ?_; refine blk_far ?_ p.out _; refine bk_ ?_; refine blk_far ?_ p.out _; refine bk_ ?_; exact b.out⟩, ⟨by refine bk_ ?_; refine bu_ (cs := #[.int .i64 o, .slice aa B.length ab, .int .i64 s, .int .i64 v, .int .i64 0]) ?_ 4 _ rfl; refine bk_ ?_; refine bu_ (cs := #[.int .i64 o, .slice aa B.length ab, .int .i64 s, .int .i64 0, .int .i64 0]) ?_ 3 _ rfl; refine bk_ ?_; refine bu_ (cs := #[.int .i64 o, .slice aa B.length ab, .int .i64 0, .int .i64 0, .int .i64 0]) ?_ 2 _ rfl; refine bk_ ?_; refine bu_ (cs := #[.int .i64 o, .slice none 0 0, .int .i64 0, .int .i64 0, .int .i64 0]) ?_ 1 _ rfl; refine bk_ ?_; refine bu_ (cs := #[.int .i64 0, .slice none 0 0, .int .i64 0, .int .i64 0, .int .i64 0]) ?_ 0 _ rfl; refine bk_ ?_; exact l.out⟩, ⟨bel_⟩⟩
 clear H'
 try clear c2
 try clear c2b0
 try clear c2b1
 try clear c2b2
 try clear p2
 try clear c3
 try clear c6
 try clear p6
 try clear c9
 try clear c9b0
 try clear c21
 obtain ⟨c, a, u335001, rfl, HA, aQ, HO_335001, b, l, HB⟩ := hrel
 cases gk with
 | zero => exact absurd HA.out (by simp [dom_Of.l0])
 | succ k1 =>
  have H := HA.out
  clear HA
  simp only [dom_Of.l0] at H
  replace H := cf_ H
  rcases H with ⟨c24b0, H⟩ | ⟨c24b0, H⟩
  ·
   replace H := bs_.mp H
   obtain ⟨⟨G, X, ad, ar, aG⟩, aH, H⟩ := H
   try dsimp only at H
   have a1 := a_ aH
   clear aH
   simp only [Option.some.injEq, Prod.mk.injEq] at H
   obtain ⟨rfl, rfl, rfl, rfl, rfl, rfl⟩ := H
   have a6 := I.out
   have a7 := p.out
   obtain ⟨_, _, _, _, _, _, _, _, _, _⟩ := cel5_ l.out
   obtain ⟨aI, aJ, aV⟩ := Kd.R_slice HO_335001.out
   subst aV
   go_wp2_with (first | ((with_reducible refine gate_callee (f := 66) rfl ?_); refine goesL_ (some 57) rfl rfl Tryz.func66 kr_ rfl #[.int .i64 o, .slice aI a.length aJ] rfl ar_ ?_; (with_reducible refine (dom_made.calls k1 o (fun u => some u = (.slice aI a.length aJ : Value).ownBlock) _ _ a G X ad ar aG _ ?_ ?_ a1.out).mono ?_); exact Kd.R_V (Kd.R_tight rfl (rt_ (rt_ (HO_335001.out) b.out (by decide)) l.out (by decide))); exact ca_ ((cb_ HRtab.out HB.out)); rintro e w41 ⟨be, rfl, an, hb⟩; refine ⟨_, rfl, ?_⟩; have aw := a_ (Kd.V_lower (vm_ (ok' := fun u => (w.heap.size ≤ u) ∧ u ≠ m ∧ u ≠ q) an (fun u hk_ => ⟨Or.elim hk_ (fun hs_ => ((rt_ (rt_ (HO_335001.out) b.out (by decide)) l.out (by decide)).1 u hs_.symm).1.1) (fun hn_ => (Nat.le_trans (bz_ bel_) hn_)), Or.elim hk_ (fun hs_ => ((rt_ (rt_ (HO_335001.out) b.out (by decide)) l.out (by decide)).1 u hs_.symm).1.2) (fun hn_ => (Kd.freshB (bk_ b.out) u hn_)), Or.elim hk_ (fun hs_ => ((rt_ (rt_ (HO_335001.out) b.out (by decide)) l.out (by decide)).1 u hs_.symm).2) (fun hn_ => (Kd.freshB (bk_ l.out) u hn_))⟩)) (bz_ bel_)); replace b := a_ (bq_ b.out hb); replace HB := hq_ hb; clear hb an; obtain ⟨_, _, _, _, _, _, _, _, _, _⟩ := cel5_ b.out; obtain ⟨ae, af, aW⟩ := Kd.V_slice aw.out; subst aW))
   refine bodyPost_ret (results_ct rfl _ _ m 58 #[.int .i64 G, .slice ae X.length af, .int .i64 ad, .int .i64 ar, .int .i64 aG] (0, 0) _ rfl (by refine bk_ ?_; refine bu_ (cs := #[.int .i64 G, .slice ae X.length af, .int .i64 ad, .int .i64 ar, .int .i64 0]) ?_ 4 _ rfl; refine bk_ ?_; refine bu_ (cs := #[.int .i64 G, .slice ae X.length af, .int .i64 ad, .int .i64 0, .int .i64 0]) ?_ 3 _ rfl; refine bk_ ?_; refine bu_ (cs := #[.int .i64 G, .slice ae X.length af, .int .i64 0, .int .i64 0, .int .i64 0]) ?_ 2 _ rfl; refine bk_ ?_; refine bu_ (cs := #[.int .i64 G, .slice none 0 0, .int .i64 0, .int .i64 0, .int .i64 0]) ?_ 1 _ rfl; refine bk_ ?_; refine bu_ (cs := #[.int .i64 0, .slice none 0 0, .int .i64 0, .int .i64 0, .int .i64 0]) ?_ 0 _ rfl; refine bk_ ?_; exact b.out) Tryz.underlying58 rfl kr_) rfl ?_
   exact ⟨_, er_, by refine vV_ ?_; exact vm_ (fV_ (fV_ (fV_ (fV_ (fV_ (vm_ aw.out (fun u hk => (⟨hk, hk.2.1⟩ : _ ∧ u ≠ m)))))))) (fun _ hk => hk.1.1), bel_⟩
  replace H := gu_ H
  obtain ⟨c25b0, H⟩ := H
  replace H := gu_ H
  obtain ⟨c26b0, H⟩ := H
  obtain ⟨d, ac⟩ : ∃ j_ : Int, (wrap64 (Int.tdiv (wrap64 ((rd g c) - o)) 64)) = j_ := ⟨_, rfl⟩
  replace H : (if 0 ≤ (d) then (if (d) < (a.length : Int) then (if 0 ≤ (Int.tmod (wrap64 ((rd g c) - o)) 64) then (dom_Of.l0 k1 g (g.length : Int) (wrap64 (c + 1)) o (a.set ((d) : Int).toNat (Go.bits .or .u64 (rd a (d)) (shl .u64 1 (Int.tmod (wrap64 ((rd g c) - o)) 64)))) s v x) else (none)) else (none)) else (none)) = some (r1, r2, r3, r4, r5, r6) := by first | (rw [ac] at H; exact H) | (simp only [ac] at H ⊢; exact H)
  have hji27w : (IntKind.i64.wrap (Int.tdiv (wrap64 ((rd g c) - o)) 64)) = d := (i64_w _).trans ac
  replace H := gu_ H
  obtain ⟨c28b0, H⟩ := H
  replace H := gu_ H
  obtain ⟨c29b0, H⟩ := H
  obtain ⟨r, av⟩ : ∃ j_ : Int, (Int.tmod (wrap64 ((rd g c) - o)) 64) = j_ := ⟨_, rfl⟩
  replace H : (if 0 ≤ (r) then (dom_Of.l0 k1 g (g.length : Int) (wrap64 (c + 1)) o (a.set ((d) : Int).toNat (Go.bits .or .u64 (rd a (d)) (shl .u64 1 (r)))) s v x) else (none)) = some (r1, r2, r3, r4, r5, r6) := by first | (rw [av] at H; exact H) | (simp only [av] at H ⊢; exact H)
  replace H := ge_ H
  obtain ⟨c31b0, c31b1, H⟩ := H
  obtain ⟨y, O⟩ : ∃ j_ : Int, (shl .u64 1 (r)) = j_ := ⟨_, rfl⟩
  replace H : (dom_Of.l0 k1 g (g.length : Int) (wrap64 (c + 1)) o (a.set ((d) : Int).toNat (Go.bits .or .u64 (rd a (d)) (y))) s v x) = some (r1, r2, r3, r4, r5, r6) := by first | (rw [O] at H; exact H) | (simp only [O] at H ⊢; exact H)
  have ay : (IntKind.u64.wrap (1 * 2 ^ min (r).toNat 64)) = y := O
  have hji32z : (r) ≤ 64 → (IntKind.u64.wrap (1 * 2 ^ (r).toNat)) = y := shl_small O
  have hji32u : (IntKind.u64.wrap (2 ^ min (r).toNat 64)) = y := by have h_ := ay; rw [Int.one_mul] at h_; exact h_
  have hji32v : (r) ≤ 64 → (IntKind.u64.wrap (2 ^ (r).toNat)) = y := fun hle_ => by have h_ := hji32z hle_; rw [Int.one_mul] at h_; exact h_
  obtain ⟨az, A⟩ : ∃ y_ : List Int, y_ = (a.set ((d) : Int).toNat (Go.bits .or .u64 (rd a (d)) (y))) := ⟨_, rfl⟩
  replace H : (dom_Of.l0 k1 g (g.length : Int) (wrap64 (c + 1)) o az s v x) = some (r1, r2, r3, r4, r5, r6) := h2_ H A
  have aM := a_ A
  clear A
  have H' := a_ H
  clear H
  obtain ⟨a4, aT, E, p335, ap⟩ := aj_ Y HB c
  cases aT
  try go_wp2
  replace HO_335001 := a_ (Kd.R_drew HO_335001.out)
  replace b := a_ (blk_drew b.out)
  replace l := a_ (blk_drew l.out)
  replace HB := a_ (below_drew1 HB.out)
  obtain ⟨bc, aA, aB⟩ := Kd.R_slice HO_335001.out
  (first | subst aB | (injection aB with f1_ f2_ f3_; have f4_ := f1_.symm; have f5_ := f3_.symm; clear f1_ f2_ f3_; subst f4_; subst f5_))
  have p336 : 0 ≤ ((d) : Int) := dq_
  have aq : (d) < (a.length : Int) := dq_
  obtain ⟨a5, aU, F⟩ := ai_ (rr_ HO_335001.out).2.2 (d) p336 aq
  cases aU
  replace p336 := et_ p336
  replace aq := et_ aq
  have p33 : 0 ≤ ((d) : Int) := dq_
  have aC : ((d) : Int) < ((a.length : Int) : Int) := dq_
  obtain ⟨go33, bd, aD, aE, gl33, cl33, HG33⟩ := Kd.R_form HO_335001.out (by omega)
  (first | cases aD | (injection aD with ea_ en_ ec_; (first | subst ea_ | (injection ea_ with ea_; subst ea_)); subst ec_; clear en_))
  have GB33 := a_ aE
  have GG33 := a_ HG33
  clear aE gl33 HG33
  (first | simp only [add_plain] at F | skip)
  obtain ⟨aF, hf33_0⟩ := Kd.R_celln 0 HO_335001.out ((d) : Int) p33 aC
  replace p33 := et_ p33
  replace aC := et_ aC
  have HP36 := Kd.R_putn HO_335001.out ((d) : Int) (Go.bits .or .u64 (rd a (d)) (y))
  rw [← aM.out] at HP36
  have HQ36 := a_ HP36
  clear HP36
  refine start_ (n := 18) (S := fun w' => w'.cell? ⟨q, 0, none⟩ = some (.int .i64 o) ∧ w'.cell? ⟨q, 1, none⟩ = some (.slice (some ⟨go33, 0, none⟩) a.length aA) ∧ w'.cell? ⟨q, 2, none⟩ = some (.int .i64 s) ∧ w'.cell? ⟨q, 3, none⟩ = some (.int .i64 v) ∧ w'.cell? ⟨q, 4, none⟩ = some (.int .i64 x) ∧ w'.cell? ⟨go33, ((d)).toNat, none⟩ = some (.int .u64 (rd a (d)))) (ds := [17]) #[false, false, false, false, false, false, false, false, false, false, false, false, false, false, false, false, false, false] kr_ rfl rfl (cb5_ l.out (F)) (fun hHeld => ?_); refine with_tabW dom_Of.tab11 dom_Of.bits11 (fun HT_ HW_ => ?_)
  generalize wr.drew = w34 at HO_335001 b l HB GG33 HQ36 hf33_0 F aF hHeld ⊢
  refine pn_ 0 35 ao_ ?_
  refine pn_ 2 37 ao_ ?_
  refine pn_ 3 38 ao_ ?_
  refine pn_ 9 44 ao_ ?_
  refine pn_ 10 45 ao_ ?_
  refine tn_ 1 36 tw_ hHeld ?_
  refine tn_ 4 39 tw_ hHeld ?_
  refine pn_ 5 40 ao_ ?_
  refine pn_ 6 41 ao_ ?_
  refine pn_ 7 42 ao_ ?_
  refine tn_ 8 43 tw_ hHeld ?_
  refine tn_ 11 46 tw_ hHeld ?_
  refine pn_ 12 47 ao_ ?_
  refine pn_ 13 48 ao_ ?_
  refine pn_ 14 49 ao_ ?_
  refine pn_ 15 50 ao_ ?_
  refine pn_ 16 51 ao_ ?_
  refine last_ (i := 17) (N := none) #[true, true, true, true, true, true, true, true, true, true, true, true, true, true, true, true, true, true] rfl rfl on_ (by decide) (fun K hK => ?_)
  refine skip_ (w1 := ?_) (by rfl) rfl ?_ ?_
  rotate_left
  ·
   go_simp
   rfl
  refine hK.out _ _ ?_
  clear hK K
  refine done_ dn_ ?_
  try go_wp2
  go_roundg k1
  case measure => have := aQ.out; omega
  exact ⟨(wrap64 (c + 1)), (az), (.slice (some ⟨go33, 0, none⟩) a.length aA), eq_, H', ⟨by have := aQ.out; omega⟩, ⟨vR_ HQ36.out⟩, ⟨by refine bk_ ?_; refine blk_far ?_ (by have h_ := Kd.R_ne HO_335001.out b.out (by decide); intro e_; exact h_ (by rw [e_]; rfl)) _; refine bk_ ?_; exact b.out⟩, ⟨by refine bk_ ?_; refine blk_far ?_ (by have h_ := Kd.R_ne HO_335001.out l.out (by decide); intro e_; exact h_ (by rw [e_]; rfl)) _; refine bk_ ?_; exact l.out⟩, ⟨by repeat (first | (with_reducible first | exact HB.out | apply below_alloc | apply pw_below_drewN | apply below_drew1 | refine below_set ?_ GB33.out | refine below_set ?_ au.out | refine below_set ?_ aL.out) | exact HB.out)⟩⟩

end Go.Proofs.YtijjhobjmehhoaaGreatDoor.XGccAll
