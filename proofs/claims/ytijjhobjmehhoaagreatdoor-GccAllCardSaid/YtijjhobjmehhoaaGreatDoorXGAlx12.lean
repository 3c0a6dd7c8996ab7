-- by xprint.py, a program of this session, over the kit's print
import Derived.Test.YtijjhobjmehhoaaGreatDoorXGAlx0
import Derived.Test.YtijjhobjmehhoaaGreatDoorXGAlx4
import Derived.Test.YtijjhobjmehhoaaGreatDoorXGAlx5
import Derived.Test.YtijjhobjmehhoaaGreatDoorXGAlx11
import Derived.Test.YtijjhobjmehhoaaGreatDoorSq
namespace Go.Proofs.YtijjhobjmehhoaaGreatDoor.XGccAll
open Go.RowKit Go.Proofs.YtijjhobjmehhoaaGreatDoor.Sq Go.Proofs.YtijjhobjmehhoaaGreatDoorW.PrintWords Go.Proofs.YtijjhobjmehhoaaGreatDoorW.PrintLast Go.Proofs.YtijjhobjmehhoaaGreatDoorW.PrintMore
attribute [local go_sem] max2_int min2_int max_two min_two max_three min_three max_four min_four   -- for this text's walks alone
set_option linter.unusedVariables false
set_option linter.unusedSimpArgs false

/-! ### gcc_Filter: function 10 -/
mutual
def gcc_Filter.l0 : Nat → List (S58) → Int → List Int → List Int → List Int → List Int → List Int → Int → List (List Int) → Option ((List (S58)) × Bool)
 | 0, _, _, _, _, _, _, _, _, _ => none
 | k + 1, m, b, c, d, a, e, f, g, l => gcc_Filter.l1 k m false a (a.length : Int) 0 b c d a e f g l
def gcc_Filter.l1 : Nat → List (S58) → Bool → List Int → Int → Int → Int → List Int → List Int → List Int → List Int → List Int → Int → List (List Int) → Option ((List (S58)) × Bool)
 | 0, _, _, _, _, _, _, _, _, _, _, _, _, _ => none
 | k + 1, r, s, p, q, c, d, e, g, l, a, b, m, n => if c < q then (if 0 ≤ c then (if c < (p.length : Int) then (if c < (a.length : Int) then (if c < (b.length : Int) then ((gcc_one.f k r (rd p c) (rd a c) (rd b c)).bind fun o => (if o.2.2 = true then (if s = true then (gcc_Filter.l1 k o.1 true p q (wrap64 (c + 1)) d e g l a b m n) else (gcc_Filter.l1 k o.1 o.2.1 p q (wrap64 (c + 1)) d e g l a b m n)) else (some (([] : List (S58)), false)))) else (none)) else (none)) else (none)) else (none)) else (if s = true then (gcc_Filter.l0 k r d e g l a b m n) else (some (r, true)))
end
def gcc_Filter.f (k : Nat) (a : Int) (b : List Int) (c : List Int) (d : List Int) (e : List Int) (g : List Int) (l : Int) (m : List (List Int)) (p : List (S58)) : Option ((List (S58)) × Bool) := (prop_Fits.f k a b c d e g l m p 21 21).bind fun n => (if n = true then ((slices_CloneDom.f p).bind fun o => (gcc_Filter.l0 k o a b c d e g l m)) else (some (([] : List (S58)), false)))
theorem gcc_Filter.mono_l : ∀ k, (∀ a b c d e f g l m, LeO (gcc_Filter.l0 k a b c d e f g l m) (gcc_Filter.l0 (k + 1) a b c d e f g l m)) ∧ (∀ a b c d e f g l m q n o p, LeO (gcc_Filter.l1 k a b c d e f g l m q n o p) (gcc_Filter.l1 (k + 1) a b c d e f g l m q n o p))
 | 0 => by refine ⟨?_, ?_⟩ <;> (intros; exact LeO.none _)
 | k + 1 => by
  obtain ⟨ih0, ih1⟩ := gcc_Filter.mono_l k
  have m0 := @gcc_one.mono
  have m1 := @prop_Fits.mono
  refine ⟨?_, ?_⟩ <;> intros
  all_goals first | unfold gcc_Filter.l0 | unfold gcc_Filter.l1
  all_goals exact leo_
theorem gcc_Filter.mono : ∀ a b c d e g l m n k, LeO (gcc_Filter.f k a b c d e g l m n) (gcc_Filter.f (k + 1) a b c d e g l m n) := by
 intro a b c d e g l m n k
 obtain ⟨ih0, ih1⟩ := gcc_Filter.mono_l k
 unfold gcc_Filter.f
 have m0 := @gcc_one.mono
 have m1 := @prop_Fits.mono
 exact leo_
def gcc_Filter.T8 : Bool × List (List Nat × List Nat) := (true, [([], []), ([], []), ([], []), ([2], [2]), ([], []), ([3, 4], [3, 4]), ([5], [5]), ([], []), ([7], [7]), ([], []), ([8, 9], [8, 9]), ([10], [10]), ([0, 1, 6, 11], [0, 1, 6, 11]), ([12], [12]), ([13], [13]), ([13], [13]), ([14, 12, 0, 1, 2, 3, 4, 5, 6, 7, 8, 9, 10, 11, 12, 13, 14], [14]), ([15, 16, 0, 1, 2, 3, 4, 5, 6, 7, 8, 9, 10, 11, 12, 13, 14, 15, 16], [15])])
def gcc_Filter.B8 : List Nat := [0, 0, 0, 4, 0, 28, 60, 0, 128, 0, 896, 1920, 4095, 8191, 16383, 16383, 32767, 131071]
theorem gcc_Filter.tab8 : rtab .any (opsOf Tryz.f10 8) = gcc_Filter.T8 := by kernel_rfl
theorem gcc_Filter.bits8 : waitsOk gcc_Filter.T8.2 gcc_Filter.B8 = true := by kernel_rfl
set_option maxHeartbeats 8000000 in
set_option maxRecDepth 100000 in
theorem gcc_Filter.calls (k : Nat) (z : Int) (G : Option Addr) (c0_1 : Nat) (v : List Int) (I : Option Addr) (c0_2 : Nat) (x : List Int) (Y : Option Addr) (c0_3 : Nat) (d : List Int) (Z : Option Addr) (c0_4 : Nat) (l : List Int) (aa : Option Addr) (c0_5 : Nat) (m : List Int) (A : Int) (J : Option Addr) (c0_7 : Nat) (y : List (List Int)) (P1_ : Nat → Prop) (A1 : Option Addr) (c1 : Nat) (l1 : List (S58)) (r1 : List (S58)) (r2 : Bool) (w : World) (av : Kd.C (Kd.int .i64) w G v.length v) (aw : v.length ≤ c0_1) (ax : Kd.C (Kd.int .i64) w I x.length x) (ay : x.length ≤ c0_2) (az : Kd.C (Kd.int .i64) w Y d.length d) (aA : d.length ≤ c0_3) (aB : Kd.C (Kd.int .i64) w Z l.length l) (aC : l.length ≤ c0_4) (aD : Kd.C (Kd.int .i64) w aa m.length m) (aE : m.length ≤ c0_5) (aF : Kd.C (Kd.slice 3 (Kd.int .i64)) w J y.length y) (aG : y.length ≤ c0_7) (a8 : Kd.V k58 58 w w.heap.size (fun p => P1_ p) (.slice A1 l1.length c1) l1) (hrtab : Kd.C (Kd.int .u8) w (some ⟨0, 0, none⟩) tabL.length tabL) (h : gcc_Filter.f k z v x d l m A y l1 = some (r1, r2)) :
  Calls Tryz.prog 10 #[.agg #[.int .i64 z, .slice G v.length c0_1, .slice I x.length c0_2, .slice Y d.length c0_3, .slice Z l.length c0_4, .slice aa m.length c0_5, .int .i64 A, .slice J y.length c0_7], .slice A1 l1.length c1] w fun e w' => ∃ aZ : Value, e = .returned (.tuple #[aZ, .bool r2]) ∧ Kd.N k58 58 w' w.heap.size (fun p => (P1_ p ∨ w.heap.size ≤ p)) aZ r1 ∧ Below w.heap.size w w' := by
 have hu32 := Tryz.underlying32
 have aH := a_ av
 have aI := a_ aw
 clear av aw
 have aJ := a_ ax
 have aK := a_ ay
 clear ax ay
 have ab := a_ az
 have aL := a_ aA
 clear az aA
 have ac := a_ aB
 have aM := a_ aC
 clear aB aC
 have ad := a_ aD
 have aN := a_ aE
 clear aD aE
 have aO := a_ aF
 have aP := a_ aG
 clear aF aG
 have X := a_ (show Kd.V k58 58 w w.heap.size (fun p => (P1_ p ∨ w.heap.size ≤ p)) (.slice A1 l1.length c1) l1 from vm_ a8 (fun p hk => .inl hk))
 have HRtab := a_ hrtab
 clear hrtab
 have HB := a_ (Below.refl w.heap.size w)
 unfold gcc_Filter.f at h
 have H := h
 clear h
 replace H := bo_ H
 obtain ⟨a0, A3, H⟩ := H
 try dsimp only at H
 replace H := hf_ H
 rcases H with ⟨rfl, H⟩ | ⟨rfl, H⟩
 ·
  simp only [Option.some.injEq, Prod.mk.injEq] at H
  obtain ⟨rfl, rfl⟩ := H
  go_enter Tryz.func10, Tryz.ntmps10
  go_wp2_with (first | ((with_reducible refine gate_dst (N := 2) rfl ?_); refine bxe_ (N := 2) (cs := #[.int .i64 z, .slice G v.length c0_1, .slice I x.length c0_2, .slice Y d.length c0_3, .slice Z l.length c0_4, .slice aa m.length c0_5, .int .i64 A, .slice J y.length c0_7]) (t := 32) ?_; intro b hg w29 hbox hb; replace X := a_ (vb_ (Kd.V_elderB (vV_ X.out) b (Nat.le_of_eq hg.symm)) hb); have c := a_ (hbox); have ao := a_ (by rw [hg]; exact (bz_ bel_) : w.heap.size ≤ b); have aX := ao; replace HB := hq_ hb; clear hb hbox hg; obtain ⟨_, _, _, _, _, _, _, _, _, _, _, _, _, _, _, _⟩ := cel8_ c.out) | ((with_reducible refine gate_callee (f := 27) rfl ?_); refine goesL_ (some 14) rfl rfl Tryz.func27 kr_ rfl #[.agg #[.int .i64 z, .slice G v.length c0_1, .slice I x.length c0_2, .slice Y d.length c0_3, .slice Z l.length c0_4, .slice aa m.length c0_5, .int .i64 A, .slice J y.length c0_7], .slice A1 l1.length c1, .int .i64 21, .int .i64 21] rfl ar_ ?_; (with_reducible refine (prop_Fits.calls k z _ _ v _ _ x _ _ d _ _ l _ _ m A _ _ y _ _ l1 21 21 false _ ?_ ?_ ?_ ?_ ?_ ?_ ?_ ?_ ?_ ?_ ?_ ?_ ?_ ?_ A3.out).mono ?_); exact ca_ ((cb_ aH.out HB.out)); exact aI.out; exact ca_ ((cb_ aJ.out HB.out)); exact aK.out; exact ca_ ((cb_ ab.out HB.out)); exact aL.out; exact ca_ ((cb_ ac.out HB.out)); exact aM.out; exact ca_ ((cb_ ad.out HB.out)); exact aN.out; exact ca_ ((cb_ aO.out HB.out)); exact aP.out; exact ca_ ((Kd.V_reads' X.out).2.2); exact (Kd.V_reads' X.out).2.1; rintro e w31 ⟨rfl, hb⟩; refine ⟨_, rfl, ?_⟩; replace HB := hq_ hb; clear hb))
  go_ret2
  exact ⟨_, er_, by first | exact Kd.S_nil _ _ _ _ _ | exact Kd.N_nil _ _ _ _ _ | exact Kd.V_nil _ _ _ _ _ | exact Kd.Q_nil _ _ _ _ _ | exact Kd.R_nil _ _ _ _ _, bel_⟩
 replace H := bo_ H
 obtain ⟨aR, A5, H⟩ := H
 try dsimp only at H
 have H' := a_ H
 clear H
 go_enter Tryz.func10, Tryz.ntmps10
 go_wp2_with (first | ((with_reducible refine gate_dst (N := 2) rfl ?_); refine bxe_ (N := 2) (cs := #[.int .i64 z, .slice G v.length c0_1, .slice I x.length c0_2, .slice Y d.length c0_3, .slice Z l.length c0_4, .slice aa m.length c0_5, .int .i64 A, .slice J y.length c0_7]) (t := 32) ?_; intro b hg w6 hbox hb; replace X := a_ (vb_ (Kd.V_elderB (vV_ X.out) b (Nat.le_of_eq hg.symm)) hb); have c := a_ (hbox); have ao := a_ (by rw [hg]; exact (bz_ bel_) : w.heap.size ≤ b); have aX := ao; replace HB := hq_ hb; clear hb hbox hg; obtain ⟨_, _, _, _, _, _, _, _, _, _, _, _, _, _, _, _⟩ := cel8_ c.out) | ((with_reducible refine gate_callee (f := 27) rfl ?_); refine goesL_ (some 14) rfl rfl Tryz.func27 kr_ rfl #[.agg #[.int .i64 z, .slice G v.length c0_1, .slice I x.length c0_2, .slice Y d.length c0_3, .slice Z l.length c0_4, .slice aa m.length c0_5, .int .i64 A, .slice J y.length c0_7], .slice A1 l1.length c1, .int .i64 21, .int .i64 21] rfl ar_ ?_; (with_reducible refine (prop_Fits.calls k z _ _ v _ _ x _ _ d _ _ l _ _ m A _ _ y _ _ l1 21 21 true _ ?_ ?_ ?_ ?_ ?_ ?_ ?_ ?_ ?_ ?_ ?_ ?_ ?_ ?_ A3.out).mono ?_); exact ca_ ((cb_ aH.out HB.out)); exact aI.out; exact ca_ ((cb_ aJ.out HB.out)); exact aK.out; exact ca_ ((cb_ ab.out HB.out)); exact aL.out; exact ca_ ((cb_ ac.out HB.out)); exact aM.out; exact ca_ ((cb_ ad.out HB.out)); exact aN.out; exact ca_ ((cb_ aO.out HB.out)); exact aP.out; exact ca_ ((Kd.V_reads' X.out).2.2); exact (Kd.V_reads' X.out).2.1; rintro e w8 ⟨rfl, hb⟩; refine ⟨_, rfl, ?_⟩; replace X := a_ (vb_ (vV_ X.out) hb); replace c := a_ (bq_ c.out hb); replace HB := hq_ hb; clear hb) | ((with_reducible refine gate_callee (f := 28) rfl ?_); refine goesL_ (some 17) rfl rfl Tryz.func28 kr_ rfl #[.slice A1 l1.length c1] rfl ar_ ?_; (with_reducible refine (slices_CloneDom.calls (fun p => ((P1_ p ∨ w.heap.size ≤ p) ∧ p ≠ b)) _ _ l1 aR _ ?_ A5.out).mono ?_); exact X.out; rintro e w9 ⟨ap, rfl, P, hb⟩; refine ⟨_, rfl, ?_⟩; have HZ := a_ P; have HZB := a_ hb; have BKz := c; have HBz := HB; replace X := a_ (Kd.V_elder' (vV_ X.out) (Kd.N_base P) hb); have aY := a_ (Kd.N_lower (nm_ (ok' := fun p => (P1_ p ∨ w.heap.size ≤ p) ∧ p ≠ b) P (fun p hk_ => ⟨Or.elim hk_ (fun hs_ => hs_.1) (fun hn_ => (.inr (Nat.le_trans (bz_ bel_) hn_))), Or.elim hk_ (fun hs_ => hs_.2) (fun hn_ => (Kd.freshB (bk_ c.out) p hn_))⟩)) (bz_ bel_)); replace c := a_ (bq_ c.out hb); replace HB := hq_ hb; clear hb P))
 go_loopg [] k (fun kq w' => ∃ (ag : List (S58)), Aside0 (gcc_Filter.l0 kq ag z v x d l m A y = some (r1, r2)) ∧ Aside0 (kq ≤ k) ∧ Aside0 (Kd.N k58 58 w' w.heap.size (fun p => (P1_ p ∨ w.heap.size ≤ p) ∧ p ≠ b) ap ag) ∧ Aside0 (w'.heap[b]? = some (.cells #[.int .i64 z, (.slice G v.length c0_1), (.slice I x.length c0_2), (.slice Y d.length c0_3), (.slice Z l.length c0_4), (.slice aa m.length c0_5), .int .i64 A, (.slice J y.length c0_7)] 32 (0, 0))) ∧ Aside0 (Below w.heap.size w w') ∧ Aside0 (Kd.N k58 58 w' w8.heap.size (fun p => (((P1_ p ∨ w.heap.size ≤ p) ∧ p ≠ b) ∨ w8.heap.size ≤ p)) ap ag) ∧ Aside0 (Below w8.heap.size w8 w'))
 case atStart => exact ⟨(aR), H', ⟨lr_ _⟩, ⟨vN_ aY.out⟩, ⟨bk_ c.out⟩, ⟨bel_⟩, ⟨vN_ HZ.out⟩, ⟨by repeat (first | (with_reducible first | exact HZB.out | apply below_alloc | apply pw_below_drewN | apply below_drew1) | exact HZB.out)⟩⟩
 clear H'
 try clear c1
 try clear c2
 try clear p2
 try clear c4
 obtain ⟨ag, HA, am, HO_6, c, HB, HZ, HZB⟩ := hrel
 cases gk with
 | zero => exact absurd HA.out (by simp [gcc_Filter.l0])
 | succ k1 =>
  have H := HA.out
  clear HA
  simp only [gcc_Filter.l0] at H
  have H' := a_ H
  clear H
  obtain ⟨_, _, _, _, _, _, _, _, _, _, _, _, _, _, _, _⟩ := cel8_ c.out
  go_wp2
  go_loopg [7, 21] k1 (fun kq v7 ba w' => ∃ (O : List (S58)) (ah : Bool) (a : Int), v7 = .bool ah ∧ ba = .int .i64 a ∧ Aside0 (gcc_Filter.l1 kq O ah d (d.length : Int) a z v x d l m A y = some (r1, r2)) ∧ Aside0 (kq ≤ k1) ∧ Aside0 (Kd.N k58 58 w' w.heap.size (fun p => (P1_ p ∨ w.heap.size ≤ p) ∧ p ≠ b) ap O) ∧ Aside0 (w'.heap[b]? = some (.cells #[.int .i64 z, (.slice G v.length c0_1), (.slice I x.length c0_2), (.slice Y d.length c0_3), (.slice Z l.length c0_4), (.slice aa m.length c0_5), .int .i64 A, (.slice J y.length c0_7)] 32 (0, 0))) ∧ Aside0 (Below w.heap.size w w') ∧ Aside0 (Kd.N k58 58 w' w8.heap.size (fun p => (((P1_ p ∨ w.heap.size ≤ p) ∧ p ≠ b) ∨ w8.heap.size ≤ p)) ap O) ∧ Aside0 (Below w8.heap.size w8 w'))
  case atStart => exact ⟨(ag), (false), (0), eq_, eq_, H', ⟨lr_ _⟩, ⟨vN_ HO_6.out⟩, ⟨bk_ c.out⟩, ⟨bel_⟩, ⟨vN_ HZ.out⟩, ⟨by repeat (first | (with_reducible first | exact HZB.out | apply below_alloc | apply pw_below_drewN | apply below_drew1) | exact HZB.out)⟩⟩
  clear H'
  try clear c1
  try clear c2
  try clear p2
  try clear c4
  try clear c10
  try clear p2
  obtain ⟨O, ah, a, rfl, rfl, HA, an, HO_6, c, HB, HZ, HZB⟩ := hrel
  cases gk with
  | zero => exact absurd HA.out (by simp [gcc_Filter.l1])
  | succ k2 =>
   have H := HA.out
   clear HA
   simp only [gcc_Filter.l1] at H
   replace H := cf_ H
   rcases H with ⟨c11b0, H⟩ | ⟨c11b0, H⟩
   ·
    replace H := hf_ H
    rcases H with ⟨rfl, H⟩ | ⟨rfl, H⟩
    ·
     simp only [Option.some.injEq, Prod.mk.injEq] at H
     obtain ⟨rfl, rfl⟩ := H
     go_wp2
     go_ret2
     exact ⟨_, er_, by refine vN_ ?_; exact nm_ HO_6.out (fun _ hk => hk.1), bel_⟩
    have H' := a_ H
    clear H
    go_wp2
    go_roundg k2
    case measure => have := am.out; have := an.out; omega
    exact ⟨(O), H', ⟨by have := am.out; have := an.out; omega⟩, ⟨vN_ HO_6.out⟩, ⟨bk_ c.out⟩, ⟨bel_⟩, ⟨vN_ HZ.out⟩, ⟨by repeat (first | (with_reducible first | exact HZB.out | apply below_alloc | apply pw_below_drewN | apply below_drew1) | exact HZB.out)⟩⟩
   replace H := gu_ H
   obtain ⟨c12b0, H⟩ := H
   replace H := gu_ H
   obtain ⟨c13b0, H⟩ := H
   replace H := gu_ H
   obtain ⟨c14b0, H⟩ := H
   replace H := gu_ H
   obtain ⟨c15b0, H⟩ := H
   replace H := bs_.mp H
   obtain ⟨⟨ae, ai, a1⟩, aS, H⟩ := H
   try dsimp only at H
   have aT := a_ aS
   clear aS
   replace H := hf_ H
   rcases H with ⟨rfl, H⟩ | ⟨rfl, H⟩
   ·
    simp only [Option.some.injEq, Prod.mk.injEq] at H
    obtain ⟨rfl, rfl⟩ := H
    obtain ⟨M, aj, B, p296, Q⟩ := aj_ ab HB a
    cases aj
    try go_wp2
    have n0_ := a_ (Kd.N_drew HO_6.out)
    have n1_ := a_ (blk_drew c.out)
    have n2_ := a_ (below_drew1 HB.out)
    have n3_ := a_ (Kd.N_drew HZ.out)
    have n4_ := a_ (below_drew1 HZB.out)
    clear HZ HZB
    have HZ := n3_
    have HZB := n4_
    clear n3_ n4_ HO_6 c HB
    have HO_6 := n0_
    have c := n1_
    have HB := n2_
    clear n0_ n1_ n2_
    have p297 : 0 ≤ (a : Int) := dq_
    have U : a < (l.length : Int) := dq_
    obtain ⟨E, ak, q⟩ := ai_ ac.out a p297 U
    have s := q
    cases ak
    replace q := hx_ HB q
    replace p297 := et_ p297
    replace U := et_ U
    have p298 : 0 ≤ (a : Int) := dq_
    have W : a < (m.length : Int) := dq_
    obtain ⟨F, al, r⟩ := ai_ ad.out a p298 W
    have u := r
    cases al
    replace r := hx_ HB r
    replace p298 := et_ p298
    replace W := et_ W
    obtain ⟨a6, a7, aW⟩ := Kd.N_slice HO_6.out
    (first | subst aW | (injection aW with f1_ f2_ f3_; have f4_ := f1_.symm; have f5_ := f3_.symm; clear f1_ f2_ f3_; subst f4_; subst f5_))
    refine start_ (n := 18) (S := fun w' => w'.cell? ⟨b, 0, none⟩ = some (.int .i64 z) ∧ w'.cell? ⟨b, 1, none⟩ = some (.slice G v.length c0_1) ∧ w'.cell? ⟨b, 2, none⟩ = some (.slice I x.length c0_2) ∧ w'.cell? ⟨b, 3, none⟩ = some (.slice (some M) d.length c0_3) ∧ w'.cell? ⟨b, 4, none⟩ = some (.slice (some E) l.length c0_4) ∧ w'.cell? ⟨b, 5, none⟩ = some (.slice (some F) m.length c0_5) ∧ w'.cell? ⟨b, 6, none⟩ = some (.int .i64 A) ∧ w'.cell? ⟨b, 7, none⟩ = some (.slice J y.length c0_7) ∧ w'.cell? (E.add (a).toNat) = some (.int .i64 (rd l a)) ∧ w'.cell? (F.add (a).toNat) = some (.int .i64 (rd m a))) (ds := []) #[false, false, false, false, false, false, false, false, false, false, false, false, false, false, false, false, false, false] kr_ rfl rfl (cb8_ c.out ⟨(hx_ HB s), (hx_ HB u)⟩) (fun hHeld => ?_); refine with_tabW gcc_Filter.tab8 gcc_Filter.bits8 (fun HT_ HW_ => ?_)
    generalize wr.drew = w25 at HO_6 c HB HZ HZB q r hHeld ⊢
    refine pn_ 0 27 ao_ ?_
    refine pn_ 1 28 ao_ ?_
    refine pn_ 2 29 ao_ ?_
    refine pn_ 4 31 ao_ ?_
    refine pn_ 7 34 ao_ ?_
    refine pn_ 9 36 ao_ ?_
    refine tn_ 3 30 tw_ hHeld ?_
    refine pn_ 5 32 ao_ ?_
    refine tn_ 6 33 tw_ hHeld ?_
    refine tn_ 8 35 tw_ hHeld ?_
    refine pn_ 10 37 ao_ ?_
    refine tn_ 11 38 tw_ hHeld ?_
    refine onn_ 12 39 #[true, true, true, true, true, true, true, true, true, true, true, true, true, false, false, false, false, false] rfl rfl on_ (by decide) (fun K hK => ?_)
    refine goes_ Tryz.func29 kr_ rfl #[.slice a6 O.length a7, .int .i64 (rd d a), .int .i64 (rd l a), .int .i64 (rd m a)] (by rfl) rfl rfl ar_ ?_
    with_reducible refine (gcc_one.calls k2 (fun p => ((P1_ p ∨ w.heap.size ≤ p) ∧ p ≠ b)) _ _ O (rd d a) (rd l a) (rd m a) ae ai false w8 _ HZ.out HZB.out ?side2 aT.out).mono ?_
    (case side2 => exact cb_ HRtab.out HBz.out)
    rintro e w27 ⟨rfl, P, hb⟩
    refine ⟨_, rfl, ?_⟩
    have n1_ := a_ (Kd.N_lower (nm_ (ok' := fun p => (P1_ p ∨ w.heap.size ≤ p) ∧ p ≠ b) P (fun p hk_ => ⟨Or.elim hk_ (fun hs_ => hs_.1) (fun hn_ => .inr (Nat.le_trans (bz_ HBz.out) hn_)), Or.elim hk_ (fun hs_ => hs_.2) (fun hn_ => Kd.freshB (g := b) (o := .cells #[.int .i64 z, .slice G v.length c0_1, .slice I x.length c0_2, .slice (some M) d.length c0_3, .slice (some E) l.length c0_4, .slice (some F) m.length c0_5, .int .i64 A, .slice J y.length c0_7] 32 (0, 0)) BKz.out p hn_)⟩)) (bz_ HBz.out))
    have n2_ := a_ (bb_ (g := b) (o := .cells #[.int .i64 z, .slice G v.length c0_1, .slice I x.length c0_2, .slice (some M) d.length c0_3, .slice (some E) l.length c0_4, .slice (some F) m.length c0_5, .int .i64 A, .slice J y.length c0_7] 32 (0, 0)) BKz.out hb)
    have n3_ := a_ (bp_ HBz.out hb)
    have n4_ := a_ P
    have n5_ := a_ hb
    clear HO_6 c HB HZ HZB
    have c := n2_
    have HB := n3_
    have HZ := n4_
    have HZB := n5_
    clear n1_ n2_ n3_ n4_ n5_ hb P
    refine hK.out _ _ (cb8_ c.out ⟨(hx_ HB s), (hx_ HB u)⟩) (fun hHeld => ?_)
    clear hK K
    refine nor_ (N := some 39) ?_
    refine pn_ 13 26 ao_ ?_
    refine pn_ 14 40 ao_ ?_
    refine pn_ 15 41 ao_ ?_
    refine pn_ 16 10 ao_ ?_
    refine pn_ 17 11 ao_ ?_
    refine done_ dn_ ?_
    try go_wp2
    go_ret2
    exact ⟨_, er_, by first | exact Kd.S_nil _ _ _ _ _ | exact Kd.N_nil _ _ _ _ _ | exact Kd.V_nil _ _ _ _ _ | exact Kd.Q_nil _ _ _ _ _ | exact Kd.R_nil _ _ _ _ _, bel_⟩
   replace H := ht_ H
   rcases H with ⟨rfl, H⟩ | ⟨rfl, H⟩
   ·
    have H' := a_ H
    clear H
    obtain ⟨M, aj, B, p296, Q⟩ := aj_ ab HB a
    cases aj
    try go_wp2
    have n0_ := a_ (Kd.N_drew HO_6.out)
    have n1_ := a_ (blk_drew c.out)
    have n2_ := a_ (below_drew1 HB.out)
    have n3_ := a_ (Kd.N_drew HZ.out)
    have n4_ := a_ (below_drew1 HZB.out)
    clear HZ HZB
    have HZ := n3_
    have HZB := n4_
    clear n3_ n4_ HO_6 c HB
    have HO_6 := n0_
    have c := n1_
    have HB := n2_
    clear n0_ n1_ n2_
    have p297 : 0 ≤ (a : Int) := dq_
    have U : a < (l.length : Int) := dq_
    obtain ⟨E, ak, q⟩ := ai_ ac.out a p297 U
    have s := q
    cases ak
    replace q := hx_ HB q
    replace p297 := et_ p297
    replace U := et_ U
    have p298 : 0 ≤ (a : Int) := dq_
    have W : a < (m.length : Int) := dq_
    obtain ⟨F, al, r⟩ := ai_ ad.out a p298 W
    have u := r
    cases al
    replace r := hx_ HB r
    replace p298 := et_ p298
    replace W := et_ W
    obtain ⟨a2, a3, aU⟩ := Kd.N_slice HO_6.out
    (first | subst aU | (injection aU with f1_ f2_ f3_; have f4_ := f1_.symm; have f5_ := f3_.symm; clear f1_ f2_ f3_; subst f4_; subst f5_))
    refine start_ (n := 18) (S := fun w' => w'.cell? ⟨b, 0, none⟩ = some (.int .i64 z) ∧ w'.cell? ⟨b, 1, none⟩ = some (.slice G v.length c0_1) ∧ w'.cell? ⟨b, 2, none⟩ = some (.slice I x.length c0_2) ∧ w'.cell? ⟨b, 3, none⟩ = some (.slice (some M) d.length c0_3) ∧ w'.cell? ⟨b, 4, none⟩ = some (.slice (some E) l.length c0_4) ∧ w'.cell? ⟨b, 5, none⟩ = some (.slice (some F) m.length c0_5) ∧ w'.cell? ⟨b, 6, none⟩ = some (.int .i64 A) ∧ w'.cell? ⟨b, 7, none⟩ = some (.slice J y.length c0_7) ∧ w'.cell? (E.add (a).toNat) = some (.int .i64 (rd l a)) ∧ w'.cell? (F.add (a).toNat) = some (.int .i64 (rd m a))) (ds := []) #[false, false, false, false, false, false, false, false, false, false, false, false, false, false, false, false, false, false] kr_ rfl rfl (cb8_ c.out ⟨(hx_ HB s), (hx_ HB u)⟩) (fun hHeld => ?_); refine with_tabW gcc_Filter.tab8 gcc_Filter.bits8 (fun HT_ HW_ => ?_)
    generalize wr.drew = w19 at HO_6 c HB HZ HZB q r hHeld ⊢
    refine pn_ 0 27 ao_ ?_
    refine pn_ 1 28 ao_ ?_
    refine pn_ 2 29 ao_ ?_
    refine pn_ 4 31 ao_ ?_
    refine pn_ 7 34 ao_ ?_
    refine pn_ 9 36 ao_ ?_
    refine tn_ 3 30 tw_ hHeld ?_
    refine pn_ 5 32 ao_ ?_
    refine tn_ 6 33 tw_ hHeld ?_
    refine tn_ 8 35 tw_ hHeld ?_
    refine pn_ 10 37 ao_ ?_
    refine tn_ 11 38 tw_ hHeld ?_
    refine onn_ 12 39 #[true, true, true, true, true, true, true, true, true, true, true, true, true, false, false, false, false, false] rfl rfl on_ (by decide) (fun K hK => ?_)
    refine goes_ Tryz.func29 kr_ rfl #[.slice a2 O.length a3, .int .i64 (rd d a), .int .i64 (rd l a), .int .i64 (rd m a)] (by rfl) rfl rfl ar_ ?_
    with_reducible refine (gcc_one.calls k2 (fun p => ((P1_ p ∨ w.heap.size ≤ p) ∧ p ≠ b)) _ _ O (rd d a) (rd l a) (rd m a) ae ai true w8 _ HZ.out HZB.out ?side2 aT.out).mono ?_
    (case side2 => exact cb_ HRtab.out HBz.out)
    rintro e w21 ⟨rfl, P, hb⟩
    refine ⟨_, rfl, ?_⟩
    have n1_ := a_ (Kd.N_lower (nm_ (ok' := fun p => (P1_ p ∨ w.heap.size ≤ p) ∧ p ≠ b) P (fun p hk_ => ⟨Or.elim hk_ (fun hs_ => hs_.1) (fun hn_ => .inr (Nat.le_trans (bz_ HBz.out) hn_)), Or.elim hk_ (fun hs_ => hs_.2) (fun hn_ => Kd.freshB (g := b) (o := .cells #[.int .i64 z, .slice G v.length c0_1, .slice I x.length c0_2, .slice (some M) d.length c0_3, .slice (some E) l.length c0_4, .slice (some F) m.length c0_5, .int .i64 A, .slice J y.length c0_7] 32 (0, 0)) BKz.out p hn_)⟩)) (bz_ HBz.out))
    have n2_ := a_ (bb_ (g := b) (o := .cells #[.int .i64 z, .slice G v.length c0_1, .slice I x.length c0_2, .slice (some M) d.length c0_3, .slice (some E) l.length c0_4, .slice (some F) m.length c0_5, .int .i64 A, .slice J y.length c0_7] 32 (0, 0)) BKz.out hb)
    have n3_ := a_ (bp_ HBz.out hb)
    have n4_ := a_ P
    have n5_ := a_ hb
    clear HO_6 c HB HZ HZB
    have aq := n1_
    have c := n2_
    have HB := n3_
    have HZ := n4_
    have HZB := n5_
    clear n1_ n2_ n3_ n4_ n5_ hb P
    refine hK.out _ _ (cb8_ c.out ⟨(hx_ HB s), (hx_ HB u)⟩) (fun hHeld => ?_)
    clear hK K
    refine nor_ (N := some 39) ?_
    refine pn_ 13 26 ao_ ?_
    refine pn_ 14 40 ao_ ?_
    refine pn_ 15 41 ao_ ?_
    refine pn_ 16 10 ao_ ?_
    refine pn_ 17 11 ao_ ?_
    refine done_ dn_ ?_
    try go_wp2
    go_roundg k2
    case measure => have := am.out; have := an.out; omega
    exact ⟨(ae), (true), (wrap64 (a + 1)), eq_, eq_, H', ⟨by have := am.out; have := an.out; omega⟩, ⟨vN_ aq.out⟩, ⟨bk_ c.out⟩, ⟨bel_⟩, ⟨vN_ HZ.out⟩, ⟨by repeat (first | (with_reducible first | exact HZB.out | apply below_alloc | apply pw_below_drewN | apply below_drew1) | exact HZB.out)⟩⟩
   have H' := a_ H
   clear H
   obtain ⟨M, aj, B, p296, Q⟩ := aj_ ab HB a
   cases aj
   try go_wp2
   have n0_ := a_ (Kd.N_drew HO_6.out)
   have n1_ := a_ (blk_drew c.out)
   have n2_ := a_ (below_drew1 HB.out)
   have n3_ := a_ (Kd.N_drew HZ.out)
   have n4_ := a_ (below_drew1 HZB.out)
   clear HZ HZB
   have HZ := n3_
   have HZB := n4_
   clear n3_ n4_ HO_6 c HB
   have HO_6 := n0_
   have c := n1_
   have HB := n2_
   clear n0_ n1_ n2_
   have p297 : 0 ≤ (a : Int) := dq_
   have U : a < (l.length : Int) := dq_
   obtain ⟨E, ak, q⟩ := ai_ ac.out a p297 U
   have s := q
   cases ak
   replace q := hx_ HB q
   replace p297 := et_ p297
   replace U := et_ U
   have p298 : 0 ≤ (a : Int) := dq_
   have W : a < (m.length : Int) := dq_
   obtain ⟨F, al, r⟩ := ai_ ad.out a p298 W
   have u := r
   cases al
   replace r := hx_ HB r
   replace p298 := et_ p298
   replace W := et_ W
   obtain ⟨a4, a5, aV⟩ := Kd.N_slice HO_6.out
   (first | subst aV | (injection aV with f1_ f2_ f3_; have f4_ := f1_.symm; have f5_ := f3_.symm; clear f1_ f2_ f3_; subst f4_; subst f5_))
   refine start_ (n := 18) (S := fun w' => w'.cell? ⟨b, 0, none⟩ = some (.int .i64 z) ∧ w'.cell? ⟨b, 1, none⟩ = some (.slice G v.length c0_1) ∧ w'.cell? ⟨b, 2, none⟩ = some (.slice I x.length c0_2) ∧ w'.cell? ⟨b, 3, none⟩ = some (.slice (some M) d.length c0_3) ∧ w'.cell? ⟨b, 4, none⟩ = some (.slice (some E) l.length c0_4) ∧ w'.cell? ⟨b, 5, none⟩ = some (.slice (some F) m.length c0_5) ∧ w'.cell? ⟨b, 6, none⟩ = some (.int .i64 A) ∧ w'.cell? ⟨b, 7, none⟩ = some (.slice J y.length c0_7) ∧ w'.cell? (E.add (a).toNat) = some (.int .i64 (rd l a)) ∧ w'.cell? (F.add (a).toNat) = some (.int .i64 (rd m a))) (ds := []) #[false, false, false, false, false, false, false, false, false, false, false, false, false, false, false, false, false, false] kr_ rfl rfl (cb8_ c.out ⟨(hx_ HB s), (hx_ HB u)⟩) (fun hHeld => ?_); refine with_tabW gcc_Filter.tab8 gcc_Filter.bits8 (fun HT_ HW_ => ?_)
   generalize wr.drew = w22 at HO_6 c HB HZ HZB q r hHeld ⊢
   refine pn_ 0 27 ao_ ?_
   refine pn_ 1 28 ao_ ?_
   refine pn_ 2 29 ao_ ?_
   refine pn_ 4 31 ao_ ?_
   refine pn_ 7 34 ao_ ?_
   refine pn_ 9 36 ao_ ?_
   refine tn_ 3 30 tw_ hHeld ?_
   refine pn_ 5 32 ao_ ?_
   refine tn_ 6 33 tw_ hHeld ?_
   refine tn_ 8 35 tw_ hHeld ?_
   refine pn_ 10 37 ao_ ?_
   refine tn_ 11 38 tw_ hHeld ?_
   refine onn_ 12 39 #[true, true, true, true, true, true, true, true, true, true, true, true, true, false, false, false, false, false] rfl rfl on_ (by decide) (fun K hK => ?_)
   refine goes_ Tryz.func29 kr_ rfl #[.slice a4 O.length a5, .int .i64 (rd d a), .int .i64 (rd l a), .int .i64 (rd m a)] (by rfl) rfl rfl ar_ ?_
   with_reducible refine (gcc_one.calls k2 (fun p => ((P1_ p ∨ w.heap.size ≤ p) ∧ p ≠ b)) _ _ O (rd d a) (rd l a) (rd m a) ae ai true w8 _ HZ.out HZB.out ?side2 aT.out).mono ?_
   (case side2 => exact cb_ HRtab.out HBz.out)
   rintro e w24 ⟨rfl, P, hb⟩
   refine ⟨_, rfl, ?_⟩
   have n1_ := a_ (Kd.N_lower (nm_ (ok' := fun p => (P1_ p ∨ w.heap.size ≤ p) ∧ p ≠ b) P (fun p hk_ => ⟨Or.elim hk_ (fun hs_ => hs_.1) (fun hn_ => .inr (Nat.le_trans (bz_ HBz.out) hn_)), Or.elim hk_ (fun hs_ => hs_.2) (fun hn_ => Kd.freshB (g := b) (o := .cells #[.int .i64 z, .slice G v.length c0_1, .slice I x.length c0_2, .slice (some M) d.length c0_3, .slice (some E) l.length c0_4, .slice (some F) m.length c0_5, .int .i64 A, .slice J y.length c0_7] 32 (0, 0)) BKz.out p hn_)⟩)) (bz_ HBz.out))
   have n2_ := a_ (bb_ (g := b) (o := .cells #[.int .i64 z, .slice G v.length c0_1, .slice I x.length c0_2, .slice (some M) d.length c0_3, .slice (some E) l.length c0_4, .slice (some F) m.length c0_5, .int .i64 A, .slice J y.length c0_7] 32 (0, 0)) BKz.out hb)
   have n3_ := a_ (bp_ HBz.out hb)
   have n4_ := a_ P
   have n5_ := a_ hb
   clear HO_6 c HB HZ HZB
   have aq := n1_
   have c := n2_
   have HB := n3_
   have HZ := n4_
   have HZB := n5_
   clear n1_ n2_ n3_ n4_ n5_ hb P
   refine hK.out _ _ (cb8_ c.out ⟨(hx_ HB s), (hx_ HB u)⟩) (fun hHeld => ?_)
   clear hK K
   refine nor_ (N := some 39) ?_
   refine pn_ 13 26 ao_ ?_
   refine pn_ 14 40 ao_ ?_
   refine pn_ 15 41 ao_ ?_
   refine pn_ 16 10 ao_ ?_
   refine pn_ 17 11 ao_ ?_
   refine done_ dn_ ?_
   try go_wp2
   go_roundg k2
   case measure => have := am.out; have := an.out; omega
   exact ⟨(ae), (ai), (wrap64 (a + 1)), eq_, eq_, H', ⟨by have := am.out; have := an.out; omega⟩, ⟨vN_ aq.out⟩, ⟨bk_ c.out⟩, ⟨bel_⟩, ⟨vN_ HZ.out⟩, ⟨by repeat (first | (with_reducible first | exact HZB.out | apply below_alloc | apply pw_below_drewN | apply below_drew1) | exact HZB.out)⟩⟩

end Go.Proofs.YtijjhobjmehhoaaGreatDoor.XGccAll
