-- by xprint.py, a program of this session, over the kit's print
import Derived.Test.YtbhhbgoamomacaaGreatDoorXMRex0
import Derived.Test.YtbhhbgoamomacaaGreatDoorXMRex10
import Derived.Test.YtbhhbgoamomacaaGreatDoorXMRex11
import Derived.Test.YtbhhbgoamomacaaGreatDoorXMRex12
import Derived.Test.YtbhhbgoamomacaaGreatDoorXMRex13
import Derived.Test.YtbhhbgoamomacaaGreatDoorSq
namespace Go.Proofs.YtbhhbgoamomacaaGreatDoor.XMulRefuses
open Go.RowKit Go.Proofs.YtbhhbgoamomacaaGreatDoor.Sq Go.Proofs.YtbhhbgoamomacaaGreatDoorW.PrintWords Go.Proofs.YtbhhbgoamomacaaGreatDoorW.PrintLast Go.Proofs.YtbhhbgoamomacaaGreatDoorW.PrintMore
attribute [local go_sem] max2_int min2_int max_two min_two max_three min_three max_four min_four   -- for this text's walks alone
set_option linter.unusedVariables false
set_option linter.unusedSimpArgs false

/-! ### pPairs: function 33 -/
mutual
def pPairs.l0 (φ : Nat → Int → Int → Option (Int × Bool)) : Nat → List Int → List Int → List Int → List Int → Int → Int → Int → List Int → Int → Int → Int → Int → List Int → Int → Int → Int → Option ((List (S61)) × Bool)
 | 0, _, _, _, _, _, _, _, _, _, _, _, _, _, _, _, _ => none
 | k + 1, t, u, v, r, x, g, a, b, c, d, e, m, n, o, p, q => if g < x then (if 0 ≤ g then (if g < (r.length : Int) then ((dom_Dom_List.f k a b c d e).bind fun s => (pPairs.l1 φ k t u v (rd r g) r x g s (s.length : Int) 0 a b c d e m n o p q)) else (none)) else (none)) else ((prop_Made.f k (([t, u, v] : List (List Int)))).bind fun l => (some (l.1, l.2)))
def pPairs.l1 (φ : Nat → Int → Int → Option (Int × Bool)) : Nat → List Int → List Int → List Int → Int → List Int → Int → Int → List Int → Int → Int → Int → List Int → Int → Int → Int → Int → List Int → Int → Int → Int → Option ((List (S61)) × Bool)
 | 0, _, _, _, _, _, _, _, _, _, _, _, _, _, _, _, _, _, _, _, _ => none
 | k + 1, s, t, u, v, x, y, z, q, A, p, g, l, m, n, o, a, b, c, d, e => if p < A then (if 0 ≤ p then (if p < (q.length : Int) then ((φ k v (rd q p)).bind fun r => (if r.2 = true then ((dom_Dom_Has.f a b c d e r.1).bind fun B => (if B = true then (if s.length < 17592186044416 then (if t.length < 17592186044416 then (if u.length < 17592186044416 then (pPairs.l1 φ k (s ++ [v]) (t ++ [rd q p]) (u ++ [r.1]) v x y z q A (wrap64 (p + 1)) g l m n o a b c d e) else (none)) else (none)) else (none)) else (pPairs.l1 φ k s t u v x y z q A (wrap64 (p + 1)) g l m n o a b c d e))) else (pPairs.l1 φ k s t u v x y z q A (wrap64 (p + 1)) g l m n o a b c d e))) else (none)) else (none)) else (pPairs.l0 φ k s t u x y (wrap64 (z + 1)) g l m n o a b c d e)
end
def pPairs.f (φ : Nat → Int → Int → Option (Int × Bool)) (k : Nat) (b : Int) (c : List Int) (d : Int) (e : Int) (g : Int) (l : Int) (m : List Int) (n : Int) (o : Int) (p : Int) (q : Int) (r : List Int) (s : Int) (t : Int) (u : Int)  : Option ((List (S61)) × Bool) := (dom_Dom_List.f k b c d e g).bind fun a => (pPairs.l0 φ k ([] : List Int) ([] : List Int) ([] : List Int) a (a.length : Int) 0 l m n o p q r s t u)
theorem pPairs.mono_l (φ : Nat → Int → Int → Option (Int × Bool)) (hm : ∀ a b k, LeO (φ k a b) (φ (k + 1) a b)) : ∀ k, (∀ g l m n o p q s t u a b c d e f, LeO (pPairs.l0 φ k g l m n o p q s t u a b c d e f) (pPairs.l0 φ (k + 1) g l m n o p q s t u a b c d e f)) ∧ (∀ g l m n o p q s t u a b c d e f v x y z, LeO (pPairs.l1 φ k g l m n o p q s t u a b c d e f v x y z) (pPairs.l1 φ (k + 1) g l m n o p q s t u a b c d e f v x y z))
 | 0 => by refine ⟨?_, ?_⟩ <;> (intros; exact LeO.none _)
 | k + 1 => by
  obtain ⟨ih0, ih1⟩ := pPairs.mono_l φ hm k
  have m0 := @dom_Dom_List.mono
  have m1 := hm
  have m2 := @prop_Made.mono
  refine ⟨?_, ?_⟩ <;> intros
  all_goals first | unfold pPairs.l0 | unfold pPairs.l1
  all_goals exact leo_
theorem pPairs.mono (φ : Nat → Int → Int → Option (Int × Bool)) (hm : ∀ a b k, LeO (φ k a b) (φ (k + 1) a b)) : ∀ g l m n o p q r s t a b c d e k, LeO (pPairs.f φ k g l m n o p q r s t a b c d e) (pPairs.f φ (k + 1) g l m n o p q r s t a b c d e) := by
 intro g l m n o p q r s t a b c d e k
 obtain ⟨ih0, ih1⟩ := pPairs.mono_l φ hm k
 unfold pPairs.f
 have m0 := @dom_Dom_List.mono
 have m1 := hm
 have m2 := @prop_Made.mono
 exact leo_
set_option maxHeartbeats 8000000 in
set_option maxRecDepth 100000 in
theorem pPairs.calls {φ : Nat → Int → Int → Option (Int × Bool)} {nF : Nat} (hn : nF = 30 ∨ nF = 31 ∨ nF = 32) (hF : ∀ (k : Nat) (b : Int) (a : Int) (l : Int) (m : Bool) (w : World) (h : φ k b a = some (l, m)), Calls Tryz.prog nF #[.int .i64 b, .int .i64 a] w fun e w' => e = .returned (.tuple #[.int .i64 l, .bool m]) ∧ Drawn0 w w') (k : Nat) (al : Int) (av : Option Addr) (c0_1 : Nat) (Z : List Int) (am : Int) (an : Int) (ao : Int) (E : Int) (aw : Option Addr) (c1_1 : Nat) (y : List Int) (F : Int) (G : Int) (I : Int) (J : Int) (aE : Option Addr) (c2_1 : Nat) (z : List Int) (K : Int) (O : Int) (P : Int)  (r1 : List (S61)) (r2 : Bool) (w : World) (aV : Kd.C (Kd.int .u64) w av Z.length Z) (aW : Z.length ≤ c0_1) (aX : Kd.C (Kd.int .u64) w aw y.length y) (aY : y.length ≤ c1_1) (aZ : Kd.C (Kd.int .u64) w aE z.length z) (a0 : z.length ≤ c2_1) (hrtab : Kd.C (Kd.int .u8) w (some ⟨0, 0, none⟩) tabL.length tabL) (h : pPairs.f φ k al Z am an ao E y F G I J z K O P = some (r1, r2)) :
  Calls Tryz.prog 33 #[.agg #[.int .i64 al, .slice av Z.length c0_1, .int .i64 am, .int .i64 an, .int .i64 ao], .agg #[.int .i64 E, .slice aw y.length c1_1, .int .i64 F, .int .i64 G, .int .i64 I], .agg #[.int .i64 J, .slice aE z.length c2_1, .int .i64 K, .int .i64 O, .int .i64 P], .func (.func nF) #[] #[]] w fun e w' => ∃ bx : Value, e = .returned (.tuple #[bx, .bool r2]) ∧ Kd.N k61 61 w' w.heap.size (fun a => (w.heap.size ≤ a)) bx r1 ∧ Below w.heap.size w w' := by
 rcases hn with rfl | rfl | rfl
 all_goals (
 have hu61 := Tryz.underlying61
 have bk := a_ aV
 have bl := a_ aW
 clear aV aW
 have bm := a_ aX
 have bn := a_ aY
 clear aX aY
 have a1 := a_ aZ
 have a2 := a_ a0
 clear aZ a0
 have HRtab := a_ hrtab
 clear hrtab
 have HB := a_ (Below.refl w.heap.size w)
 unfold pPairs.f at h
 have H := h
 clear h
 replace H := bo_ H
 obtain ⟨c, A5, H⟩ := H
 try dsimp only at H
 have H' := a_ H
 clear H
 go_enter Tryz.func33, Tryz.ntmps33
 go_wp2_with (first | ((with_reducible refine gate_dst (N := 4) rfl ?_); refine bxe_ (N := 4) (cs := #[.int .i64 al, .slice av Z.length c0_1, .int .i64 am, .int .i64 an, .int .i64 ao]) (t := 61) ?_; intro q hg w6 hbox hb; have d := a_ (hbox); have bo := a_ (by rw [hg]; exact (bz_ bel_) : w.heap.size ≤ q); have bP := bo; replace HB := hq_ hb; clear hb hbox hg) | ((with_reducible refine gate_dst (N := 5) rfl ?_); refine bxe_ (N := 5) (cs := #[.int .i64 E, .slice aw y.length c1_1, .int .i64 F, .int .i64 G, .int .i64 I]) (t := 61) ?_; intro r hg w7 hbox hb; have g := a_ (hbox); have bp := a_ (by rw [hg]; exact (bz_ bel_) : w.heap.size ≤ r); have bQ := bp; replace HB := hq_ hb; have ax := a_ ((by rw [hg]; exact Nat.ne_of_lt (blk_lt (bk_ d.out)) : q ≠ r)); have ay := a_ ((by rw [hg]; exact Nat.ne_of_gt (blk_lt (bk_ d.out)) : r ≠ q)); replace d := a_ (bq_ d.out hb); clear hb hbox hg) | ((with_reducible refine gate_dst (N := 6) rfl ?_); refine bxe_ (N := 6) (cs := #[.int .i64 J, .slice aE z.length c2_1, .int .i64 K, .int .i64 O, .int .i64 P]) (t := 61) ?_; intro s hg w8 hbox hb; have l := a_ (hbox); have bq := a_ (by rw [hg]; exact (bz_ bel_) : w.heap.size ≤ s); have bR := bq; replace HB := hq_ hb; have ad := a_ ((by rw [hg]; exact Nat.ne_of_lt (blk_lt (bk_ d.out)) : q ≠ s)); have ae := a_ ((by rw [hg]; exact Nat.ne_of_gt (blk_lt (bk_ d.out)) : s ≠ q)); replace d := a_ (bq_ d.out hb); have af := a_ ((by rw [hg]; exact Nat.ne_of_lt (blk_lt (bk_ g.out)) : r ≠ s)); have ag := a_ ((by rw [hg]; exact Nat.ne_of_gt (blk_lt (bk_ g.out)) : s ≠ r)); replace g := a_ (bq_ g.out hb); clear hb hbox hg; have b7 := ax.out; have b8 := ay.out; have bS := ad.out; have bT := ae.out; obtain ⟨_, _, _, _, _, _, _, _, _, _⟩ := cel5_ d.out) | ((with_reducible refine gate_callee (f := 23) rfl ?_); refine goesL_ (some 20) rfl rfl Tryz.func23 kr_ rfl #[.agg #[.int .i64 al, .slice av Z.length c0_1, .int .i64 am, .int .i64 an, .int .i64 ao]] rfl ar_ ?_; (with_reducible refine (dom_Dom_List.calls k al _ _ Z am an ao c _ ?_ ?_ ?_ A5.out).mono ?_); exact ca_ ((cb_ bk.out HB.out)); exact bl.out; exact ca_ ((cb_ HRtab.out HB.out)); rintro e w12 ⟨b9, rfl, ac, hb⟩; refine ⟨_, rfl, ?_⟩; have a3 := a_ (Kd.R_lower (Kd.R_newM (M := fun a => (w.heap.size ≤ a)) ac (bz_ bel_) (fun a h_ => h_)) (bz_ bel_)); replace d := a_ (bq_ d.out hb); replace g := a_ (bq_ g.out hb); replace l := a_ (bq_ l.out hb); replace HB := hq_ hb; clear hb ac; obtain ⟨Q, p, bA⟩ := Kd.R_slice a3.out; subst bA))
 go_loopg [10, 11, 12, 22] k (fun kq ai aj ak bL w' => ∃ (V : List Int) (W : List Int) (X : List Int) (o : Int), bL = .int .i64 o ∧ Aside0 (pPairs.l0 φ kq V W X c (c.length : Int) o E y F G I J z K O P = some (r1, r2)) ∧ Aside0 (kq ≤ k) ∧ Aside0 (Kd.R (Kd.int .i64) 3 w' w.heap.size (fun a => (w.heap.size ≤ a) ∧ some a ≠ aj.ownBlock ∧ some a ≠ ak.ownBlock ∧ some a ≠ ((.slice Q c.length p) : Value).ownBlock) ai V) ∧ Aside0 (Kd.R (Kd.int .i64) 3 w' w.heap.size (fun a => (w.heap.size ≤ a) ∧ some a ≠ ai.ownBlock ∧ some a ≠ ak.ownBlock ∧ some a ≠ ((.slice Q c.length p) : Value).ownBlock) aj W) ∧ Aside0 (Kd.R (Kd.int .i64) 3 w' w.heap.size (fun a => (w.heap.size ≤ a) ∧ some a ≠ ai.ownBlock ∧ some a ≠ aj.ownBlock ∧ some a ≠ ((.slice Q c.length p) : Value).ownBlock) ak X) ∧ Aside0 (Kd.R (Kd.int .i64) 3 w' w.heap.size (fun a => (w.heap.size ≤ a) ∧ some a ≠ ai.ownBlock ∧ some a ≠ aj.ownBlock ∧ some a ≠ ak.ownBlock) (.slice Q c.length p) c) ∧ Aside0 (w'.heap[q]? = some (.cells #[.int .i64 al, (.slice av Z.length c0_1), .int .i64 am, .int .i64 an, .int .i64 ao] 61 (0, 0))) ∧ Aside0 (w'.heap[r]? = some (.cells #[.int .i64 E, (.slice aw y.length c1_1), .int .i64 F, .int .i64 G, .int .i64 I] 61 (0, 0))) ∧ Aside0 (w'.heap[s]? = some (.cells #[.int .i64 J, (.slice aE z.length c2_1), .int .i64 K, .int .i64 O, .int .i64 P] 61 (0, 0))) ∧ Aside0 (Below w.heap.size w w'))
 case atStart => exact ⟨(([] : List Int)), (([] : List Int)), (([] : List Int)), (0), eq_, H', ⟨lr_ _⟩, ⟨nil_⟩, ⟨nil_⟩, ⟨nil_⟩, ⟨by refine vR_ ?_; exact rm_ a3.out (fun _ hk => ⟨hk.1, ⟨(by simp [Value.ownBlock]), ⟨(by simp [Value.ownBlock]), (by simp [Value.ownBlock])⟩⟩⟩)⟩, ⟨bk_ d.out⟩, ⟨bk_ g.out⟩, ⟨bk_ l.out⟩, ⟨bel_⟩⟩
 clear H'
 try clear c1
 try clear c2
 try clear p2
 try clear c9
 try clear c10
 obtain ⟨V, W, X, o, rfl, HA, az, HO_10, HO_11, HO_12, HO_20, d, g, l, HB⟩ := hrel
 cases gk with
 | zero => exact absurd HA.out (by simp [pPairs.l0])
 | succ k1 =>
  have H := HA.out
  clear HA
  simp only [pPairs.l0] at H
  by_cases c14 : o < (c.length : Int)
  rotate_left
  ·
   rw [ig_ c14] at H
   have c14b0 : decide (o < (c.length : Int)) = false := df_ c14
   clear c14
   obtain ⟨aT, au⟩ : ∃ y_ : List (List Int), y_ = (([V, W, X] : List (List Int))) := ⟨_, rfl⟩
   replace H : ((prop_Made.f k1 aT).bind fun a5 => (some (a5.1, a5.2))) = some (r1, r2) := h2_ H au
   have a6 := a_ au
   clear au
   replace H := bs_.mp H
   obtain ⟨⟨bF, bG⟩, bb, H⟩ := H
   try dsimp only at H
   have bO := a_ bb
   clear bb
   simp only [Option.some.injEq, Prod.mk.injEq] at H
   obtain ⟨rfl, rfl⟩ := H
   obtain ⟨bc, bd, bH⟩ := Kd.R_slice HO_10.out
   subst bH
   obtain ⟨be, bf, bI⟩ := Kd.R_slice HO_11.out
   subst bI
   obtain ⟨bg, bh, bJ⟩ := Kd.R_slice HO_12.out
   subst bJ
   go_wp2_with (first | ((with_reducible refine gate_dst (N := 63) rfl ?_); refine Kd.N_lit (Kd.slice 3 (Kd.int .i64)) _ 30 ?hg (N' := 63) ?hd (xs := ([V, W, X] : List (List Int))) (inner := [.slice bc V.length bd, .slice be W.length bf, .slice bg X.length bh]) (ok := (fun a => (w.heap.size ≤ a) ∧ some a ≠ (.slice Q c.length p : Value).ownBlock ∧ a ≠ q ∧ a ≠ r ∧ a ≠ s)) (okp := (fun a => (w.heap.size ≤ a) ∧ some a ≠ (.slice Q c.length p : Value).ownBlock ∧ a ≠ q ∧ a ≠ r ∧ a ≠ s)) ?hr ?hp (fun _ hk => hk) ((show ∀ a, wr.heap.size ≤ a → (fun a => (w.heap.size ≤ a) ∧ some a ≠ (.slice Q c.length p : Value).ownBlock ∧ a ≠ q ∧ a ≠ r ∧ a ≠ s) a from fun a hk => ⟨(Nat.le_trans (bz_ bel_) hk), fr_ (rl_ (vR_ HO_20.out)) a hk, Kd.freshB (bk_ d.out) a hk, Kd.freshB (bk_ g.out) a hk, Kd.freshB (bk_ l.out) a hk⟩) _ (lr_ _)) (Below.refl _ _) (lr_ _) (by simp) ?_; (case hd => rfl); (case hg => rfl); (case hr => first | (go_simp; done) | (go_simp; rfl)); (case hp => exact (Reps.one (show Kd.FK (Kd.slice 3 (Kd.int .i64)) _ _ V [.slice bc V.length bd] from (Kd.FK_slice_mk (rr_ (rm_ (ok' := (fun a => (w.heap.size ≤ a) ∧ some a ≠ (.slice Q c.length p : Value).ownBlock ∧ a ≠ q ∧ a ≠ r ∧ a ≠ s)) (rt_ (rt_ (rt_ (HO_10.out) d.out (by decide)) g.out (by decide)) l.out (by decide)) (fun a hk => ⟨hk.1.1.1.1, ⟨hk.1.1.1.2.2.2, ⟨hk.1.1.2, ⟨hk.1.2, hk.2⟩⟩⟩⟩))).2.1 (Kd.R_F (rm_ (ok' := (fun a => (w.heap.size ≤ a) ∧ some a ≠ (.slice Q c.length p : Value).ownBlock ∧ a ≠ q ∧ a ≠ r ∧ a ≠ s)) (rt_ (rt_ (rt_ (HO_10.out) d.out (by decide)) g.out (by decide)) l.out (by decide)) (fun a hk => ⟨hk.1.1.1.1, ⟨hk.1.1.1.2.2.2, ⟨hk.1.1.2, ⟨hk.1.2, hk.2⟩⟩⟩⟩))))) (Reps.one (show Kd.FK (Kd.slice 3 (Kd.int .i64)) _ _ W [.slice be W.length bf] from (Kd.FK_slice_mk (rr_ (rm_ (ok' := (fun a => (w.heap.size ≤ a) ∧ some a ≠ (.slice Q c.length p : Value).ownBlock ∧ a ≠ q ∧ a ≠ r ∧ a ≠ s)) (rt_ (rt_ (rt_ (HO_11.out) d.out (by decide)) g.out (by decide)) l.out (by decide)) (fun a hk => ⟨hk.1.1.1.1, ⟨hk.1.1.1.2.2.2, ⟨hk.1.1.2, ⟨hk.1.2, hk.2⟩⟩⟩⟩))).2.1 (Kd.R_F (rm_ (ok' := (fun a => (w.heap.size ≤ a) ∧ some a ≠ (.slice Q c.length p : Value).ownBlock ∧ a ≠ q ∧ a ≠ r ∧ a ≠ s)) (rt_ (rt_ (rt_ (HO_11.out) d.out (by decide)) g.out (by decide)) l.out (by decide)) (fun a hk => ⟨hk.1.1.1.1, ⟨hk.1.1.1.2.2.2, ⟨hk.1.1.2, ⟨hk.1.2, hk.2⟩⟩⟩⟩))))) (Reps.one (show Kd.FK (Kd.slice 3 (Kd.int .i64)) _ _ X [.slice bg X.length bh] from (Kd.FK_slice_mk (rr_ (rm_ (ok' := (fun a => (w.heap.size ≤ a) ∧ some a ≠ (.slice Q c.length p : Value).ownBlock ∧ a ≠ q ∧ a ≠ r ∧ a ≠ s)) (rt_ (rt_ (rt_ (HO_12.out) d.out (by decide)) g.out (by decide)) l.out (by decide)) (fun a hk => ⟨hk.1.1.1.1, ⟨hk.1.1.1.2.2.2, ⟨hk.1.1.2, ⟨hk.1.2, hk.2⟩⟩⟩⟩))).2.1 (Kd.R_F (rm_ (ok' := (fun a => (w.heap.size ≤ a) ∧ some a ≠ (.slice Q c.length p : Value).ownBlock ∧ a ≠ q ∧ a ≠ r ∧ a ≠ s)) (rt_ (rt_ (rt_ (HO_12.out) d.out (by decide)) g.out (by decide)) l.out (by decide)) (fun a hk => ⟨hk.1.1.1.1, ⟨hk.1.1.1.2.2.2, ⟨hk.1.1.2, ⟨hk.1.2, hk.2⟩⟩⟩⟩))))) (Reps.none _ _))))); intro cc w48 aI hb hg_ hnew_; clear hg_ hnew_; (first | rw [← a6.out] at aI | (simp only [Int.reduceToNat] at aI; rw [← a6.out] at aI)); replace HO_20 := a_ (rb_ (vR_ HO_20.out) hb); have aD := a_ (Kd.N_lower aI (bz_ bel_)); replace d := a_ (bq_ d.out hb); replace g := a_ (bq_ g.out hb); replace l := a_ (bq_ l.out hb); replace HB := hq_ hb; clear HO_10 HO_11 HO_12; clear hb aI; obtain ⟨bi, bj, bK⟩ := Kd.N_slice aD.out; subst bK) | ((with_reducible refine gate_callee (f := 69) rfl ?_); refine goesL_ (some 64) rfl rfl Tryz.func69 kr_ rfl #[.slice bi aT.length bj] rfl ar_ ?_; (with_reducible refine (prop_Made.calls k1 _ _ aT bF bG _ ?_ ?_ ?_ bO.out).mono ?_); exact ca_ ((Kd.N_reads' aD.out).2.2); exact (Kd.N_reads' aD.out).2.1; exact ca_ ((cb_ HRtab.out HB.out)); rintro e w51 ⟨cd, rfl, ac, hb⟩; refine ⟨_, rfl, ?_⟩; have bw := a_ (Kd.N_lower (nm_ (ok' := fun a => (w.heap.size ≤ a) ∧ some a ≠ (.slice Q c.length p : Value).ownBlock ∧ some a ≠ (.slice bi aT.length bj : Value).ownBlock ∧ a ≠ q ∧ a ≠ r ∧ a ≠ s) ac (fun a hk_ => ⟨(Nat.le_trans (bz_ bel_) hk_), (fr_ (rl_ (vR_ HO_20.out)) a hk_), (fr_ (Kd.N_lt (vN_ aD.out)) a hk_), (Kd.freshB (bk_ d.out) a hk_), (Kd.freshB (bk_ g.out) a hk_), (Kd.freshB (bk_ l.out) a hk_)⟩)) (bz_ bel_)); replace HB := hq_ hb; clear hb ac))
   go_ret2
   exact ⟨_, er_, by refine vN_ ?_; exact nm_ bw.out (fun _ hk => hk.1), bel_⟩
  rw [ip_ c14] at H
  have c14b0 : decide (o < (c.length : Int)) = true := dt_ c14
  clear c14
  by_cases c15 : 0 ≤ o
  rotate_left
  ·
   rw [ig_ c15] at H
   exact ab_ H
  rw [ip_ c15] at H
  have c15b0 : decide (0 ≤ o) = true := dt_ c15
  clear c15
  by_cases c16 : o < (c.length : Int)
  rotate_left
  ·
   rw [ig_ c16] at H
   exact ab_ H
  rw [ip_ c16] at H
  have c16b0 : decide (o < (c.length : Int)) = true := dt_ c16
  clear c16
  replace H := bo_ H
  obtain ⟨m, bM, H⟩ := H
  try dsimp only at H
  have H' := a_ H
  clear H
  have p434 : 0 ≤ (o : Int) := dq_
  have aN : o < (c.length : Int) := dq_
  obtain ⟨u, bB, a7⟩ := ai_ (rr_ HO_20.out).2.2 o p434 aN
  cases bB
  replace p434 := et_ p434
  replace aN := et_ aN
  have bU := ay.out
  have bV := ax.out
  have bW := af.out
  have bX := ag.out
  obtain ⟨_, _, _, _, _, _, _, _, _, _⟩ := cel5_ g.out
  go_wp2_with (first | ((with_reducible refine gate_callee (f := 23) rfl ?_); refine goesL_ (some 27) rfl rfl Tryz.func23 kr_ rfl #[.agg #[.int .i64 E, .slice aw y.length c1_1, .int .i64 F, .int .i64 G, .int .i64 I]] rfl ar_ ?_; (with_reducible refine (dom_Dom_List.calls k1 E _ _ y F G I m _ ?_ ?_ ?_ bM.out).mono ?_); exact ca_ ((cb_ bm.out HB.out)); exact bn.out; exact ca_ ((cb_ HRtab.out HB.out)); rintro e w21 ⟨ca, rfl, ac, hb⟩; refine ⟨_, rfl, ?_⟩; have a4 := a_ (Kd.R_lower (Kd.R_new' (Kd.R_new' (Kd.R_new' (Kd.R_new' (Kd.R_newM (M := fun a => (w.heap.size ≤ a)) ac (bz_ bel_) (fun a h_ => h_)) (rl_ (vR_ HO_10.out))) (rl_ (vR_ HO_11.out))) (rl_ (vR_ HO_12.out))) (rl_ (vR_ HO_20.out))) (bz_ bel_)); replace HO_10 := a_ (Kd.R_elder' (vR_ HO_10.out) (rs_ ac) hb); replace HO_11 := a_ (Kd.R_elder' (vR_ HO_11.out) (rs_ ac) hb); replace HO_12 := a_ (Kd.R_elder' (vR_ HO_12.out) (rs_ ac) hb); replace HO_20 := a_ (Kd.R_elder' (vR_ HO_20.out) (rs_ ac) hb); replace d := a_ (bq_ d.out hb); replace g := a_ (bq_ g.out hb); replace l := a_ (bq_ l.out hb); replace HB := hq_ hb; clear hb ac; obtain ⟨aG, A, bC⟩ := Kd.R_slice a4.out; subst bC))
  go_loopg [10, 11, 12, 29] k1 (fun kq ai aj ak bN w' => ∃ (U : List Int) (B : List Int) (v : List Int) (n : Int), bN = .int .i64 n ∧ Aside0 (pPairs.l1 φ kq U B v (rd c o) c (c.length : Int) o m (m.length : Int) n E y F G I J z K O P = some (r1, r2)) ∧ Aside0 (kq ≤ k1) ∧ Aside0 (Kd.R (Kd.int .i64) 3 w' w.heap.size (fun a => (w.heap.size ≤ a) ∧ some a ≠ aj.ownBlock ∧ some a ≠ ak.ownBlock ∧ some a ≠ ((.slice (some u) c.length p) : Value).ownBlock ∧ some a ≠ ((.slice aG m.length A) : Value).ownBlock) ai U) ∧ Aside0 (Kd.R (Kd.int .i64) 3 w' w.heap.size (fun a => (w.heap.size ≤ a) ∧ some a ≠ ai.ownBlock ∧ some a ≠ ak.ownBlock ∧ some a ≠ ((.slice (some u) c.length p) : Value).ownBlock ∧ some a ≠ ((.slice aG m.length A) : Value).ownBlock) aj B) ∧ Aside0 (Kd.R (Kd.int .i64) 3 w' w.heap.size (fun a => (w.heap.size ≤ a) ∧ some a ≠ ai.ownBlock ∧ some a ≠ aj.ownBlock ∧ some a ≠ ((.slice (some u) c.length p) : Value).ownBlock ∧ some a ≠ ((.slice aG m.length A) : Value).ownBlock) ak v) ∧ Aside0 (Kd.R (Kd.int .i64) 3 w' w.heap.size (fun a => (w.heap.size ≤ a) ∧ some a ≠ ai.ownBlock ∧ some a ≠ aj.ownBlock ∧ some a ≠ ak.ownBlock ∧ some a ≠ ((.slice aG m.length A) : Value).ownBlock) (.slice (some u) c.length p) c) ∧ Aside0 (Kd.R (Kd.int .i64) 3 w' w.heap.size (fun a => (w.heap.size ≤ a) ∧ some a ≠ ai.ownBlock ∧ some a ≠ aj.ownBlock ∧ some a ≠ ak.ownBlock ∧ some a ≠ ((.slice (some u) c.length p) : Value).ownBlock) (.slice aG m.length A) m) ∧ Aside0 (w'.heap[q]? = some (.cells #[.int .i64 al, (.slice av Z.length c0_1), .int .i64 am, .int .i64 an, .int .i64 ao] 61 (0, 0))) ∧ Aside0 (w'.heap[r]? = some (.cells #[.int .i64 E, (.slice aw y.length c1_1), .int .i64 F, .int .i64 G, .int .i64 I] 61 (0, 0))) ∧ Aside0 (w'.heap[s]? = some (.cells #[.int .i64 J, (.slice aE z.length c2_1), .int .i64 K, .int .i64 O, .int .i64 P] 61 (0, 0))) ∧ Aside0 (Below w.heap.size w w'))
  case atStart => exact ⟨(V), (W), (X), (0), eq_, H', ⟨lr_ _⟩, ⟨by refine vR_ ?_; exact rm_ HO_10.out (fun _ hk => ⟨hk.1.1, ⟨hk.1.2.1, ⟨hk.1.2.2.1, ⟨hk.1.2.2.2, hk.2⟩⟩⟩⟩)⟩, ⟨by refine vR_ ?_; exact rm_ HO_11.out (fun _ hk => ⟨hk.1.1, ⟨hk.1.2.1, ⟨hk.1.2.2.1, ⟨hk.1.2.2.2, hk.2⟩⟩⟩⟩)⟩, ⟨by refine vR_ ?_; exact rm_ HO_12.out (fun _ hk => ⟨hk.1.1, ⟨hk.1.2.1, ⟨hk.1.2.2.1, ⟨hk.1.2.2.2, hk.2⟩⟩⟩⟩)⟩, ⟨by refine vR_ ?_; exact rm_ HO_20.out (fun _ hk => ⟨hk.1.1, ⟨hk.1.2.1, ⟨hk.1.2.2.1, ⟨hk.1.2.2.2, hk.2⟩⟩⟩⟩)⟩, ⟨by refine vR_ ?_; exact rm_ a4.out (fun _ hk => ⟨hk.1.1.1.1.1, ⟨hk.1.1.1.2, ⟨hk.1.1.2, ⟨hk.1.2, hk.2⟩⟩⟩⟩)⟩, ⟨bk_ d.out⟩, ⟨bk_ g.out⟩, ⟨bk_ l.out⟩, ⟨bel_⟩⟩
  clear H'
  try clear c1
  try clear c2
  try clear p2
  try clear p4
  try clear q4
  try clear ce
  try clear c9
  try clear c10
  try clear c14
  try clear c14b0
  try clear c15
  try clear c15b0
  try clear c16
  try clear c16b0
  try clear c18
  try clear c19
  try clear a7
  try clear p2
  try clear p434
  try clear aN
  obtain ⟨U, B, v, n, rfl, HA, aA, HO_10, HO_11, HO_12, HO_20, HO_27, d, g, l, HB⟩ := hrel
  cases gk with
  | zero => exact absurd HA.out (by simp [pPairs.l1])
  | succ k2 =>
   have H := HA.out
   clear HA
   simp only [pPairs.l1] at H
   by_cases c23 : n < (m.length : Int)
   rotate_left
   ·
    rw [ig_ c23] at H
    have c23b0 : decide (n < (m.length : Int)) = false := df_ c23
    clear c23
    have H' := a_ H
    clear H
    go_wp2
    go_roundg k2
    case measure => have := az.out; have := aA.out; omega
    exact ⟨(U), (B), (v), (wrap64 (o + 1)), eq_, H', ⟨by have := az.out; have := aA.out; omega⟩, ⟨by refine vR_ ?_; exact rm_ HO_10.out (fun _ hk => ⟨hk.1, ⟨hk.2.1, ⟨hk.2.2.1, hk.2.2.2.1⟩⟩⟩)⟩, ⟨by refine vR_ ?_; exact rm_ HO_11.out (fun _ hk => ⟨hk.1, ⟨hk.2.1, ⟨hk.2.2.1, hk.2.2.2.1⟩⟩⟩)⟩, ⟨by refine vR_ ?_; exact rm_ HO_12.out (fun _ hk => ⟨hk.1, ⟨hk.2.1, ⟨hk.2.2.1, hk.2.2.2.1⟩⟩⟩)⟩, ⟨by refine vR_ ?_; exact rm_ HO_20.out (fun _ hk => ⟨hk.1, ⟨hk.2.1, ⟨hk.2.2.1, hk.2.2.2.1⟩⟩⟩)⟩, ⟨bk_ d.out⟩, ⟨bk_ g.out⟩, ⟨bk_ l.out⟩, ⟨bel_⟩⟩
   rw [ip_ c23] at H
   have c23b0 : decide (n < (m.length : Int)) = true := dt_ c23
   clear c23
   by_cases c24 : 0 ≤ n
   rotate_left
   ·
    rw [ig_ c24] at H
    exact ab_ H
   rw [ip_ c24] at H
   have c24b0 : decide (0 ≤ n) = true := dt_ c24
   clear c24
   by_cases c25 : n < (m.length : Int)
   rotate_left
   ·
    rw [ig_ c25] at H
    exact ab_ H
   rw [ip_ c25] at H
   have c25b0 : decide (n < (m.length : Int)) = true := dt_ c25
   clear c25
   replace H := bs_.mp H
   obtain ⟨⟨aa, bD⟩, a8, H⟩ := H
   try dsimp only at H
   have a9 := a_ a8
   clear a8
   by_cases c27 : bD = true
   rotate_left
   ·
    replace c27 := bf_.mpr c27
    subst c27
    have H1 : (pPairs.l1 φ k2 U B v (rd c o) c (c.length : Int) o m (m.length : Int) (wrap64 (n + 1)) E y F G I J z K O P) = some (r1, r2) := by rw [ig_ (show ¬ (false = true) by decide)] at H; exact H
    clear H
    have H := H1
    clear H1
    have H' := a_ H
    clear H
    have p438 : 0 ≤ (n : Int) := dq_
    have Y : n < (m.length : Int) := dq_
    obtain ⟨x, aH, aM⟩ := ai_ (rr_ HO_27.out).2.2 n p438 Y
    cases aH
    replace p438 := et_ p438
    replace Y := et_ Y
    go_wp2_with (first | ((with_reducible refine (hF k2 (rd c o) (rd m n) aa false _ a9.out).mono ?_); rintro e w' ⟨rfl, ⟨nd, rfl⟩⟩))
    go_roundg k2
    case measure => have := az.out; have := aA.out; omega
    exact ⟨(U), (B), (v), (wrap64 (n + 1)), eq_, H', ⟨by have := az.out; have := aA.out; omega⟩, ⟨vR_ HO_10.out⟩, ⟨vR_ HO_11.out⟩, ⟨vR_ HO_12.out⟩, ⟨vR_ HO_20.out⟩, ⟨vR_ HO_27.out⟩, ⟨bk_ d.out⟩, ⟨bk_ g.out⟩, ⟨bk_ l.out⟩, ⟨bel_⟩⟩
   subst c27
   rw [ip_ rfl] at H
   replace H := bo_ H
   obtain ⟨bE, bz, H⟩ := H
   try dsimp only at H
   by_cases c29 : bE = true
   rotate_left
   ·
    replace c29 := bf_.mpr c29
    subst c29
    have H1 : (pPairs.l1 φ k2 U B v (rd c o) c (c.length : Int) o m (m.length : Int) (wrap64 (n + 1)) E y F G I J z K O P) = some (r1, r2) := by rw [ig_ (show ¬ (false = true) by decide)] at H; exact H
    clear H
    have H := H1
    clear H1
    have H' := a_ H
    clear H
    have p438 : 0 ≤ (n : Int) := dq_
    have Y : n < (m.length : Int) := dq_
    obtain ⟨x, aH, aM⟩ := ai_ (rr_ HO_27.out).2.2 n p438 Y
    cases aH
    replace p438 := et_ p438
    replace Y := et_ Y
    go_wp2_with (first | ((with_reducible refine (hF k2 (rd c o) (rd m n) aa true _ a9.out).mono ?_); rintro e w' ⟨rfl, ⟨nd, rfl⟩⟩; have b2 := ae.out; have b3 := ad.out; have b4 := ag.out; have b5 := af.out; obtain ⟨_, _, _, _, _, _, _, _, _, _⟩ := cel5_ l.out) | (go_at_call 25; (with_reducible refine (dom_Dom_Has.calls J _ _ z K O P aa false _ ?side1 ?side2 bz.out).mono ?_); (case side1 => repeat (first | exact (cb_ a1.out bel_) | (with_reducible refine Kd.C_alloc ?_ _) | (with_reducible refine Kd.C_drewN ?_ _) | (with_reducible refine Kd.C_drew ?_))); (case side2 => exact a2.out); rintro e w43 ⟨rfl, hb⟩; replace HO_10 := a_ (rb_ (vR_ HO_10.out) hb); replace HO_11 := a_ (rb_ (vR_ HO_11.out) hb); replace HO_12 := a_ (rb_ (vR_ HO_12.out) hb); replace HO_20 := a_ (rb_ (vR_ HO_20.out) hb); replace HO_27 := a_ (rb_ (vR_ HO_27.out) hb); replace d := a_ (bq_ d.out hb); replace g := a_ (bq_ g.out hb); replace l := a_ (bq_ l.out hb); replace HB := hq_ hb; clear hb))
    go_roundg k2
    case measure => have := az.out; have := aA.out; omega
    exact ⟨(U), (B), (v), (wrap64 (n + 1)), eq_, H', ⟨by have := az.out; have := aA.out; omega⟩, ⟨vR_ HO_10.out⟩, ⟨vR_ HO_11.out⟩, ⟨vR_ HO_12.out⟩, ⟨vR_ HO_20.out⟩, ⟨vR_ HO_27.out⟩, ⟨bk_ d.out⟩, ⟨bk_ g.out⟩, ⟨bk_ l.out⟩, ⟨bel_⟩⟩
   subst c29
   rw [ip_ rfl] at H
   by_cases c30 : U.length < 17592186044416
   rotate_left
   ·
    rw [ig_ c30] at H
    exact ab_ H
   rw [ip_ c30] at H
   have LMc30 := a_ c30
   clear c30
   obtain ⟨aQ, ap⟩ : ∃ y_ : List Int, y_ = (U ++ [(rd c o)]) := ⟨_, rfl⟩
   replace H : (if B.length < 17592186044416 then (if v.length < 17592186044416 then (pPairs.l1 φ k2 aQ (B ++ [rd m n]) (v ++ [aa]) (rd c o) c (c.length : Int) o m (m.length : Int) (wrap64 (n + 1)) E y F G I J z K O P) else (none)) else (none)) = some (r1, r2) := h2_ H ap
   have br := a_ ap
   clear ap
   by_cases c31 : B.length < 17592186044416
   rotate_left
   ·
    rw [ig_ c31] at H
    exact ab_ H
   rw [ip_ c31] at H
   have LMc31 := a_ c31
   clear c31
   obtain ⟨aU, aq⟩ : ∃ y_ : List Int, y_ = (B ++ [rd m n]) := ⟨_, rfl⟩
   replace H : (if v.length < 17592186044416 then (pPairs.l1 φ k2 aQ aU (v ++ [aa]) (rd c o) c (c.length : Int) o m (m.length : Int) (wrap64 (n + 1)) E y F G I J z K O P) else (none)) = some (r1, r2) := h2_ H aq
   have bs := a_ aq
   clear aq
   by_cases c32 : v.length < 17592186044416
   rotate_left
   ·
    rw [ig_ c32] at H
    exact ab_ H
   rw [ip_ c32] at H
   have LMc32 := a_ c32
   clear c32
   obtain ⟨ba, ar⟩ : ∃ y_ : List Int, y_ = (v ++ [aa]) := ⟨_, rfl⟩
   replace H : (pPairs.l1 φ k2 aQ aU ba (rd c o) c (c.length : Int) o m (m.length : Int) (wrap64 (n + 1)) E y F G I J z K O P) = some (r1, r2) := h2_ H ar
   have bu := a_ ar
   clear ar
   have H' := a_ H
   clear H
   have p438 : 0 ≤ (n : Int) := dq_
   have Y : n < (m.length : Int) := dq_
   obtain ⟨x, aH, aM⟩ := ai_ (rr_ HO_27.out).2.2 n p438 Y
   cases aH
   replace p438 := et_ p438
   replace Y := et_ Y
   go_wp2_with (first | ((with_reducible refine (hF k2 (rd c o) (rd m n) aa true _ a9.out).mono ?_); rintro e w' ⟨rfl, ⟨nd, rfl⟩⟩; have bY := ae.out; have bZ := ad.out; have b0 := ag.out; have b1 := af.out; obtain ⟨_, _, _, _, _, _, _, _, _, _⟩ := cel5_ l.out) | (go_at_call 25; (with_reducible refine (dom_Dom_Has.calls J _ _ z K O P aa true _ ?side1 ?side2 bz.out).mono ?_); (case side1 => repeat (first | exact (cb_ a1.out bel_) | (with_reducible refine Kd.C_alloc ?_ _) | (with_reducible refine Kd.C_drewN ?_ _) | (with_reducible refine Kd.C_drew ?_))); (case side2 => exact a2.out); rintro e w36 ⟨rfl, hb⟩; replace HO_10 := a_ (rb_ (vR_ HO_10.out) hb); replace HO_11 := a_ (rb_ (vR_ HO_11.out) hb); replace HO_12 := a_ (rb_ (vR_ HO_12.out) hb); replace HO_20 := a_ (rb_ (vR_ HO_20.out) hb); replace HO_27 := a_ (rb_ (vR_ HO_27.out) hb); replace d := a_ (bq_ d.out hb); replace g := a_ (bq_ g.out hb); replace l := a_ (bq_ l.out hb); replace HB := hq_ hb; clear hb) | ((with_reducible refine gate_builtin (b := .append) (xs := #[.tmp 46, .tmp 48]) rfl ?_); at_builtin; refine Kd.R_append (Kd.int .i64) (w0 := w) w.heap.size rfl (.tmp 46) (.tmp 48) 30 3 (.int .i64 0) 8 rfl Tryz.underlying30 info3 rfl (by decide) (by omega) u10 U (rd c o) [.int .i64 (rd c o)] (fun a => (w.heap.size ≤ a) ∧ some a ≠ u11.ownBlock ∧ some a ≠ u12.ownBlock ∧ some a ≠ (.slice (some u) c.length p : Value).ownBlock ∧ some a ≠ (.slice (some x) m.length A : Value).ownBlock) (fun _ => False) rfl rfl ?aP (fun _ hk => hk.elim) ?aF ?aO ?aB ?aS ?aL ?_; (case aP => exact rfl); (case aB => exact bel_); (case aF => exact (fun a hk => ⟨(Nat.le_trans (bz_ bel_) hk), fr_ (rl_ (vR_ HO_11.out)) a hk, fr_ (rl_ (vR_ HO_12.out)) a hk, fr_ (rl_ (vR_ HO_20.out)) a hk, fr_ (rl_ (vR_ HO_27.out)) a hk⟩)); (case aO => exact (vR_ HO_10.out)); (case aS => exact (bz_ bel_)); (case aL => have := LMc30.out; omega); intro ah w37 ho hb hg hat; rw [← br.out] at ho; replace HO_11 := a_ (Kd.R_after (ok := (fun a => (w.heap.size ≤ a) ∧ some a ≠ u12.ownBlock ∧ some a ≠ (.slice (some u) c.length p : Value).ownBlock ∧ some a ≠ (.slice (some x) m.length A : Value).ownBlock)) (by refine vR_ ?_; exact rm_ HO_11.out (fun _ hk => ⟨⟨hk.1, ⟨hk.2.2.1, ⟨hk.2.2.2.1, hk.2.2.2.2⟩⟩⟩, hk.2.1⟩)) hg hat); replace HO_12 := a_ (Kd.R_after (ok := (fun a => (w.heap.size ≤ a) ∧ some a ≠ u11.ownBlock ∧ some a ≠ (.slice (some u) c.length p : Value).ownBlock ∧ some a ≠ (.slice (some x) m.length A : Value).ownBlock)) (by refine vR_ ?_; exact rm_ HO_12.out (fun _ hk => ⟨⟨hk.1, ⟨hk.2.2.1, ⟨hk.2.2.2.1, hk.2.2.2.2⟩⟩⟩, hk.2.1⟩)) hg hat); replace HO_20 := a_ (Kd.R_after (ok := (fun a => (w.heap.size ≤ a) ∧ some a ≠ u11.ownBlock ∧ some a ≠ u12.ownBlock ∧ some a ≠ (.slice (some x) m.length A : Value).ownBlock)) (by refine vR_ ?_; exact rm_ HO_20.out (fun _ hk => ⟨⟨hk.1, ⟨hk.2.2.1, ⟨hk.2.2.2.1, hk.2.2.2.2⟩⟩⟩, hk.2.1⟩)) hg hat); replace HO_27 := a_ (Kd.R_after (ok := (fun a => (w.heap.size ≤ a) ∧ some a ≠ u11.ownBlock ∧ some a ≠ u12.ownBlock ∧ some a ≠ (.slice (some u) c.length p : Value).ownBlock)) (by refine vR_ ?_; exact rm_ HO_27.out (fun _ hk => ⟨⟨hk.1, ⟨hk.2.2.1, ⟨hk.2.2.2.1, hk.2.2.2.2⟩⟩⟩, hk.2.1⟩)) hg hat); replace d := a_ (blk_grown (bk_ d.out) hg (Kd.R_ne HO_10.out d.out (by decide))); replace g := a_ (blk_grown (bk_ g.out) hg (Kd.R_ne HO_10.out g.out (by decide))); replace l := a_ (blk_grown (bk_ l.out) hg (Kd.R_ne HO_10.out l.out (by decide))); replace HB := a_ (hb); have ab := a_ (ho); clear HO_10; clear ho hb hg hat) | ((with_reducible refine gate_builtin (b := .append) (xs := #[.tmp 50, .tmp 52]) rfl ?_); at_builtin; refine Kd.R_append (Kd.int .i64) (w0 := w) w.heap.size rfl (.tmp 50) (.tmp 52) 30 3 (.int .i64 0) 8 rfl Tryz.underlying30 info3 rfl (by decide) (by omega) u11 B (rd m n) [.int .i64 (rd m n)] (fun a => (w.heap.size ≤ a) ∧ some a ≠ u12.ownBlock ∧ some a ≠ (.slice (some u) c.length p : Value).ownBlock ∧ some a ≠ (.slice (some x) m.length A : Value).ownBlock ∧ some a ≠ ah.ownBlock) (fun _ => False) rfl rfl ?aP (fun _ hk => hk.elim) ?aF ?aO ?aB ?aS ?aL ?_; (case aP => exact rfl); (case aB => exact bel_); (case aF => exact (fun a hk => ⟨(Nat.le_trans (bz_ bel_) hk), fr_ (rl_ (vR_ HO_12.out)) a hk, fr_ (rl_ (vR_ HO_20.out)) a hk, fr_ (rl_ (vR_ HO_27.out)) a hk, fr_ (rl_ (vR_ ab.out)) a hk⟩)); (case aO => exact (by refine vR_ ?_; exact rm_ HO_11.out (fun _ hk => ⟨hk.1.1, ⟨hk.1.2.1, ⟨hk.1.2.2.1, ⟨hk.1.2.2.2, hk.2⟩⟩⟩⟩))); (case aS => exact (bz_ bel_)); (case aL => have := LMc31.out; omega); intro aR w38 ho hb hg hat; rw [← bs.out] at ho; replace HO_12 := a_ (Kd.R_after (ok := (fun a => (w.heap.size ≤ a) ∧ some a ≠ (.slice (some u) c.length p : Value).ownBlock ∧ some a ≠ (.slice (some x) m.length A : Value).ownBlock ∧ some a ≠ ah.ownBlock)) (by refine vR_ ?_; exact rm_ HO_12.out (fun _ hk => ⟨⟨hk.1.1, ⟨hk.1.2.2.1, ⟨hk.1.2.2.2, hk.2⟩⟩⟩, hk.1.2.1⟩)) hg hat); replace HO_20 := a_ (Kd.R_after (ok := (fun a => (w.heap.size ≤ a) ∧ some a ≠ u12.ownBlock ∧ some a ≠ (.slice (some x) m.length A : Value).ownBlock ∧ some a ≠ ah.ownBlock)) (by refine vR_ ?_; exact rm_ HO_20.out (fun _ hk => ⟨⟨hk.1.1, ⟨hk.1.2.2.1, ⟨hk.1.2.2.2, hk.2⟩⟩⟩, hk.1.2.1⟩)) hg hat); replace HO_27 := a_ (Kd.R_after (ok := (fun a => (w.heap.size ≤ a) ∧ some a ≠ u12.ownBlock ∧ some a ≠ (.slice (some u) c.length p : Value).ownBlock ∧ some a ≠ ah.ownBlock)) (by refine vR_ ?_; exact rm_ HO_27.out (fun _ hk => ⟨⟨hk.1.1, ⟨hk.1.2.2.1, ⟨hk.1.2.2.2, hk.2⟩⟩⟩, hk.1.2.1⟩)) hg hat); replace d := a_ (blk_grown (bk_ d.out) hg (Kd.R_ne HO_11.out d.out (by decide))); replace g := a_ (blk_grown (bk_ g.out) hg (Kd.R_ne HO_11.out g.out (by decide))); replace l := a_ (blk_grown (bk_ l.out) hg (Kd.R_ne HO_11.out l.out (by decide))); replace ab := a_ (Kd.R_after (ok := (fun a => (w.heap.size ≤ a) ∧ some a ≠ u12.ownBlock ∧ some a ≠ (.slice (some u) c.length p : Value).ownBlock ∧ some a ≠ (.slice (some x) m.length A : Value).ownBlock)) (by refine vR_ ?_; exact rm_ ab.out (fun _ hk => ⟨⟨hk.1, ⟨hk.2.2.1, ⟨hk.2.2.2.1, hk.2.2.2.2⟩⟩⟩, hk.2.1⟩)) hg hat); replace HB := a_ (hb); have aC := a_ (ho); clear HO_11; clear ho hb hg hat) | ((with_reducible refine gate_builtin (b := .append) (xs := #[.tmp 54, .tmp 56]) rfl ?_); at_builtin; refine Kd.R_append (Kd.int .i64) (w0 := w) w.heap.size rfl (.tmp 54) (.tmp 56) 30 3 (.int .i64 0) 8 rfl Tryz.underlying30 info3 rfl (by decide) (by omega) u12 v aa [.int .i64 aa] (fun a => (w.heap.size ≤ a) ∧ some a ≠ (.slice (some u) c.length p : Value).ownBlock ∧ some a ≠ (.slice (some x) m.length A : Value).ownBlock ∧ some a ≠ ah.ownBlock ∧ some a ≠ aR.ownBlock) (fun _ => False) rfl rfl ?aP (fun _ hk => hk.elim) ?aF ?aO ?aB ?aS ?aL ?_; (case aP => exact rfl); (case aB => exact bel_); (case aF => exact (fun a hk => ⟨(Nat.le_trans (bz_ bel_) hk), fr_ (rl_ (vR_ HO_20.out)) a hk, fr_ (rl_ (vR_ HO_27.out)) a hk, fr_ (rl_ (vR_ ab.out)) a hk, fr_ (rl_ (vR_ aC.out)) a hk⟩)); (case aO => exact (by refine vR_ ?_; exact rm_ HO_12.out (fun _ hk => ⟨hk.1.1, ⟨hk.1.2.1, ⟨hk.1.2.2.1, ⟨hk.1.2.2.2, hk.2⟩⟩⟩⟩))); (case aS => exact (bz_ bel_)); (case aL => have := LMc32.out; omega); intro cb w39 ho hb hg hat; rw [← bu.out] at ho; replace HO_20 := a_ (Kd.R_after (ok := (fun a => (w.heap.size ≤ a) ∧ some a ≠ (.slice (some x) m.length A : Value).ownBlock ∧ some a ≠ ah.ownBlock ∧ some a ≠ aR.ownBlock)) (by refine vR_ ?_; exact rm_ HO_20.out (fun _ hk => ⟨⟨hk.1.1, ⟨hk.1.2.2.1, ⟨hk.1.2.2.2, hk.2⟩⟩⟩, hk.1.2.1⟩)) hg hat); replace HO_27 := a_ (Kd.R_after (ok := (fun a => (w.heap.size ≤ a) ∧ some a ≠ (.slice (some u) c.length p : Value).ownBlock ∧ some a ≠ ah.ownBlock ∧ some a ≠ aR.ownBlock)) (by refine vR_ ?_; exact rm_ HO_27.out (fun _ hk => ⟨⟨hk.1.1, ⟨hk.1.2.2.1, ⟨hk.1.2.2.2, hk.2⟩⟩⟩, hk.1.2.1⟩)) hg hat); replace d := a_ (blk_grown (bk_ d.out) hg (Kd.R_ne HO_12.out d.out (by decide))); replace g := a_ (blk_grown (bk_ g.out) hg (Kd.R_ne HO_12.out g.out (by decide))); replace l := a_ (blk_grown (bk_ l.out) hg (Kd.R_ne HO_12.out l.out (by decide))); replace ab := a_ (Kd.R_after (ok := (fun a => (w.heap.size ≤ a) ∧ some a ≠ (.slice (some u) c.length p : Value).ownBlock ∧ some a ≠ (.slice (some x) m.length A : Value).ownBlock ∧ some a ≠ aR.ownBlock)) (by refine vR_ ?_; exact rm_ ab.out (fun _ hk => ⟨⟨hk.1.1, ⟨hk.1.2.2.1, ⟨hk.1.2.2.2, hk.2⟩⟩⟩, hk.1.2.1⟩)) hg hat); replace aC := a_ (Kd.R_after (ok := (fun a => (w.heap.size ≤ a) ∧ some a ≠ (.slice (some u) c.length p : Value).ownBlock ∧ some a ≠ (.slice (some x) m.length A : Value).ownBlock ∧ some a ≠ ah.ownBlock)) (by refine vR_ ?_; exact rm_ aC.out (fun _ hk => ⟨⟨hk.1, ⟨hk.2.2.1, ⟨hk.2.2.2.1, hk.2.2.2.2⟩⟩⟩, hk.2.1⟩)) hg hat); replace HB := a_ (hb); have bv := a_ (ho); clear HO_12; clear ho hb hg hat))
   go_roundg k2
   case measure => have := az.out; have := aA.out; omega
   exact ⟨(aQ), (aU), (ba), (wrap64 (n + 1)), eq_, H', ⟨by have := az.out; have := aA.out; omega⟩, ⟨by refine vR_ ?_; exact rm_ ab.out (fun _ hk => ⟨hk.1.1, ⟨hk.1.2.2.2, ⟨hk.2, ⟨hk.1.2.1, hk.1.2.2.1⟩⟩⟩⟩)⟩, ⟨by refine vR_ ?_; exact rm_ aC.out (fun _ hk => ⟨hk.1.1, ⟨hk.1.2.2.2, ⟨hk.2, ⟨hk.1.2.1, hk.1.2.2.1⟩⟩⟩⟩)⟩, ⟨by refine vR_ ?_; exact rm_ bv.out (fun _ hk => ⟨hk.1, ⟨hk.2.2.2.1, ⟨hk.2.2.2.2, ⟨hk.2.1, hk.2.2.1⟩⟩⟩⟩)⟩, ⟨by refine vR_ ?_; exact rm_ HO_20.out (fun _ hk => ⟨hk.1.1, ⟨hk.1.2.2.1, ⟨hk.1.2.2.2, ⟨hk.2, hk.1.2.1⟩⟩⟩⟩)⟩, ⟨by refine vR_ ?_; exact rm_ HO_27.out (fun _ hk => ⟨hk.1.1, ⟨hk.1.2.2.1, ⟨hk.1.2.2.2, ⟨hk.2, hk.1.2.1⟩⟩⟩⟩)⟩, ⟨bk_ d.out⟩, ⟨bk_ g.out⟩, ⟨bk_ l.out⟩, ⟨bel_⟩⟩
 )
end Go.Proofs.YtbhhbgoamomacaaGreatDoor.XMulRefuses
