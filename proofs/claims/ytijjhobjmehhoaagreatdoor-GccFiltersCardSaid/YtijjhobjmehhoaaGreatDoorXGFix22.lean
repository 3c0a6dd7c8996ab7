-- by xprint.py, a program of this session, over the kit's print
import Derived.Test.YtijjhobjmehhoaaGreatDoorXGFix0
import Derived.Test.YtijjhobjmehhoaaGreatDoorXGFix1
import Derived.Test.YtijjhobjmehhoaaGreatDoorXGFix3
import Derived.Test.YtijjhobjmehhoaaGreatDoorXGFix20
import Derived.Test.YtijjhobjmehhoaaGreatDoorXGFix21
import Derived.Test.YtijjhobjmehhoaaGreatDoorSq
namespace Go.Proofs.YtijjhobjmehhoaaGreatDoor.XGccFilters
open Go.RowKit Go.Proofs.YtijjhobjmehhoaaGreatDoor.Sq Go.Proofs.YtijjhobjmehhoaaGreatDoorW.PrintWords Go.Proofs.YtijjhobjmehhoaaGreatDoorW.PrintLast Go.Proofs.YtijjhobjmehhoaaGreatDoorW.PrintMore
attribute [local go_sem] max2_int min2_int max_two min_two max_three min_three max_four min_four   -- for this text's walks alone
set_option linter.unusedVariables false
set_option linter.unusedSimpArgs false

/-! ### jigsawref06_Right: function 35 -/
def jigsawref06_Right.f (k : Nat) (a : Int) (b : List Int) (c : List Int) (d : List Int) (e : List Int) (g : List Int) (l : Int) (m : List (List Int)) (o : Int) : Option (Int) := if a < 1 then (none) else (if a > 23 then (none) else ((jigsawref06_Shapes.f).bind fun n => (if 0 ≤ a then (if a < (n.length : Int) then ((jigsawref06_Arity.f k a b c d e g l m (rdOf ByteArray.empty n a)).bind fun p => (if p = true then (if o > 0 then ((jigsawref06_in.f k b 0 (wrap64 (o - 1))).bind fun q => ((jigsawref06_in.f k c 0 (wrap64 (o - 1))).bind fun r => (if q = true then (if r = true then ((jigsawref06_Coefs.f k a b c d e g l m).bind fun s => (if s = true then (some 0) else (none))) else (none)) else (none)))) else (none)) else (none))) else (none)) else (none))))
theorem jigsawref06_Right.mono : ∀ a b c d e g l m n k, LeO (jigsawref06_Right.f k a b c d e g l m n) (jigsawref06_Right.f (k + 1) a b c d e g l m n) := by
 intro a b c d e g l m n k
 unfold jigsawref06_Right.f
 have m0 := @jigsawref06_Arity.mono
 have m1 := @jigsawref06_Coefs.mono
 have m2 := @jigsawref06_in.mono
 exact leo_
def jigsawref06_Right.T4 : Bool × List (List Nat × List Nat) := (true, [([], []), ([], []), ([], []), ([2], [2]), ([1, 3], [1, 3]), ([4], [4]), ([0, 5], [0, 5]), ([6, 6, 0, 1, 2, 3, 4, 5, 6], [6])])
def jigsawref06_Right.B4 : List Nat := [0, 0, 0, 4, 14, 30, 63, 127]
theorem jigsawref06_Right.tab4 : rtab .any (opsOf Tryz.f35 4) = jigsawref06_Right.T4 := by kernel_rfl
theorem jigsawref06_Right.bits4 : waitsOk jigsawref06_Right.T4.2 jigsawref06_Right.B4 = true := by kernel_rfl
set_option maxHeartbeats 8000000 in
set_option maxRecDepth 100000 in
theorem jigsawref06_Right.calls (k : Nat) (a : Int) (s : Option Addr) (c0_1 : Nat) (c : List Int) (u : Option Addr) (c0_2 : Nat) (d : List Int) (y : Option Addr) (c0_3 : Nat) (l : List Int) (z : Option Addr) (c0_4 : Nat) (m : List Int) (A : Option Addr) (c0_5 : Nat) (o : List Int) (q : Int) (B : Option Addr) (c0_7 : Nat) (p : List (List Int)) (M : Int) (r : Int) (w : World) (P : Kd.C (Kd.int .i64) w s c.length c) (Q : c.length ≤ c0_1) (U : Kd.C (Kd.int .i64) w u d.length d) (V : d.length ≤ c0_2) (W : Kd.C (Kd.int .i64) w y l.length l) (X : l.length ≤ c0_3) (Y : Kd.C (Kd.int .i64) w z m.length m) (Z : m.length ≤ c0_4) (aa : Kd.C (Kd.int .i64) w A o.length o) (ab : o.length ≤ c0_5) (ac : Kd.C (Kd.slice 3 (Kd.int .i64)) w B p.length p) (ad : p.length ≤ c0_7) (h : jigsawref06_Right.f k a c d l m o q p M = some r) :
  Calls Tryz.prog 35 #[.agg #[.int .i64 a, .slice s c.length c0_1, .slice u d.length c0_2, .slice y l.length c0_3, .slice z m.length c0_4, .slice A o.length c0_5, .int .i64 q, .slice B p.length c0_7], .int .i64 M] w fun e w' => e = .returned (.int .i64 r) ∧ Below w.heap.size w w' := by
 have hu32 := Tryz.underlying32
 have F := a_ P
 have G := a_ Q
 clear P Q
 have I := a_ U
 have J := a_ V
 clear U V
 have ae := a_ W
 have af := a_ X
 clear W X
 have ag := a_ Y
 have ah := a_ Z
 clear Y Z
 have ai := a_ aa
 have aj := a_ ab
 clear aa ab
 have ak := a_ ac
 have al := a_ ad
 clear ac ad
 have HB := a_ (Below.refl w.heap.size w)
 unfold jigsawref06_Right.f at h
 have H := h
 clear h
 by_cases c3 : a < 1
 ·
  rw [ip_ c3] at H
  exact ab_ H
 rw [ig_ c3] at H
 have c3b0 : decide (a < 1) = false := df_ c3
 clear c3
 by_cases c4 : a > 23
 ·
  rw [ip_ c4] at H
  exact ab_ H
 rw [ig_ c4] at H
 have c4b0 : decide (23 < a) = false := df_ c4
 clear c4
 replace H := bo_ H
 obtain ⟨v, A5, H⟩ := H
 try dsimp only at H
 by_cases c6 : 0 ≤ a
 rotate_left
 ·
  rw [ig_ c6] at H
  exact ab_ H
 rw [ip_ c6] at H
 have c6b0 : decide (0 ≤ a) = true := dt_ c6
 clear c6
 by_cases c7 : a < (v.length : Int)
 rotate_left
 ·
  rw [ig_ c7] at H
  exact ab_ H
 rw [ip_ c7] at H
 have c7b0 : decide (a < (v.length : Int)) = true := dt_ c7
 clear c7
 replace H := bo_ H
 obtain ⟨aq, A8, H⟩ := H
 try dsimp only at H
 by_cases c9 : aq = true
 rotate_left
 ·
  replace c9 := bf_.mpr c9
  subst c9
  have H1 : (none) = some r := by rw [ig_ (show ¬ (false = true) by decide)] at H; exact H
  clear H
  have H := H1
  clear H1
  exact ab_ H
 subst c9
 rw [ip_ rfl] at H
 by_cases c10 : M > 0
 rotate_left
 ·
  rw [ig_ c10] at H
  exact ab_ H
 rw [ip_ c10] at H
 have c10b0 : decide (0 < M) = true := dt_ c10
 clear c10
 replace H := bo_ H
 obtain ⟨ar, ay, H⟩ := H
 try dsimp only at H
 replace H := bo_ H
 obtain ⟨au, az, H⟩ := H
 try dsimp only at H
 by_cases c13 : ar = true
 rotate_left
 ·
  replace c13 := bf_.mpr c13
  subst c13
  have H1 : (none) = some r := by rw [ig_ (show ¬ (false = true) by decide)] at H; exact H
  clear H
  have H := H1
  clear H1
  exact ab_ H
 subst c13
 rw [ip_ rfl] at H
 by_cases c14 : au = true
 rotate_left
 ·
  replace c14 := bf_.mpr c14
  subst c14
  have H1 : (none) = some r := by rw [ig_ (show ¬ (false = true) by decide)] at H; exact H
  clear H
  have H := H1
  clear H1
  exact ab_ H
 subst c14
 rw [ip_ rfl] at H
 replace H := bo_ H
 obtain ⟨av, aA, H⟩ := H
 try dsimp only at H
 by_cases c16 : av = true
 rotate_left
 ·
  replace c16 := bf_.mpr c16
  subst c16
  have H1 : (none) = some r := by rw [ig_ (show ¬ (false = true) by decide)] at H; exact H
  clear H
  have H := H1
  clear H1
  exact ab_ H
 subst c16
 rw [ip_ rfl] at H
 obtain rfl := si_ H
 go_enter Tryz.func35, Tryz.ntmps35
 try go_wp2_with (first | ((with_reducible refine gate_dst (N := 2) rfl ?_); refine bxe_ (N := 2) (cs := #[.int .i64 a, .slice s c.length c0_1, .slice u d.length c0_2, .slice y l.length c0_3, .slice z m.length c0_4, .slice A o.length c0_5, .int .i64 q, .slice B p.length c0_7]) (t := 32) ?_; intro g hg w17 hbox hb; have b := a_ (hbox); have an := a_ (by rw [hg]; exact (bz_ bel_) : w.heap.size ≤ g); have aB := an; replace HB := hq_ hb; clear hb hbox hg; obtain ⟨_, _, _, _, _, _, _, _, _, _, _, _, _, _, _, _⟩ := cel8_ b.out) | ((with_reducible refine gate_callee (f := 36) rfl ?_); refine goesL_ (some 18) rfl rfl Tryz.func36 kr_ rfl #[] rfl ar_ ?_; (with_reducible refine (jigsawref06_Shapes.calls v _ A5.out).mono ?_); rintro e w19 ⟨aE, rfl, ap, hb⟩; refine ⟨_, rfl, ?_⟩; have x := a_ (Kd.R_lower ap (bz_ bel_)); replace b := a_ (bq_ b.out hb); replace HB := hq_ hb; clear hb ap))
 replace x := a_ (Kd.R_drew x.out)
 replace b := a_ (blk_drew b.out)
 replace HB := a_ (below_drew1 HB.out)
 obtain ⟨aF, aG, am⟩ := Kd.R_slice x.out
 (first | subst am | (injection am with f1_ f2_ f3_; have f4_ := f1_.symm; have f5_ := f3_.symm; clear f1_ f2_ f3_; subst f4_; subst f5_))
 have p538 : 0 ≤ (a : Int) := dq_
 have O : a < (v.length : Int) := dq_
 obtain ⟨ao, aw, E⟩ := Kd.at_string (rr_ x.out).2.2 a p538 O
 cases aw
 replace p538 := et_ p538
 replace O := et_ O
 refine start_ (n := 8) (S := fun w' => w'.cell? ⟨g, 0, none⟩ = some (.int .i64 a) ∧ w'.cell? ⟨g, 1, none⟩ = some (.slice s c.length c0_1) ∧ w'.cell? ⟨g, 2, none⟩ = some (.slice u d.length c0_2) ∧ w'.cell? ⟨g, 3, none⟩ = some (.slice y l.length c0_3) ∧ w'.cell? ⟨g, 4, none⟩ = some (.slice z m.length c0_4) ∧ w'.cell? ⟨g, 5, none⟩ = some (.slice A o.length c0_5) ∧ w'.cell? ⟨g, 6, none⟩ = some (.int .i64 q) ∧ w'.cell? ⟨g, 7, none⟩ = some (.slice B p.length c0_7) ∧ w'.cell? (ao.add (a).toNat) = some (.string (rdOf ByteArray.empty v a))) (ds := []) #[false, false, false, false, false, false, false, false] kr_ rfl rfl (cb8_ b.out (E)) (fun hHeld => ?_); refine with_tabW jigsawref06_Right.tab4 jigsawref06_Right.bits4 (fun HT_ HW_ => ?_)
 generalize w19.drew = w20 at x b HB E hHeld ⊢
 refine pn_ 1 20 ao_ ?_
 refine pn_ 2 21 ao_ ?_
 refine tn_ 0 19 tw_ hHeld ?_
 refine tn_ 3 22 tw_ hHeld ?_
 refine pn_ 4 23 ao_ ?_
 refine tn_ 5 24 tw_ hHeld ?_
 refine onn_ 6 25 #[true, true, true, true, true, true, true, false] rfl rfl on_ (by decide) (fun K hK => ?_)
 refine goes_ Tryz.func69 kr_ rfl #[.agg #[.int .i64 a, .slice s c.length c0_1, .slice u d.length c0_2, .slice y l.length c0_3, .slice z m.length c0_4, .slice A o.length c0_5, .int .i64 q, .slice B p.length c0_7], .string (rdOf ByteArray.empty v a)] (by rfl) rfl rfl ar_ ?_
 with_reducible refine (jigsawref06_Arity.calls k a _ _ c _ _ d _ _ l _ _ m _ _ o q _ _ p (rdOf ByteArray.empty v a) true _ ?_ ?_ ?_ ?_ ?_ ?_ ?_ ?_ ?_ ?_ ?_ ?_ A8.out).mono ?_
 exact ca_ ((cb_ F.out HB.out))
 exact G.out
 exact ca_ ((cb_ I.out HB.out))
 exact J.out
 exact ca_ ((cb_ ae.out HB.out))
 exact af.out
 exact ca_ ((cb_ ag.out HB.out))
 exact ah.out
 exact ca_ ((cb_ ai.out HB.out))
 exact aj.out
 exact ca_ ((cb_ ak.out HB.out))
 exact al.out
 rintro e w22 ⟨rfl, hb⟩
 have ax := (hb.cell (wl_ _ _ (hHeld.2.2.2.2.2.2.2.2))).trans (hHeld.2.2.2.2.2.2.2.2)
 refine ⟨_, rfl, ?_⟩
 replace b := a_ (bq_ b.out hb)
 replace HB := hq_ hb
 clear hb
 refine hK.out _ _ (cb8_ b.out (ax)) (fun hHeld => ?_)
 clear hK K
 refine nor_ (N := some 25) ?_
 refine pn_ 7 6 ao_ ?_
 refine done_ dn_ ?_
 obtain ⟨_, _, _, _, _, _, _, _, _, _, _, _, _, _, _, _⟩ := cel8_ b.out
 try go_wp2_with (first | ((with_reducible refine gate_callee (f := 70) rfl ?_); refine goesL_ (some 35) rfl rfl Tryz.func70 kr_ rfl #[.slice s c.length c0_1, .int .i64 0, .int .i64 (wrap64 (M - 1))] rfl ar_ ?_; (with_reducible refine (jigsawref06_in.calls k _ _ c 0 (wrap64 (M - 1)) true _ ?_ ?_ ay.out).mono ?_); exact ca_ ((cb_ F.out HB.out)); exact G.out; rintro e w' ⟨rfl, ⟨nd, rfl⟩⟩; refine ⟨_, rfl, ?_⟩) | ((with_reducible refine gate_callee (f := 70) rfl ?_); refine goesL_ (some 39) rfl rfl Tryz.func70 kr_ rfl #[.slice u d.length c0_2, .int .i64 0, .int .i64 (wrap64 (M - 1))] rfl ar_ ?_; (with_reducible refine (jigsawref06_in.calls k _ _ d 0 (wrap64 (M - 1)) true _ ?side1 ?side2 az.out).mono ?_); (case side1 => repeat (first | exact (cb_ I.out bel_) | (with_reducible refine Kd.C_alloc ?_ _) | (with_reducible refine Kd.C_drewN ?_ _) | (with_reducible refine Kd.C_drew ?_))); (case side2 => exact J.out); rintro e w' ⟨rfl, ⟨nd, rfl⟩⟩; refine ⟨_, rfl, ?_⟩) | ((with_reducible refine gate_callee (f := 71) rfl ?_); refine goesL_ (some 47) rfl rfl Tryz.func71 kr_ rfl #[.agg #[.int .i64 a, .slice s c.length c0_1, .slice u d.length c0_2, .slice y l.length c0_3, .slice z m.length c0_4, .slice A o.length c0_5, .int .i64 q, .slice B p.length c0_7]] rfl ar_ ?_; (with_reducible refine (jigsawref06_Coefs.calls k a _ _ c _ _ d _ _ l _ _ m _ _ o q _ _ p true _ ?side1 ?side2 ?side3 ?side4 ?side5 ?side6 ?side7 ?side8 ?side9 ?side10 ?side11 ?side12 aA.out).mono ?_); (case side1 => repeat (first | exact (cb_ F.out bel_) | (with_reducible refine Kd.C_alloc ?_ _) | (with_reducible refine Kd.C_drewN ?_ _) | (with_reducible refine Kd.C_drew ?_))); (case side2 => exact G.out); (case side3 => repeat (first | exact (cb_ I.out bel_) | (with_reducible refine Kd.C_alloc ?_ _) | (with_reducible refine Kd.C_drewN ?_ _) | (with_reducible refine Kd.C_drew ?_))); (case side4 => exact J.out); (case side5 => repeat (first | exact (cb_ ae.out bel_) | (with_reducible refine Kd.C_alloc ?_ _) | (with_reducible refine Kd.C_drewN ?_ _) | (with_reducible refine Kd.C_drew ?_))); (case side6 => exact af.out); (case side7 => repeat (first | exact (cb_ ag.out bel_) | (with_reducible refine Kd.C_alloc ?_ _) | (with_reducible refine Kd.C_drewN ?_ _) | (with_reducible refine Kd.C_drew ?_))); (case side8 => exact ah.out); (case side9 => repeat (first | exact (cb_ ai.out bel_) | (with_reducible refine Kd.C_alloc ?_ _) | (with_reducible refine Kd.C_drewN ?_ _) | (with_reducible refine Kd.C_drew ?_))); (case side10 => exact aj.out); (case side11 => repeat (first | exact (cb_ ak.out bel_) | (with_reducible refine Kd.C_alloc ?_ _) | (with_reducible refine Kd.C_drewN ?_ _) | (with_reducible refine Kd.C_drew ?_))); (case side12 => exact al.out); rintro e w24 ⟨rfl, hb⟩; refine ⟨_, rfl, ?_⟩; replace HB := hq_ hb; clear hb))
 go_ret
 exact ⟨er_, bel_⟩

/-! ### jigsawref10_Fits: function 17 -/
def jigsawref10_Fits.l0 : Nat → List (List Int) → Int → Option (Bool)
 | 0, _, _ => none
 | k + 1, b, a => if a < (b.length : Int) then (if 0 ≤ a then (if ((rd_L7 b a).length : Int) = 0 then (none) else (jigsawref10_Fits.l0 k b (wrap64 (a + 1)))) else (none)) else (some true)
def jigsawref10_Fits.f (k : Nat) (a : Int) (b : List Int) (c : List Int) (d : List Int) (e : List Int) (g : List Int) (l : Int) (m : List (List Int)) (o : List (List Int)) (p : Int) (q : Int) : Option (Bool) := if a < p then (none) else (if a > q then (none) else (if (o.length : Int) = (wrap64 ((b.length : Int) + (c.length : Int))) then ((jigsawref06_Right.f k a b c d e g l m 256).bind fun n => (if n = 0 then (jigsawref10_Fits.l0 k o 0) else (none))) else (none)))
theorem jigsawref10_Fits.mono_l : ∀ k, (∀ a b, LeO (jigsawref10_Fits.l0 k a b) (jigsawref10_Fits.l0 (k + 1) a b))
 | 0 => by intros; exact LeO.none _
 | k + 1 => by
  have ih0 := jigsawref10_Fits.mono_l k
  intro a b
  unfold jigsawref10_Fits.l0
  have m0 := @jigsawref06_Right.mono
  exact leo_
theorem jigsawref10_Fits.mono : ∀ b c d e g l m n o p a k, LeO (jigsawref10_Fits.f k b c d e g l m n o p a) (jigsawref10_Fits.f (k + 1) b c d e g l m n o p a) := by
 intro b c d e g l m n o p a k
 have ih0 := jigsawref10_Fits.mono_l k
 unfold jigsawref10_Fits.f
 have m0 := @jigsawref06_Right.mono
 exact leo_
set_option maxHeartbeats 8000000 in
set_option maxRecDepth 100000 in
theorem jigsawref10_Fits.calls (k : Nat) (d : Int) (u : Option Addr) (c0_1 : Nat) (b : List Int) (v : Option Addr) (c0_2 : Nat) (c : List Int) (x : Option Addr) (c0_3 : Nat) (g : List Int) (y : Option Addr) (c0_4 : Nat) (l : List Int) (z : Option Addr) (c0_5 : Nat) (m : List Int) (q : Int) (A : Option Addr) (c0_7 : Nat) (n : List (List Int)) (A1 : Option Addr) (c1 : Nat) (o : List (List Int)) (a2 : Int) (a3 : Int) (r : Bool) (w : World) (G : Kd.C (Kd.int .i64) w u b.length b) (I : b.length ≤ c0_1) (J : Kd.C (Kd.int .i64) w v c.length c) (K : c.length ≤ c0_2) (M : Kd.C (Kd.int .i64) w x g.length g) (O : g.length ≤ c0_3) (P : Kd.C (Kd.int .i64) w y l.length l) (Q : l.length ≤ c0_4) (U : Kd.C (Kd.int .i64) w z m.length m) (V : m.length ≤ c0_5) (W : Kd.C (Kd.slice 3 (Kd.int .i64)) w A n.length n) (X : n.length ≤ c0_7) (ap : Kd.C (Kd.slice 3 (Kd.int .i64)) w A1 o.length o) (aq : o.length ≤ c1) (h : jigsawref10_Fits.f k d b c g l m q n o a2 a3 = some r) :
  Calls Tryz.prog 17 #[.agg #[.int .i64 d, .slice u b.length c0_1, .slice v c.length c0_2, .slice x g.length c0_3, .slice y l.length c0_4, .slice z m.length c0_5, .int .i64 q, .slice A n.length c0_7], .slice A1 o.length c1, .int .i64 a2, .int .i64 a3] w fun e w' => e = .returned (.bool r) ∧ Below w.heap.size w w' := by
 have hu32 := Tryz.underlying32
 have ac := a_ G
 have ad := a_ I
 clear G I
 have ae := a_ J
 have af := a_ K
 clear J K
 have ag := a_ M
 have ah := a_ O
 clear M O
 have ai := a_ P
 have aj := a_ Q
 clear P Q
 have ak := a_ U
 have al := a_ V
 clear U V
 have am := a_ W
 have an := a_ X
 clear W X
 have ax := a_ ap
 have aD := a_ aq
 clear ap aq
 have HB := a_ (Below.refl w.heap.size w)
 unfold jigsawref10_Fits.f at h
 have H := h
 clear h
 by_cases c5 : d < a2
 ·
  rw [ip_ c5] at H
  exact ab_ H
 rw [ig_ c5] at H
 have c5b0 : decide (d < a2) = false := df_ c5
 clear c5
 by_cases c6 : d > a3
 ·
  rw [ip_ c6] at H
  exact ab_ H
 rw [ig_ c6] at H
 have c6b0 : decide (a3 < d) = false := df_ c6
 clear c6
 by_cases c7 : (o.length : Int) = (wrap64 ((b.length : Int) + (c.length : Int)))
 rotate_left
 ·
  rw [ig_ c7] at H
  exact ab_ H
 rw [ip_ c7] at H
 have c7b0 : ((o.length : Int) == (wrap64 ((b.length : Int) + (c.length : Int)))) = true := beq_iff_eq.mpr c7
 have c7b1 : ((o.length : Int) != (wrap64 ((b.length : Int) + (c.length : Int)))) = false := bn_.mpr c7
 clear c7
 replace H := bo_ H
 obtain ⟨E, A8, H⟩ := H
 try dsimp only at H
 by_cases c9 : E = 0
 rotate_left
 ·
  rw [ig_ c9] at H
  exact ab_ H
 rw [ip_ c9] at H
 have c9b0 : (E == 0) = true := beq_iff_eq.mpr c9
 have c9b1 : (E != 0) = false := bn_.mpr c9
 clear c9
 have H' := a_ H
 clear H
 go_enter Tryz.func17, Tryz.ntmps17
 go_wp2_with (first | ((with_reducible refine gate_dst (N := 4) rfl ?_); (try (refine gate_guard (by rfl) ?_; dsimp only)); refine bxe_ (N := 4) (cs := #[.int .i64 d, .slice u b.length c0_1, .slice v c.length c0_2, .slice x g.length c0_3, .slice y l.length c0_4, .slice z m.length c0_5, .int .i64 q, .slice A n.length c0_7]) (t := 32) ?_; intro Y hg w10 hbox hb; have p := a_ (hbox); have ao := a_ (by rw [hg]; exact (bz_ bel_) : w.heap.size ≤ Y); have aA := ao; replace HB := hq_ hb; clear hb hbox hg; obtain ⟨_, _, _, _, _, _, _, _, _, _, _, _, _, _, _, _⟩ := cel8_ p.out) | ((with_reducible refine gate_callee (f := 35) rfl ?_); refine goesL_ (some 34) rfl rfl Tryz.func35 kr_ rfl #[.agg #[.int .i64 d, .slice u b.length c0_1, .slice v c.length c0_2, .slice x g.length c0_3, .slice y l.length c0_4, .slice z m.length c0_5, .int .i64 q, .slice A n.length c0_7], .int .i64 256] rfl ar_ ?_; (with_reducible refine (jigsawref06_Right.calls k d _ _ b _ _ c _ _ g _ _ l _ _ m q _ _ n 256 E _ ?_ ?_ ?_ ?_ ?_ ?_ ?_ ?_ ?_ ?_ ?_ ?_ A8.out).mono ?_); exact ca_ ((cb_ ac.out HB.out)); exact ad.out; exact ca_ ((cb_ ae.out HB.out)); exact af.out; exact ca_ ((cb_ ag.out HB.out)); exact ah.out; exact ca_ ((cb_ ai.out HB.out)); exact aj.out; exact ca_ ((cb_ ak.out HB.out)); exact al.out; exact ca_ ((cb_ am.out HB.out)); exact an.out; rintro e w12 ⟨rfl, hb⟩; refine ⟨_, rfl, ?_⟩; replace p := a_ (bq_ p.out hb); replace HB := hq_ hb; clear hb))
 go_loopg [10] k (fun kq ay w' => ∃ (a : Int), ay = .int .i64 a ∧ Aside0 (jigsawref10_Fits.l0 kq o a = some r) ∧ Aside0 (kq ≤ k) ∧ Aside0 (w'.heap[Y]? = some (.cells #[.int .i64 d, (.slice u b.length c0_1), (.slice v c.length c0_2), (.slice x g.length c0_3), (.slice y l.length c0_4), (.slice z m.length c0_5), .int .i64 q, (.slice A n.length c0_7)] 32 (0, 0))) ∧ Aside0 (Below w.heap.size w w'))
 case atStart => exact ⟨(0), eq_, H', ⟨lr_ _⟩, ⟨bk_ p.out⟩, ⟨bel_⟩⟩
 clear H'
 try clear c1
 try clear p2
 try clear c3
 try clear c5
 try clear c5b0
 try clear c6
 try clear c6b0
 try clear p6
 try clear c7
 try clear c7b0
 try clear c7b1
 try clear c9
 try clear c9b0
 try clear c9b1
 obtain ⟨a, rfl, HA, ar, p, HB⟩ := hrel
 cases gk with
 | zero => exact absurd HA.out (by simp [jigsawref10_Fits.l0])
 | succ k1 =>
  have H := HA.out
  clear HA
  simp only [jigsawref10_Fits.l0] at H
  by_cases c13 : a < (o.length : Int)
  rotate_left
  ·
   rw [ig_ c13] at H
   have c13b0 : decide (a < (o.length : Int)) = false := df_ c13
   clear c13
   obtain rfl := si_ H
   go_wp2
   go_ret
   exact ⟨er_, bel_⟩
  rw [ip_ c13] at H
  have c13b0 : decide (a < (o.length : Int)) = true := dt_ c13
  clear c13
  by_cases c14 : 0 ≤ a
  rotate_left
  ·
   rw [ig_ c14] at H
   exact ab_ H
  rw [ip_ c14] at H
  have c14b0 : decide (0 ≤ a) = true := dt_ c14
  clear c14
  by_cases c15 : ((rd_L7 o a).length : Int) = 0
  ·
   rw [ip_ c15] at H
   exact ab_ H
  rw [ig_ c15] at H
  have c15b0 : (((rd_L7 o a).length : Int) == 0) = false := be_.mpr c15
  have c15b1 : (((rd_L7 o a).length : Int) != 0) = true := ni_.mpr c15
  have c15b2 : ¬ ((rd_L7 o a) = []) := fun h_ => c15 (by rw [h_]; rfl)
  have H' := a_ H
  clear H
  have p545 : 0 ≤ (a : Int) := dq_
  have F : a < (o.length : Int) := dq_
  obtain ⟨aB, az, c545_0, au, s, B, Z⟩ := at_L7 ax.out a p545 F
  cases au
  replace s := hx_ HB s
  have av := a_ B
  clear Z B
  replace p545 := et_ p545
  replace F := et_ F
  go_wp2
  go_roundg k1
  case measure => have := ar.out; omega
  exact ⟨(wrap64 (a + 1)), eq_, H', ⟨by have := ar.out; omega⟩, ⟨bk_ p.out⟩, ⟨bel_⟩⟩

/-! ### jigsawref20_Counts: function 31 -/
def jigsawref20_Counts.l0 : Nat → List (List Int) → Int → Int → Int → Int → Option (Int × Int)
 | 0, _, _, _, _, _ => none
 | k + 1, b, c, d, e, a => if a < (b.length : Int) then (if 0 ≤ a then ((jigsawref02_Has.f k (rd_L7 b a) c).bind fun g => (if g = true then (if ((rd_L7 b a).length : Int) = 1 then (jigsawref20_Counts.l0 k b c (wrap64 (d + 1)) (wrap64 (e + 1)) (wrap64 (a + 1))) else (jigsawref20_Counts.l0 k b c d (wrap64 (e + 1)) (wrap64 (a + 1)))) else (jigsawref20_Counts.l0 k b c d e (wrap64 (a + 1))))) else (none)) else (some (d, e))
def jigsawref20_Counts.f (k : Nat) (a : List (List Int)) (b : Int) : Option (Int × Int) := jigsawref20_Counts.l0 k a b 0 0 0
theorem jigsawref20_Counts.mono_l : ∀ k, (∀ a b c d e, LeO (jigsawref20_Counts.l0 k a b c d e) (jigsawref20_Counts.l0 (k + 1) a b c d e))
 | 0 => by intros; exact LeO.none _
 | k + 1 => by
  have ih0 := jigsawref20_Counts.mono_l k
  intro a b c d e
  unfold jigsawref20_Counts.l0
  have m0 := @jigsawref02_Has.mono
  exact leo_
theorem jigsawref20_Counts.mono : ∀ a b k, LeO (jigsawref20_Counts.f k a b) (jigsawref20_Counts.f (k + 1) a b) := by
 intro a b k
 have ih0 := jigsawref20_Counts.mono_l k
 unfold jigsawref20_Counts.f
 have m0 := @jigsawref02_Has.mono
 exact leo_
set_option maxHeartbeats 8000000 in
set_option maxRecDepth 100000 in
theorem jigsawref20_Counts.calls (k : Nat) (P : Option Addr) (c0 : Nat) (d : List (List Int)) (y : Int) (I : Int) (J : Int) (w : World) (K : Kd.C (Kd.slice 3 (Kd.int .i64)) w P d.length d) (M : d.length ≤ c0) (h : jigsawref20_Counts.f k d y = some (I, J)) :
  Calls Tryz.prog 31 #[.slice P d.length c0, .int .i64 y] w fun e w' => e = .returned (.tuple #[.int .i64 I, .int .i64 J]) ∧ Drawn0 w w' := by
 have B := a_ K
 have W := a_ M
 clear K M
 unfold jigsawref20_Counts.f at h
 have H := h
 clear h
 have H' := a_ H
 clear H
 go_enter Tryz.func31, Tryz.ntmps31
 go_wp2
 go_loopg [6, 7, 8] k (fun kq Q U V w' => ∃ (q : Int) (r : Int) (a : Int), Q = .int .i64 q ∧ U = .int .i64 r ∧ V = .int .i64 a ∧ Aside0 (jigsawref20_Counts.l0 kq d y q r a = some (I, J)) ∧ Aside0 (kq ≤ k) ∧ Drawn0 w w')
 case atStart => exact ⟨(0), (0), (0), eq_, eq_, eq_, H', ⟨lr_ _⟩, by repeat (first | exact d0_ _ | apply Drawn0.step)⟩
 clear H'
 try clear p2
 obtain ⟨q, r, a, rfl, rfl, rfl, HA, z, ⟨m1, rfl⟩⟩ := hrel
 cases gk with
 | zero => exact absurd HA.out (by simp [jigsawref20_Counts.l0])
 | succ k1 =>
  have H := HA.out
  clear HA
  simp only [jigsawref20_Counts.l0] at H
  by_cases c3 : a < (d.length : Int)
  rotate_left
  ·
   rw [ig_ c3] at H
   have c3b0 : decide (a < (d.length : Int)) = false := df_ c3
   clear c3
   simp only [Option.some.injEq, Prod.mk.injEq] at H
   obtain ⟨rfl, rfl⟩ := H
   go_wp2
   go_ret2
   exact ⟨by first | rfl | (simp; done) | (simp [*]; done), by repeat (first | exact d0_ _ | apply Drawn0.step)⟩
  rw [ip_ c3] at H
  have c3b0 : decide (a < (d.length : Int)) = true := dt_ c3
  clear c3
  by_cases c4 : 0 ≤ a
  rotate_left
  ·
   rw [ig_ c4] at H
   exact ab_ H
  rw [ip_ c4] at H
  have c4b0 : decide (0 ≤ a) = true := dt_ c4
  clear c4
  replace H := bo_ H
  obtain ⟨N, O, H⟩ := H
  try dsimp only at H
  by_cases c6 : N = true
  rotate_left
  ·
   replace c6 := bf_.mpr c6
   subst c6
   have H1 : (jigsawref20_Counts.l0 k1 d y q r (wrap64 (a + 1))) = some (I, J) := by rw [ig_ (show ¬ (false = true) by decide)] at H; exact H
   clear H
   have H := H1
   clear H1
   have H' := a_ H
   clear H
   have p546 : 0 ≤ (a : Int) := dq_
   have g : a < (d.length : Int) := dq_
   obtain ⟨v, o, c546_0, x, p, b, c⟩ := at_L7 B.out a p546 g
   cases x
   have l := a_ c
   have m := a_ b
   clear c b
   replace p546 := et_ p546
   replace g := et_ g
   go_wp2_with (first | ((with_reducible refine gate_callee (f := 67) rfl ?_); refine goesL_ (some 21) rfl rfl Tryz.func67 kr_ rfl #[.slice o (rd_L7 d a).length c546_0, .int .i64 y] rfl ar_ ?_; (with_reducible refine (jigsawref02_Has.calls k1 _ _ (rd_L7 d a) y false _ ?_ ?_ O.out).mono ?_); exact ca_ (l.out); exact m.out; rintro e w' ⟨rfl, ⟨nd, rfl⟩⟩; refine ⟨_, rfl, ?_⟩))
   go_roundg k1
   case measure => have := z.out; omega
   exact ⟨(q), (r), (wrap64 (a + 1)), eq_, eq_, eq_, H', ⟨by have := z.out; omega⟩, by repeat (first | exact d0_ _ | apply Drawn0.step)⟩
  subst c6
  rw [ip_ rfl] at H
  by_cases c7 : ((rd_L7 d a).length : Int) = 1
  rotate_left
  ·
   rw [ig_ c7] at H
   have c7b0 : (((rd_L7 d a).length : Int) == 1) = false := be_.mpr c7
   have c7b1 : (((rd_L7 d a).length : Int) != 1) = true := ni_.mpr c7
   have H' := a_ H
   clear H
   have p546 : 0 ≤ (a : Int) := dq_
   have g : a < (d.length : Int) := dq_
   obtain ⟨v, o, c546_0, x, p, b, c⟩ := at_L7 B.out a p546 g
   cases x
   have l := a_ c
   have m := a_ b
   clear c b
   replace p546 := et_ p546
   replace g := et_ g
   go_wp2_with (first | ((with_reducible refine gate_callee (f := 67) rfl ?_); refine goesL_ (some 21) rfl rfl Tryz.func67 kr_ rfl #[.slice o (rd_L7 d a).length c546_0, .int .i64 y] rfl ar_ ?_; (with_reducible refine (jigsawref02_Has.calls k1 _ _ (rd_L7 d a) y true _ ?_ ?_ O.out).mono ?_); exact ca_ (l.out); exact m.out; rintro e w' ⟨rfl, ⟨nd, rfl⟩⟩; refine ⟨_, rfl, ?_⟩; have p548 : 0 ≤ (a : Int) := dq_; have s : a < (d.length : Int) := dq_; obtain ⟨A, G, c548_0, E, t, n, u⟩ := at_L7 B.out a p548 s; obtain rfl : v = A := (by injection E); have F := a_ n; clear u n; replace p548 := et_ p548; replace s := et_ s; have ea_ := si_ (p.symm.trans t); injection ea_ with ea_ en_ ec_; subst ea_; subst ec_; clear en_))
   go_roundg k1
   case measure => have := z.out; omega
   exact ⟨(q), (wrap64 (r + 1)), (wrap64 (a + 1)), eq_, eq_, eq_, H', ⟨by have := z.out; omega⟩, by repeat (first | exact d0_ _ | apply Drawn0.step)⟩
  rw [ip_ c7] at H
  have c7b0 : (((rd_L7 d a).length : Int) == 1) = true := beq_iff_eq.mpr c7
  have c7b1 : (((rd_L7 d a).length : Int) != 1) = false := bn_.mpr c7
  clear c7
  have H' := a_ H
  clear H
  have p546 : 0 ≤ (a : Int) := dq_
  have g : a < (d.length : Int) := dq_
  obtain ⟨v, o, c546_0, x, p, b, c⟩ := at_L7 B.out a p546 g
  cases x
  have l := a_ c
  have m := a_ b
  clear c b
  replace p546 := et_ p546
  replace g := et_ g
  go_wp2_with (first | ((with_reducible refine gate_callee (f := 67) rfl ?_); refine goesL_ (some 21) rfl rfl Tryz.func67 kr_ rfl #[.slice o (rd_L7 d a).length c546_0, .int .i64 y] rfl ar_ ?_; (with_reducible refine (jigsawref02_Has.calls k1 _ _ (rd_L7 d a) y true _ ?_ ?_ O.out).mono ?_); exact ca_ (l.out); exact m.out; rintro e w' ⟨rfl, ⟨nd, rfl⟩⟩; refine ⟨_, rfl, ?_⟩; have p548 : 0 ≤ (a : Int) := dq_; have s : a < (d.length : Int) := dq_; obtain ⟨A, G, c548_0, E, t, n, u⟩ := at_L7 B.out a p548 s; obtain rfl : v = A := (by injection E); have F := a_ n; clear u n; replace p548 := et_ p548; replace s := et_ s; have ea_ := si_ (p.symm.trans t); injection ea_ with ea_ en_ ec_; subst ea_; subst ec_; clear en_))
  go_roundg k1
  case measure => have := z.out; omega
  exact ⟨(wrap64 (q + 1)), (wrap64 (r + 1)), (wrap64 (a + 1)), eq_, eq_, eq_, H', ⟨by have := z.out; omega⟩, by repeat (first | exact d0_ _ | apply Drawn0.step)⟩

/-! ### jigsawref02_Change: function 90 -/
def jigsawref02_Change.f (b : List Int) (a : List Int) : Option (Int) := if (a.length : Int) = (b.length : Int) then (none) else (if (a.length : Int) = 0 then (none) else (if (a.length : Int) = 1 then (some 3) else (if 0 < (a.length : Int) then (if 0 < (b.length : Int) then (if (rd a 0) = (rd b 0) then (if 0 ≤ (wrap64 ((a.length : Int) - 1)) then (if (wrap64 ((a.length : Int) - 1)) < (a.length : Int) then (if 0 ≤ (wrap64 ((b.length : Int) - 1)) then (if (wrap64 ((b.length : Int) - 1)) < (b.length : Int) then (if (rd a (wrap64 ((a.length : Int) - 1))) = (rd b (wrap64 ((b.length : Int) - 1))) then (some 1) else (some 2)) else (none)) else (none)) else (none)) else (none)) else (some 2)) else (none)) else (none))))
set_option maxHeartbeats 8000000 in
set_option maxRecDepth 100000 in
theorem jigsawref02_Change.calls (Q : Option Addr) (c0 : Nat) (b : List Int) (U : Option Addr) (c1 : Nat) (a : List Int) (r : Int) (w : World) (M : Kd.C (Kd.int .i64) w Q b.length b) (N : b.length ≤ c0) (O : Kd.C (Kd.int .i64) w U a.length a) (P : a.length ≤ c1) (h : jigsawref02_Change.f b a = some r) :
  Calls Tryz.prog 90 #[.slice Q b.length c0, .slice U a.length c1] w fun e w' => e = .returned (.int .i64 r) ∧ Drawn0 w w' := by
 have A := a_ M
 have V := a_ N
 clear M N
 have B := a_ O
 have W := a_ P
 clear O P
 unfold jigsawref02_Change.f at h
 have H := h
 clear h
 by_cases c3 : (a.length : Int) = (b.length : Int)
 ·
  rw [ip_ c3] at H
  exact ab_ H
 rw [ig_ c3] at H
 have c3b0 : ((a.length : Int) == (b.length : Int)) = false := be_.mpr c3
 have c3b1 : ((a.length : Int) != (b.length : Int)) = true := ni_.mpr c3
 have c3b2 : (a.length == b.length) = false := by first | simpa using c3 | (simp at c3 ⊢; omega)
 by_cases c4 : (a.length : Int) = 0
 ·
  rw [ip_ c4] at H
  exact ab_ H
 rw [ig_ c4] at H
 have c4b0 : ((a.length : Int) == 0) = false := be_.mpr c4
 have c4b1 : ((a.length : Int) != 0) = true := ni_.mpr c4
 have c4b2 : ¬ (a = []) := fun h_ => c4 (by rw [h_]; rfl)
 by_cases c5 : (a.length : Int) = 1
 ·
  rw [ip_ c5] at H
  have c5b0 : ((a.length : Int) == 1) = true := beq_iff_eq.mpr c5
  have c5b1 : ((a.length : Int) != 1) = false := bn_.mpr c5
  clear c5
  obtain rfl := si_ H
  go_enter Tryz.func90, Tryz.ntmps90
  go_wp2
  repeat (go_quiet (fail); try go_wp2)
  go_ret
  exact ⟨by first | rfl | (simp; done) | (simp [*]; done), by repeat (first | exact d0_ _ | apply Drawn0.step)⟩
 rw [ig_ c5] at H
 have c5b0 : ((a.length : Int) == 1) = false := be_.mpr c5
 have c5b1 : ((a.length : Int) != 1) = true := ni_.mpr c5
 by_cases c6 : 0 < (a.length : Int)
 rotate_left
 ·
  rw [ig_ c6] at H
  exact ab_ H
 rw [ip_ c6] at H
 have c6b0 : decide (0 < (a.length : Int)) = true := dt_ c6
 have c6b1 : decide (0 < a.length) = true := dt_ (by omega)
 clear c6
 by_cases c7 : 0 < (b.length : Int)
 rotate_left
 ·
  rw [ig_ c7] at H
  exact ab_ H
 rw [ip_ c7] at H
 have c7b0 : decide (0 < (b.length : Int)) = true := dt_ c7
 have c7b1 : decide (0 < b.length) = true := dt_ (by omega)
 clear c7
 by_cases c8 : (rd a 0) = (rd b 0)
 rotate_left
 ·
  rw [ig_ c8] at H
  have c8b0 : ((rd a 0) == (rd b 0)) = false := be_.mpr c8
  have c8b1 : ((rd a 0) != (rd b 0)) = true := ni_.mpr c8
  obtain rfl := si_ H
  have p549 : 0 ≤ (0 : Int) := (by omega)
  have m : 0 < (a.length : Int) := dq_
  obtain ⟨s, v, g⟩ := ai_ B.out 0 p549 m
  cases v
  have G : (0 < a.length) = True := et_ (by omega)
  (try rw [t0_] at g)
  (try rw [Addr.add_zero'] at g)
  replace p549 := et_ p549
  replace m := et_ m
  have p550 : 0 ≤ (0 : Int) := (by omega)
  have n : 0 < (b.length : Int) := dq_
  obtain ⟨t, x, l⟩ := ai_ A.out 0 p550 n
  cases x
  have I : (0 < b.length) = True := et_ (by omega)
  (try rw [t0_] at l)
  (try rw [Addr.add_zero'] at l)
  replace p550 := et_ p550
  replace n := et_ n
  go_enter Tryz.func90, Tryz.ntmps90
  go_wp2
  repeat (go_quiet (fail); try go_wp2)
  go_ret
  exact ⟨by first | rfl | (simp; done) | (simp [*]; done), by repeat (first | exact d0_ _ | apply Drawn0.step)⟩
 rw [ip_ c8] at H
 have c8b0 : ((rd a 0) == (rd b 0)) = true := beq_iff_eq.mpr c8
 have c8b1 : ((rd a 0) != (rd b 0)) = false := bn_.mpr c8
 clear c8
 obtain ⟨d, u⟩ : ∃ j_ : Int, (wrap64 ((a.length : Int) - 1)) = j_ := ⟨_, rfl⟩
 replace H : (if 0 ≤ (d) then (if (d) < (a.length : Int) then (if 0 ≤ (wrap64 ((b.length : Int) - 1)) then (if (wrap64 ((b.length : Int) - 1)) < (b.length : Int) then (if (rd a (d)) = (rd b (wrap64 ((b.length : Int) - 1))) then (some 1) else (some 2)) else (none)) else (none)) else (none)) else (none)) = some r := by first | (rw [u] at H; exact H) | (simp only [u] at H ⊢; exact H)
 have hji9w : (IntKind.i64.wrap ((a.length : Int) - 1)) = d := (i64_w _).trans u
 by_cases c10 : 0 ≤ (d)
 rotate_left
 ·
  rw [ig_ c10] at H
  exact ab_ H
 rw [ip_ c10] at H
 have c10b0 : decide (0 ≤ (d)) = true := dt_ c10
 clear c10
 by_cases c11 : (d) < (a.length : Int)
 rotate_left
 ·
  rw [ig_ c11] at H
  exact ab_ H
 rw [ip_ c11] at H
 have c11b0 : decide ((d) < (a.length : Int)) = true := dt_ c11
 clear c11
 obtain ⟨c, q⟩ : ∃ j_ : Int, (wrap64 ((b.length : Int) - 1)) = j_ := ⟨_, rfl⟩
 replace H : (if 0 ≤ (c) then (if (c) < (b.length : Int) then (if (rd a (d)) = (rd b (c)) then (some 1) else (some 2)) else (none)) else (none)) = some r := by first | (rw [q] at H; exact H) | (simp only [q] at H ⊢; exact H)
 have hji12w : (IntKind.i64.wrap ((b.length : Int) - 1)) = c := (i64_w _).trans q
 by_cases c13 : 0 ≤ (c)
 rotate_left
 ·
  rw [ig_ c13] at H
  exact ab_ H
 rw [ip_ c13] at H
 have c13b0 : decide (0 ≤ (c)) = true := dt_ c13
 clear c13
 by_cases c14 : (c) < (b.length : Int)
 rotate_left
 ·
  rw [ig_ c14] at H
  exact ab_ H
 rw [ip_ c14] at H
 have c14b0 : decide ((c) < (b.length : Int)) = true := dt_ c14
 clear c14
 by_cases c15 : (rd a (d)) = (rd b (c))
 rotate_left
 ·
  rw [ig_ c15] at H
  have c15b0 : ((rd a (d)) == (rd b (c))) = false := be_.mpr c15
  have c15b1 : ((rd a (d)) != (rd b (c))) = true := ni_.mpr c15
  obtain rfl := si_ H
  have p549 : 0 ≤ (0 : Int) := (by omega)
  have m : 0 < (a.length : Int) := dq_
  obtain ⟨s, v, g⟩ := ai_ B.out 0 p549 m
  cases v
  have G : (0 < a.length) = True := et_ (by omega)
  (try rw [t0_] at g)
  (try rw [Addr.add_zero'] at g)
  replace p549 := et_ p549
  replace m := et_ m
  have p550 : 0 ≤ (0 : Int) := (by omega)
  have n : 0 < (b.length : Int) := dq_
  obtain ⟨t, x, l⟩ := ai_ A.out 0 p550 n
  cases x
  have I : (0 < b.length) = True := et_ (by omega)
  (try rw [t0_] at l)
  (try rw [Addr.add_zero'] at l)
  replace p550 := et_ p550
  replace n := et_ n
  have p551 : 0 ≤ ((d) : Int) := dq_
  have o : (d) < (a.length : Int) := dq_
  obtain ⟨y, E, J⟩ := ai_ B.out (d) p551 o
  obtain rfl : s = y := (by injection E)
  replace p551 := et_ p551
  replace o := et_ o
  have p552 : 0 ≤ ((c) : Int) := dq_
  have p : (c) < (b.length : Int) := dq_
  obtain ⟨z, F, K⟩ := ai_ A.out (c) p552 p
  obtain rfl : t = z := (by injection F)
  replace p552 := et_ p552
  replace p := et_ p
  go_enter Tryz.func90, Tryz.ntmps90
  go_wp2
  repeat (go_quiet (fail); try go_wp2)
  go_ret
  exact ⟨by first | rfl | (simp; done) | (simp only [← u, ← q] <;> (first | rfl | simp)) | (simp [*]; done), by repeat (first | exact d0_ _ | apply Drawn0.step)⟩
 rw [ip_ c15] at H
 have c15b0 : ((rd a (d)) == (rd b (c))) = true := beq_iff_eq.mpr c15
 have c15b1 : ((rd a (d)) != (rd b (c))) = false := bn_.mpr c15
 clear c15
 obtain rfl := si_ H
 have p549 : 0 ≤ (0 : Int) := (by omega)
 have m : 0 < (a.length : Int) := dq_
 obtain ⟨s, v, g⟩ := ai_ B.out 0 p549 m
 cases v
 have G : (0 < a.length) = True := et_ (by omega)
 (try rw [t0_] at g)
 (try rw [Addr.add_zero'] at g)
 replace p549 := et_ p549
 replace m := et_ m
 have p550 : 0 ≤ (0 : Int) := (by omega)
 have n : 0 < (b.length : Int) := dq_
 obtain ⟨t, x, l⟩ := ai_ A.out 0 p550 n
 cases x
 have I : (0 < b.length) = True := et_ (by omega)
 (try rw [t0_] at l)
 (try rw [Addr.add_zero'] at l)
 replace p550 := et_ p550
 replace n := et_ n
 have p551 : 0 ≤ ((d) : Int) := dq_
 have o : (d) < (a.length : Int) := dq_
 obtain ⟨y, E, J⟩ := ai_ B.out (d) p551 o
 obtain rfl : s = y := (by injection E)
 replace p551 := et_ p551
 replace o := et_ o
 have p552 : 0 ≤ ((c) : Int) := dq_
 have p : (c) < (b.length : Int) := dq_
 obtain ⟨z, F, K⟩ := ai_ A.out (c) p552 p
 obtain rfl : t = z := (by injection F)
 replace p552 := et_ p552
 replace p := et_ p
 go_enter Tryz.func90, Tryz.ntmps90
 go_wp2
 repeat (go_quiet (fail); try go_wp2)
 go_ret
 exact ⟨by first | rfl | (simp; done) | (simp only [← u, ← q] <;> (first | rfl | simp)) | (simp [*]; done), by repeat (first | exact d0_ _ | apply Drawn0.step)⟩

end Go.Proofs.YtijjhobjmehhoaaGreatDoor.XGccFilters
