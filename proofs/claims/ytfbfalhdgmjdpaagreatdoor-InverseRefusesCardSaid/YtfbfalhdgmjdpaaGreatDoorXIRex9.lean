-- by xprint.py, a program of this session, over the kit's print
import Derived.Test.YtfbfalhdgmjdpaaGreatDoorXIRex0
import Derived.Test.YtfbfalhdgmjdpaaGreatDoorXIRex7
import Derived.Test.YtfbfalhdgmjdpaaGreatDoorXIRex8
import Derived.Test.YtfbfalhdgmjdpaaGreatDoorSq
namespace Go.Proofs.YtfbfalhdgmjdpaaGreatDoor.XInverseRefuses
open Go.RowKit Go.Proofs.YtfbfalhdgmjdpaaGreatDoor.Sq Go.Proofs.YtfbfalhdgmjdpaaGreatDoorW.PrintWords Go.Proofs.YtfbfalhdgmjdpaaGreatDoorW.PrintLast Go.Proofs.YtfbfalhdgmjdpaaGreatDoorW.PrintMore
attribute [local go_sem] max2_int min2_int max_two min_two max_three min_three max_four min_four   -- for this text's walks alone
set_option linter.unusedVariables false
set_option linter.unusedSimpArgs false

/-! ### slices_ContainsFunc_int_int_60_at_model_Right_1: function 60 -/
def slices_ContainsFunc_int_int_60_at_model_Right_1.f (k : Nat) (c : List Int)  (a : Int) : Option (Bool) := (slices_IndexFunc_int_int_84_at_model_Right_1.f k c a).bind fun b => (some (decide (b ≥ 0)))
theorem slices_ContainsFunc_int_int_60_at_model_Right_1.mono : ∀ a b k, LeO (slices_ContainsFunc_int_int_60_at_model_Right_1.f k a b) (slices_ContainsFunc_int_int_60_at_model_Right_1.f (k + 1) a b) := by
 intro a b k
 unfold slices_ContainsFunc_int_int_60_at_model_Right_1.f
 have m0 := @slices_IndexFunc_int_int_84_at_model_Right_1.mono
 exact leo_
set_option maxHeartbeats 8000000 in
set_option maxRecDepth 100000 in
theorem slices_ContainsFunc_int_int_60_at_model_Right_1.calls (k : Nat) (g : Option Addr) (c0 : Nat) (a : List Int)  (B2 : Nat) (b : Int) (r : Bool) (w : World) (c : Kd.C (Kd.int .i64) w g a.length a) (d : a.length ≤ c0) (hbx2 : w.heap[B2]? = some (.cells #[.int .i64 b] 3 (0, 0))) (h : slices_ContainsFunc_int_int_60_at_model_Right_1.f k a b = some r) :
  Calls Tryz.prog 60 #[.slice g a.length c0, .func (.func 81) #[] #[.pointer (some ⟨B2, 0, none⟩)]] w fun e w' => e = .returned (.bool r) ∧ Drawn0 w w' := by
 have m := a_ c
 have n := a_ d
 clear c d
 have BKc2 := a_ hbx2
 clear hbx2
 unfold slices_ContainsFunc_int_int_60_at_model_Right_1.f at h
 have H := h
 clear h
 replace H := bo_ H
 obtain ⟨l, o, H⟩ := H
 try dsimp only at H
 obtain rfl := si_ H
 go_enter Tryz.func60, Tryz.ntmps60
 go_wp2_with (first | ((with_reducible refine gate_callee (f := 84) rfl ?_); refine goesL_ (some 7) rfl rfl Tryz.func84 kr_ rfl #[.slice g a.length c0, .func (.func 81) #[] #[.pointer (some ⟨B2, 0, none⟩)]] rfl ar_ ?_; (with_reducible refine (slices_IndexFunc_int_int_84_at_model_Right_1.calls k _ _ a B2 b l _ ?side1 ?side2 ?side3 o.out).mono ?_); (case side1 => exact ca_ (m.out)); (case side2 => exact n.out); (case side3 => exact bk_ BKc2.out); rintro e w' ⟨rfl, ⟨nd, rfl⟩⟩; refine ⟨_, rfl, ?_⟩))
 go_ret
 exact ⟨by first | rfl | (simp; done) | (simp [*]; done), by repeat (first | exact d0_ _ | apply Drawn0.step)⟩

/-! ### model_Right: function 59 -/
def model_Right.j0 : Nat → Bool → Int → List Int → List Int → List Int → List Int → List Int → Int → List (List Int) → Int → Option (Int)
 | 0, _, _, _, _, _, _, _, _, _, _ => none
 | k + 1, s, a, b, c, d, e, g, l, m, n => if s = true then (some 10) else ((model_Vars.f k a b c d e g l m).bind fun o => ((slices_ContainsFunc_int_int_60_at_model_Right_1.f k o n).bind fun p => (if p = true then (some 7) else ((model_numbers.f k a b c d e g l m).bind fun q => (if q = true then ((model_counts.f a b c d e g l m).bind fun r => (if r = true then (some 0) else (none))) else (none))))))
def model_Right.f (k : Nat) (a : Int) (c : List Int) (d : List Int) (e : List Int) (g : List Int) (l : List Int) (b : Int) (m : List (List Int)) (o : Int) : Option (Int) := (model_Shape.f a).bind fun n => (if n.toList = ([] : List UInt8) then (none) else ((model_counted.f a c d e g l b m n).bind fun p => (if p = true then ((model_alike.f a c d e g l b m).bind fun q => (if q = true then (if b = 0 then (model_Right.j0 k false a c d e g l b m o) else ((strings_Contains.f n (⟨#[107]⟩ : ByteArray)).bind fun r => (model_Right.j0 k (!r) a c d e g l b m o))) else (model_Right.j0 k true a c d e g l b m o))) else (model_Right.j0 k true a c d e g l b m o))))
theorem model_Right.mono_l : ∀ k, (∀ a b c d e f g l m n, LeO (model_Right.j0 k a b c d e f g l m n) (model_Right.j0 (k + 1) a b c d e f g l m n))
 | 0 => by intros; exact LeO.none _
 | k + 1 => by
  have ih0 := model_Right.mono_l k
  intro a b c d e f g l m n
  unfold model_Right.j0
  have m0 := @model_Vars.mono
  have m1 := @model_numbers.mono
  have m2 := @slices_ContainsFunc_int_int_60_at_model_Right_1.mono
  exact leo_
theorem model_Right.mono : ∀ a b c d e g l m n k, LeO (model_Right.f k a b c d e g l m n) (model_Right.f (k + 1) a b c d e g l m n) := by
 intro a b c d e g l m n k
 have ih0 := model_Right.mono_l k
 unfold model_Right.f
 have m0 := @model_Vars.mono
 have m1 := @model_numbers.mono
 have m2 := @slices_ContainsFunc_int_int_60_at_model_Right_1.mono
 exact leo_
set_option maxHeartbeats 8000000 in
set_option maxRecDepth 100000 in
theorem model_Right.calls (k : Nat) (p : Int) (M : Option Addr) (c0_1 : Nat) (d : List Int) (O : Option Addr) (c0_2 : Nat) (g : List Int) (P : Option Addr) (c0_3 : Nat) (l : List Int) (Q : Option Addr) (c0_4 : Nat) (m : List Int) (U : Option Addr) (c0_5 : Nat) (n : List Int) (c : Int) (V : Option Addr) (c0_7 : Nat) (o : List (List Int)) (a1 : Int) (r : Int) (w : World) (ah : Kd.C (Kd.int .i64) w M d.length d) (ai : d.length ≤ c0_1) (aj : Kd.C (Kd.int .i64) w O g.length g) (ak : g.length ≤ c0_2) (al : Kd.C (Kd.int .i64) w P l.length l) (am : l.length ≤ c0_3) (an : Kd.C (Kd.int .i64) w Q m.length m) (ao : m.length ≤ c0_4) (ap : Kd.C (Kd.int .i64) w U n.length n) (aq : n.length ≤ c0_5) (ar : Kd.C (Kd.slice 3 (Kd.int .i64)) w V o.length o) (au : o.length ≤ c0_7) (h : model_Right.f k p d g l m n c o a1 = some r) :
  Calls Tryz.prog 59 #[.agg #[.int .i64 p, .slice M d.length c0_1, .slice O g.length c0_2, .slice P l.length c0_3, .slice Q m.length c0_4, .slice U n.length c0_5, .int .i64 c, .slice V o.length c0_7], .int .i64 a1] w fun e w' => e = .returned (.int .i64 r) ∧ Below w.heap.size w w' := by
 have hu32 := Tryz.underlying32
 have u := a_ ah
 have v := a_ ai
 clear ah ai
 have x := a_ aj
 have y := a_ ak
 clear aj ak
 have z := a_ al
 have A := a_ am
 clear al am
 have B := a_ an
 have E := a_ ao
 clear an ao
 have F := a_ ap
 have G := a_ aq
 clear ap aq
 have I := a_ ar
 have J := a_ au
 clear ar au
 have HB := a_ (Below.refl w.heap.size w)
 unfold model_Right.f at h
 have H := h
 clear h
 replace H := bo_ H
 obtain ⟨K, A3, H⟩ := H
 try dsimp only at H
 by_cases c4 : K.toList = ([] : List UInt8)
 ·
  rw [ip_ c4] at H
  exact ab_ H
 rw [ig_ c4] at H
 have c4b0 : (K.toList == ([] : List UInt8)) = false := be_.mpr c4
 have c4b1 : (K.toList != ([] : List UInt8)) = true := ni_.mpr c4
 have aw := a_ H
 clear H
 go_enter Tryz.func59, Tryz.ntmps59
 go_upto_region 4 with (first | ((with_reducible refine gate_dst (N := 2) rfl ?_); refine bxe_ (N := 2) (cs := #[.int .i64 p, .slice M d.length c0_1, .slice O g.length c0_2, .slice P l.length c0_3, .slice Q m.length c0_4, .slice U n.length c0_5, .int .i64 c, .slice V o.length c0_7]) (t := 32) ?_; intro Z hg w6 hbox hb; have a := a_ (hbox); have az := a_ (by rw [hg]; exact (bz_ bel_) : w.heap.size ≤ Z); have aQ := az; replace HB := hq_ hb; clear hb hbox hg) | ((with_reducible refine gate_dst (N := 3) rfl ?_); refine bxe_ (N := 3) (cs := #[.int .i64 a1]) (t := 3) ?_; intro W hg w7 hbox hb; have b := a_ (hbox); have aA := a_ (by rw [hg]; exact (bz_ bel_) : w.heap.size ≤ W); have aR := aA; replace HB := hq_ hb; have q := a_ ((by rw [hg]; exact Nat.ne_of_lt (blk_lt (bk_ a.out)) : Z ≠ W)); have s := a_ ((by rw [hg]; exact Nat.ne_of_gt (blk_lt (bk_ a.out)) : W ≠ Z)); replace a := a_ (bq_ a.out hb); clear hb hbox hg; have a6 := q.out; have a7 := s.out; obtain ⟨_, _, _, _, _, _, _, _, _, _, _, _, _, _, _, _⟩ := cel8_ a.out) | ((with_reducible refine gate_callee (f := 76) rfl ?_); refine goesL_ (some 8) rfl rfl Tryz.func76 kr_ rfl #[.int .i64 p] rfl ar_ ?_; (with_reducible refine (model_Shape.calls p K _ A3.out).mono ?_); rintro e w10 ⟨rfl, hb⟩; refine ⟨_, rfl, ?_⟩; replace a := a_ (bq_ a.out hb); replace b := a_ (bq_ b.out hb); replace HB := hq_ hb; clear hb))
 (try simp only [Act.put, List.setIfInBounds_toArray, List.set_cons_zero, List.set_cons_succ])
 go_cut [12] (fun aM wc => ∃ (kq : Nat) (aa : Bool), aM = .bool aa ∧ Aside0 (model_Right.j0 kq aa p d g l m n c o a1 = some r) ∧ Aside0 (kq ≤ k) ∧ Aside0 (wc.heap[Z]? = some (.cells #[.int .i64 p, (.slice M d.length c0_1), (.slice O g.length c0_2), (.slice P l.length c0_3), (.slice Q m.length c0_4), (.slice U n.length c0_5), .int .i64 c, (.slice V o.length c0_7)] 32 (0, 0))) ∧ Aside0 (wc.heap[W]? = some (.cells #[.int .i64 a1] 3 (0, 0))) ∧ Aside0 (Below w.heap.size w wc))
 case first =>
  have H := aw.out
  clear aw
  replace H := bo_ H
  obtain ⟨aD, av, H⟩ := H
  try dsimp only at H
  by_cases c12 : aD = true
  rotate_left
  ·
   replace c12 := bf_.mpr c12
   subst c12
   have H1 : (model_Right.j0 k true p d g l m n c o a1) = some r := by rw [ig_ (show ¬ (false = true) by decide)] at H; exact H
   clear H
   have H := H1
   clear H1
   have H' := a_ H
   clear H
   have aY := q.out
   have aZ := s.out
   obtain ⟨_, _, _, _, _, _, _, _, _, _, _, _, _, _, _, _⟩ := cel8_ a.out
   go_wp2_with (first | ((with_reducible refine gate_callee (f := 77) rfl ?_); refine goesL_ (some 15) rfl rfl Tryz.func77 kr_ rfl #[.agg #[.int .i64 p, .slice M d.length c0_1, .slice O g.length c0_2, .slice P l.length c0_3, .slice Q m.length c0_4, .slice U n.length c0_5, .int .i64 c, .slice V o.length c0_7], .string K] rfl ar_ ?_; (with_reducible refine (model_counted.calls p _ _ d _ _ g _ _ l _ _ m _ _ n c _ _ o K false _ ?_ ?_ ?_ ?_ ?_ ?_ ?_ ?_ ?_ ?_ ?_ ?_ av.out).mono ?_); exact ca_ ((cb_ u.out HB.out)); exact v.out; exact ca_ ((cb_ x.out HB.out)); exact y.out; exact ca_ ((cb_ z.out HB.out)); exact A.out; exact ca_ ((cb_ B.out HB.out)); exact E.out; exact ca_ ((cb_ F.out HB.out)); exact G.out; exact ca_ ((cb_ I.out HB.out)); exact J.out; rintro e w36 ⟨rfl, hb⟩; refine ⟨_, rfl, ?_⟩; replace a := a_ (bq_ a.out hb); replace b := a_ (bq_ b.out hb); replace HB := hq_ hb; clear hb))
   go_meet
   exact ⟨_, (true), eq_, H', ⟨by first | omega | exact lr_ _⟩, ⟨bk_ a.out⟩, ⟨bk_ b.out⟩, ⟨bel_⟩⟩
  subst c12
  rw [ip_ rfl] at H
  replace H := bo_ H
  obtain ⟨aE, ax, H⟩ := H
  try dsimp only at H
  by_cases c14 : aE = true
  rotate_left
  ·
   replace c14 := bf_.mpr c14
   subst c14
   have H1 : (model_Right.j0 k true p d g l m n c o a1) = some r := by rw [ig_ (show ¬ (false = true) by decide)] at H; exact H
   clear H
   have H := H1
   clear H1
   have H' := a_ H
   clear H
   have aW := q.out
   have aX := s.out
   obtain ⟨_, _, _, _, _, _, _, _, _, _, _, _, _, _, _, _⟩ := cel8_ a.out
   go_wp2_with (first | ((with_reducible refine gate_callee (f := 77) rfl ?_); refine goesL_ (some 15) rfl rfl Tryz.func77 kr_ rfl #[.agg #[.int .i64 p, .slice M d.length c0_1, .slice O g.length c0_2, .slice P l.length c0_3, .slice Q m.length c0_4, .slice U n.length c0_5, .int .i64 c, .slice V o.length c0_7], .string K] rfl ar_ ?_; (with_reducible refine (model_counted.calls p _ _ d _ _ g _ _ l _ _ m _ _ n c _ _ o K true _ ?_ ?_ ?_ ?_ ?_ ?_ ?_ ?_ ?_ ?_ ?_ ?_ av.out).mono ?_); exact ca_ ((cb_ u.out HB.out)); exact v.out; exact ca_ ((cb_ x.out HB.out)); exact y.out; exact ca_ ((cb_ z.out HB.out)); exact A.out; exact ca_ ((cb_ B.out HB.out)); exact E.out; exact ca_ ((cb_ F.out HB.out)); exact G.out; exact ca_ ((cb_ I.out HB.out)); exact J.out; rintro e w31 ⟨rfl, hb⟩; refine ⟨_, rfl, ?_⟩; replace a := a_ (bq_ a.out hb); replace b := a_ (bq_ b.out hb); replace HB := hq_ hb; clear hb; obtain ⟨_, _, _, _, _, _, _, _, _, _, _, _, _, _, _, _⟩ := cel8_ a.out) | (go_at_call 78; (with_reducible refine (model_alike.calls p _ _ d _ _ g _ _ l _ _ m _ _ n c _ _ o false _ ?_ ?_ ?_ ?_ ?_ ?_ ?_ ?_ ?_ ?_ ?_ ?_ ax.out).mono ?_); exact ca_ ((cb_ u.out HB.out)); exact v.out; exact ca_ ((cb_ x.out HB.out)); exact y.out; exact ca_ ((cb_ z.out HB.out)); exact A.out; exact ca_ ((cb_ B.out HB.out)); exact E.out; exact ca_ ((cb_ F.out HB.out)); exact G.out; exact ca_ ((cb_ I.out HB.out)); exact J.out; rintro e w33 ⟨rfl, hb⟩; replace a := a_ (bq_ a.out hb); replace b := a_ (bq_ b.out hb); replace HB := hq_ hb; clear hb))
   go_meet
   exact ⟨_, (true), eq_, H', ⟨by first | omega | exact lr_ _⟩, ⟨bk_ a.out⟩, ⟨bk_ b.out⟩, ⟨bel_⟩⟩
  subst c14
  rw [ip_ rfl] at H
  by_cases c15 : c = 0
  ·
   rw [ip_ c15] at H
   have c15b0 : (c == 0) = true := beq_iff_eq.mpr c15
   have c15b1 : (c != 0) = false := bn_.mpr c15
   clear c15
   (first | rw [c15b0] | (simp only [i64_w, i32_w]; rw [c15b0]) | skip)
   have H' := a_ H
   clear H
   have aS := q.out
   have aT := s.out
   obtain ⟨_, _, _, _, _, _, _, _, _, _, _, _, _, _, _, _⟩ := cel8_ a.out
   go_wp2_with (first | ((with_reducible refine gate_callee (f := 77) rfl ?_); refine goesL_ (some 15) rfl rfl Tryz.func77 kr_ rfl #[.agg #[.int .i64 p, .slice M d.length c0_1, .slice O g.length c0_2, .slice P l.length c0_3, .slice Q m.length c0_4, .slice U n.length c0_5, .int .i64 c, .slice V o.length c0_7], .string K] rfl ar_ ?_; (with_reducible refine (model_counted.calls p _ _ d _ _ g _ _ l _ _ m _ _ n c _ _ o K true _ ?_ ?_ ?_ ?_ ?_ ?_ ?_ ?_ ?_ ?_ ?_ ?_ av.out).mono ?_); exact ca_ ((cb_ u.out HB.out)); exact v.out; exact ca_ ((cb_ x.out HB.out)); exact y.out; exact ca_ ((cb_ z.out HB.out)); exact A.out; exact ca_ ((cb_ B.out HB.out)); exact E.out; exact ca_ ((cb_ F.out HB.out)); exact G.out; exact ca_ ((cb_ I.out HB.out)); exact J.out; rintro e w18 ⟨rfl, hb⟩; refine ⟨_, rfl, ?_⟩; replace a := a_ (bq_ a.out hb); replace b := a_ (bq_ b.out hb); replace HB := hq_ hb; clear hb; obtain ⟨_, _, _, _, _, _, _, _, _, _, _, _, _, _, _, _⟩ := cel8_ a.out) | (go_at_call 78; (with_reducible refine (model_alike.calls p _ _ d _ _ g _ _ l _ _ m _ _ n c _ _ o true _ ?_ ?_ ?_ ?_ ?_ ?_ ?_ ?_ ?_ ?_ ?_ ?_ ax.out).mono ?_); exact ca_ ((cb_ u.out HB.out)); exact v.out; exact ca_ ((cb_ x.out HB.out)); exact y.out; exact ca_ ((cb_ z.out HB.out)); exact A.out; exact ca_ ((cb_ B.out HB.out)); exact E.out; exact ca_ ((cb_ F.out HB.out)); exact G.out; exact ca_ ((cb_ I.out HB.out)); exact J.out; rintro e w20 ⟨rfl, hb⟩; replace a := a_ (bq_ a.out hb); replace b := a_ (bq_ b.out hb); replace HB := hq_ hb; clear hb; obtain ⟨_, _, _, _, _, _, _, _, _, _, _, _, _, _, _, _⟩ := cel8_ a.out))
   go_meet
   exact ⟨_, (false), eq_, H', ⟨by first | omega | exact lr_ _⟩, ⟨bk_ a.out⟩, ⟨bk_ b.out⟩, ⟨bel_⟩⟩
  rw [ig_ c15] at H
  have c15b0 : (c == 0) = false := be_.mpr c15
  have c15b1 : (c != 0) = true := ni_.mpr c15
  (first | rw [c15b0] | (simp only [i64_w, i32_w]; rw [c15b0]) | skip)
  replace H := bo_ H
  obtain ⟨ay, aN, H⟩ := H
  try dsimp only at H
  have H' := a_ H
  clear H
  have aU := q.out
  have aV := s.out
  obtain ⟨_, _, _, _, _, _, _, _, _, _, _, _, _, _, _, _⟩ := cel8_ a.out
  go_wp2_with (first | ((with_reducible refine gate_callee (f := 77) rfl ?_); refine goesL_ (some 15) rfl rfl Tryz.func77 kr_ rfl #[.agg #[.int .i64 p, .slice M d.length c0_1, .slice O g.length c0_2, .slice P l.length c0_3, .slice Q m.length c0_4, .slice U n.length c0_5, .int .i64 c, .slice V o.length c0_7], .string K] rfl ar_ ?_; (with_reducible refine (model_counted.calls p _ _ d _ _ g _ _ l _ _ m _ _ n c _ _ o K true _ ?_ ?_ ?_ ?_ ?_ ?_ ?_ ?_ ?_ ?_ ?_ ?_ av.out).mono ?_); exact ca_ ((cb_ u.out HB.out)); exact v.out; exact ca_ ((cb_ x.out HB.out)); exact y.out; exact ca_ ((cb_ z.out HB.out)); exact A.out; exact ca_ ((cb_ B.out HB.out)); exact E.out; exact ca_ ((cb_ F.out HB.out)); exact G.out; exact ca_ ((cb_ I.out HB.out)); exact J.out; rintro e w25 ⟨rfl, hb⟩; refine ⟨_, rfl, ?_⟩; replace a := a_ (bq_ a.out hb); replace b := a_ (bq_ b.out hb); replace HB := hq_ hb; clear hb; obtain ⟨_, _, _, _, _, _, _, _, _, _, _, _, _, _, _, _⟩ := cel8_ a.out) | (go_at_call 78; (with_reducible refine (model_alike.calls p _ _ d _ _ g _ _ l _ _ m _ _ n c _ _ o true _ ?_ ?_ ?_ ?_ ?_ ?_ ?_ ?_ ?_ ?_ ?_ ?_ ax.out).mono ?_); exact ca_ ((cb_ u.out HB.out)); exact v.out; exact ca_ ((cb_ x.out HB.out)); exact y.out; exact ca_ ((cb_ z.out HB.out)); exact A.out; exact ca_ ((cb_ B.out HB.out)); exact E.out; exact ca_ ((cb_ F.out HB.out)); exact G.out; exact ca_ ((cb_ I.out HB.out)); exact J.out; rintro e w27 ⟨rfl, hb⟩; replace a := a_ (bq_ a.out hb); replace b := a_ (bq_ b.out hb); replace HB := hq_ hb; clear hb; obtain ⟨_, _, _, _, _, _, _, _, _, _, _, _, _, _, _, _⟩ := cel8_ a.out) | (go_at_call 79; (with_reducible refine (strings_Contains.calls K (⟨#[107]⟩ : ByteArray) ay _ aN.out).mono ?_); rintro e w' ⟨rfl, ⟨nd, rfl⟩⟩))
  go_meet
  exact ⟨_, (!ay), eq_, H', ⟨by first | omega | exact lr_ _⟩, ⟨bk_ a.out⟩, ⟨bk_ b.out⟩, ⟨bel_⟩⟩
 clear aw
 try clear c1
 try clear c2
 try clear p2
 try clear c3
 try clear c4
 try clear c4b0
 try clear c4b1
 try clear c5
 try clear c7
 try clear c8
 try clear c12
 try clear c14
 try clear c15
 try clear c15b0
 try clear c15b1
 try clear c16
 try clear c23
 try clear c29
 try clear c34
 obtain ⟨kq, aa, rfl, HA, a8, a, b, HB⟩ := hcut
 cases kq with
 | zero => exact absurd HA.out (by simp [model_Right.j0])
 | succ kj4 =>
  have H := HA.out
  clear HA
  simp only [model_Right.j0] at H
  by_cases c37 : aa = true
  ·
   subst c37
   rw [ip_ rfl] at H
   obtain rfl := si_ H
   go_wp2
   go_ret
   exact ⟨er_, bel_⟩
  replace c37 := bf_.mpr c37
  subst c37
  have H1 : ((model_Vars.f kj4 p d g l m n c o).bind fun Y => ((slices_ContainsFunc_int_int_60_at_model_Right_1.f kj4 Y a1).bind fun ag => (if ag = true then (some 7) else ((model_numbers.f kj4 p d g l m n c o).bind fun ab => (if ab = true then ((model_counts.f p d g l m n c o).bind fun ac => (if ac = true then (some 0) else (none))) else (none)))))) = some r := by rw [ig_ (show ¬ (false = true) by decide)] at H; exact H
  clear H
  have H := H1
  clear H1
  replace H := bo_ H
  obtain ⟨Y, aB, H⟩ := H
  try dsimp only at H
  replace H := bo_ H
  obtain ⟨ag, aC, H⟩ := H
  try dsimp only at H
  by_cases c40 : ag = true
  ·
   subst c40
   rw [ip_ rfl] at H
   obtain rfl := si_ H
   have a0 := q.out
   have a2 := s.out
   obtain ⟨_, _, _, _, _, _, _, _, _, _, _, _, _, _, _, _⟩ := cel8_ a.out
   go_wp2_with (first | ((with_reducible refine gate_callee (f := 80) rfl ?_); refine goesL_ (some 34) rfl rfl Tryz.func80 kr_ rfl #[.agg #[.int .i64 p, .slice M d.length c0_1, .slice O g.length c0_2, .slice P l.length c0_3, .slice Q m.length c0_4, .slice U n.length c0_5, .int .i64 c, .slice V o.length c0_7]] rfl ar_ ?_; (with_reducible refine (model_Vars.calls kj4 p (fun k_ => k_ < w.heap.size) _ _ d (fun k_ => k_ < w.heap.size) _ _ g _ _ l _ _ m _ _ n c _ _ o Y _ ?_ ?_ ?_ ?_ ?_ ?_ ?_ ?_ ?_ ?_ aB.out).mono ?_); exact Kd.V_mk v.out (Kd.F_below (Kd.C_F (Kd.heap_int .i64) u.out) bel_); exact Kd.V_mk y.out (Kd.F_below (Kd.C_F (Kd.heap_int .i64) x.out) bel_); exact ca_ ((cb_ z.out HB.out)); exact A.out; exact ca_ ((cb_ B.out HB.out)); exact E.out; exact ca_ ((cb_ F.out HB.out)); exact G.out; exact ca_ ((cb_ I.out HB.out)); exact J.out; rintro e w43 ⟨aF, rfl, af, hb⟩; refine ⟨_, rfl, ?_⟩; have X := a_ (Kd.R_lower (Kd.R_newB (rm_ (ok' := fun k_ => True) af (fun _ hk_ => trivial)) (bk_ b.out)) (bz_ bel_)); replace a := a_ (bq_ a.out hb); replace b := a_ (bq_ b.out hb); replace HB := hq_ hb; clear hb af; obtain ⟨aG, aH, aI⟩ := Kd.R_slice X.out; subst aI) | ((with_reducible refine gate_callee (f := 60) rfl ?_); refine goesL_ (some 36) rfl rfl Tryz.func60 kr_ rfl #[.slice aG Y.length aH, .func (.func 81) #[] #[.pointer (some ⟨W, 0, none⟩)]] rfl ar_ ?_; (with_reducible refine (slices_ContainsFunc_int_int_60_at_model_Right_1.calls kj4 _ _ Y W a1 true _ ?side1 ?side2 ?side3 aC.out).mono ?_); (case side1 => exact ca_ ((rr_ X.out).2.2)); (case side2 => exact (rr_ X.out).2.1); (case side3 => exact bk_ b.out); rintro e w' ⟨rfl, ⟨nd, rfl⟩⟩; refine ⟨_, rfl, ?_⟩))
   go_ret
   exact ⟨er_, bel_⟩
  replace c40 := bf_.mpr c40
  subst c40
  have H1 : ((model_numbers.f kj4 p d g l m n c o).bind fun ab => (if ab = true then ((model_counts.f p d g l m n c o).bind fun ac => (if ac = true then (some 0) else (none))) else (none))) = some r := by rw [ig_ (show ¬ (false = true) by decide)] at H; exact H
  clear H
  have H := H1
  clear H1
  replace H := bo_ H
  obtain ⟨ab, aO, H⟩ := H
  try dsimp only at H
  by_cases c46 : ab = true
  rotate_left
  ·
   replace c46 := bf_.mpr c46
   subst c46
   have H1 : (none) = some r := by rw [ig_ (show ¬ (false = true) by decide)] at H; exact H
   clear H
   have H := H1
   clear H1
   exact ab_ H
  subst c46
  rw [ip_ rfl] at H
  replace H := bo_ H
  obtain ⟨ac, aP, H⟩ := H
  try dsimp only at H
  by_cases c48 : ac = true
  rotate_left
  ·
   replace c48 := bf_.mpr c48
   subst c48
   have H1 : (none) = some r := by rw [ig_ (show ¬ (false = true) by decide)] at H; exact H
   clear H
   have H := H1
   clear H1
   exact ab_ H
  subst c48
  rw [ip_ rfl] at H
  obtain rfl := si_ H
  have a3 := q.out
  have a4 := s.out
  obtain ⟨_, _, _, _, _, _, _, _, _, _, _, _, _, _, _, _⟩ := cel8_ a.out
  go_wp2_with (first | ((with_reducible refine gate_callee (f := 80) rfl ?_); refine goesL_ (some 34) rfl rfl Tryz.func80 kr_ rfl #[.agg #[.int .i64 p, .slice M d.length c0_1, .slice O g.length c0_2, .slice P l.length c0_3, .slice Q m.length c0_4, .slice U n.length c0_5, .int .i64 c, .slice V o.length c0_7]] rfl ar_ ?_; (with_reducible refine (model_Vars.calls kj4 p (fun k_ => k_ < w.heap.size) _ _ d (fun k_ => k_ < w.heap.size) _ _ g _ _ l _ _ m _ _ n c _ _ o Y _ ?_ ?_ ?_ ?_ ?_ ?_ ?_ ?_ ?_ ?_ aB.out).mono ?_); exact Kd.V_mk v.out (Kd.F_below (Kd.C_F (Kd.heap_int .i64) u.out) bel_); exact Kd.V_mk y.out (Kd.F_below (Kd.C_F (Kd.heap_int .i64) x.out) bel_); exact ca_ ((cb_ z.out HB.out)); exact A.out; exact ca_ ((cb_ B.out HB.out)); exact E.out; exact ca_ ((cb_ F.out HB.out)); exact G.out; exact ca_ ((cb_ I.out HB.out)); exact J.out; rintro e w51 ⟨aF, rfl, af, hb⟩; refine ⟨_, rfl, ?_⟩; have X := a_ (Kd.R_lower (Kd.R_newB (rm_ (ok' := fun k_ => True) af (fun _ hk_ => trivial)) (bk_ b.out)) (bz_ bel_)); replace a := a_ (bq_ a.out hb); replace b := a_ (bq_ b.out hb); replace HB := hq_ hb; clear hb af; obtain ⟨aJ, aK, aL⟩ := Kd.R_slice X.out; subst aL) | ((with_reducible refine gate_callee (f := 60) rfl ?_); refine goesL_ (some 36) rfl rfl Tryz.func60 kr_ rfl #[.slice aJ Y.length aK, .func (.func 81) #[] #[.pointer (some ⟨W, 0, none⟩)]] rfl ar_ ?_; (with_reducible refine (slices_ContainsFunc_int_int_60_at_model_Right_1.calls kj4 _ _ Y W a1 false _ ?side1 ?side2 ?side3 aC.out).mono ?_); (case side1 => exact ca_ ((rr_ X.out).2.2)); (case side2 => exact (rr_ X.out).2.1); (case side3 => exact bk_ b.out); rintro e w' ⟨rfl, ⟨nd, rfl⟩⟩; refine ⟨_, rfl, ?_⟩; obtain ⟨_, _, _, _, _, _, _, _, _, _, _, _, _, _, _, _⟩ := cel8_ a.out) | ((with_reducible refine gate_callee (f := 82) rfl ?_); refine goesL_ (some 39) rfl rfl Tryz.func82 kr_ rfl #[.agg #[.int .i64 p, .slice M d.length c0_1, .slice O g.length c0_2, .slice P l.length c0_3, .slice Q m.length c0_4, .slice U n.length c0_5, .int .i64 c, .slice V o.length c0_7]] rfl ar_ ?_; (with_reducible refine (model_numbers.calls kj4 p _ _ d _ _ g _ _ l _ _ m _ _ n c _ _ o true _ ?side1 ?side2 ?side3 ?side4 ?side5 ?side6 ?side7 ?side8 ?side9 ?side10 ?side11 ?side12 aO.out).mono ?_); (case side1 => repeat (first | exact (cb_ u.out bel_) | (with_reducible refine Kd.C_alloc ?_ _) | (with_reducible refine Kd.C_drewN ?_ _) | (with_reducible refine Kd.C_drew ?_))); (case side2 => exact v.out); (case side3 => repeat (first | exact (cb_ x.out bel_) | (with_reducible refine Kd.C_alloc ?_ _) | (with_reducible refine Kd.C_drewN ?_ _) | (with_reducible refine Kd.C_drew ?_))); (case side4 => exact y.out); (case side5 => repeat (first | exact (cb_ z.out bel_) | (with_reducible refine Kd.C_alloc ?_ _) | (with_reducible refine Kd.C_drewN ?_ _) | (with_reducible refine Kd.C_drew ?_))); (case side6 => exact A.out); (case side7 => repeat (first | exact (cb_ B.out bel_) | (with_reducible refine Kd.C_alloc ?_ _) | (with_reducible refine Kd.C_drewN ?_ _) | (with_reducible refine Kd.C_drew ?_))); (case side8 => exact E.out); (case side9 => repeat (first | exact (cb_ F.out bel_) | (with_reducible refine Kd.C_alloc ?_ _) | (with_reducible refine Kd.C_drewN ?_ _) | (with_reducible refine Kd.C_drew ?_))); (case side10 => exact G.out); (case side11 => repeat (first | exact (cb_ I.out bel_) | (with_reducible refine Kd.C_alloc ?_ _) | (with_reducible refine Kd.C_drewN ?_ _) | (with_reducible refine Kd.C_drew ?_))); (case side12 => exact J.out); rintro e w54 ⟨rfl, hb⟩; refine ⟨_, rfl, ?_⟩; replace a := a_ (bq_ a.out hb); replace HB := hq_ hb; clear hb; obtain ⟨_, _, _, _, _, _, _, _, _, _, _, _, _, _, _, _⟩ := cel8_ a.out) | (go_at_call 83; (with_reducible refine (model_counts.calls p _ _ d _ _ g _ _ l _ _ m _ _ n c _ _ o true _ ?_ ?_ ?_ ?_ ?_ ?_ ?_ ?_ ?_ ?_ ?_ ?_ aP.out).mono ?_); exact ca_ ((cb_ u.out HB.out)); exact v.out; exact ca_ ((cb_ x.out HB.out)); exact y.out; exact ca_ ((cb_ z.out HB.out)); exact A.out; exact ca_ ((cb_ B.out HB.out)); exact E.out; exact ca_ ((cb_ F.out HB.out)); exact G.out; exact ca_ ((cb_ I.out HB.out)); exact J.out; rintro e w56 ⟨rfl, hb⟩; replace HB := hq_ hb; clear hb))
  go_ret
  exact ⟨er_, bel_⟩

/-! ### dom_Dom_75_at_prop_Fits_1: function 75 -/
def dom_Dom_75_at_prop_Fits_1.l0 : Nat → List (S58) → Int → Int → Option (Int)
 | 0, _, _, _ => none
 | k + 1, b, d, a => if a < d then (if 0 ≤ a then (if a < (b.length : Int) then ((prop_Fits_1.f ((rd_T58 b a).f0) ((rd_T58 b a).f1) ((rd_T58 b a).f2) ((rd_T58 b a).f3) ((rd_T58 b a).f4)).bind fun c => (if c = true then (some a) else (dom_Dom_75_at_prop_Fits_1.l0 k b d (wrap64 (a + 1))))) else (none)) else (none)) else (some (-1))
def dom_Dom_75_at_prop_Fits_1.f (k : Nat) (a : List (S58))  : Option (Int) := dom_Dom_75_at_prop_Fits_1.l0 k a (a.length : Int) 0
theorem dom_Dom_75_at_prop_Fits_1.mono_l : ∀ k, (∀ a b c, LeO (dom_Dom_75_at_prop_Fits_1.l0 k a b c) (dom_Dom_75_at_prop_Fits_1.l0 (k + 1) a b c))
 | 0 => by intros; exact LeO.none _
 | k + 1 => by
  have ih0 := dom_Dom_75_at_prop_Fits_1.mono_l k
  intro a b c
  unfold dom_Dom_75_at_prop_Fits_1.l0
  exact leo_
theorem dom_Dom_75_at_prop_Fits_1.mono : ∀ a k, LeO (dom_Dom_75_at_prop_Fits_1.f k a) (dom_Dom_75_at_prop_Fits_1.f (k + 1) a) := by
 intro a k
 have ih0 := dom_Dom_75_at_prop_Fits_1.mono_l k
 unfold dom_Dom_75_at_prop_Fits_1.f
 exact leo_
set_option maxHeartbeats 8000000 in
set_option maxRecDepth 100000 in
theorem dom_Dom_75_at_prop_Fits_1.calls (k : Nat) (E : Option Addr) (c0 : Nat) (m : List (S58))  (r : Int) (w : World) (x : Kd.C k58 w E m.length m) (y : m.length ≤ c0) (h : dom_Dom_75_at_prop_Fits_1.f k m = some r) :
  Calls Tryz.prog 75 #[.slice E m.length c0, .func (.func 57) #[] #[]] w fun e w' => e = .returned (.int .i64 r) ∧ Below w.heap.size w w' := by
 have hu58 := Tryz.underlying58
 have z := a_ x
 have I := a_ y
 clear x y
 have HB := a_ (Below.refl w.heap.size w)
 unfold dom_Dom_75_at_prop_Fits_1.f at h
 have H := h
 clear h
 have H' := a_ H
 clear H
 go_enter Tryz.func75, Tryz.ntmps75
 go_wp2
 go_loopg [8] k (fun kq G w' => ∃ (a : Int), G = .int .i64 a ∧ Aside0 (dom_Dom_75_at_prop_Fits_1.l0 kq m (m.length : Int) a = some r) ∧ Aside0 (kq ≤ k) ∧ Aside0 (Below w.heap.size w w'))
 case atStart => exact ⟨(0), eq_, H', ⟨lr_ _⟩, ⟨bel_⟩⟩
 clear H'
 try clear p2
 obtain ⟨a, rfl, HA, A, HB⟩ := hrel
 cases gk with
 | zero => exact absurd HA.out (by simp [dom_Dom_75_at_prop_Fits_1.l0])
 | succ k1 =>
  have H := HA.out
  clear HA
  simp only [dom_Dom_75_at_prop_Fits_1.l0] at H
  by_cases c3 : a < (m.length : Int)
  rotate_left
  ·
   rw [ig_ c3] at H
   have c3b0 : decide (a < (m.length : Int)) = false := df_ c3
   clear c3
   obtain rfl := si_ H
   go_wp2
   go_ret
   exact ⟨er_, bel_⟩
  rw [ip_ c3] at H
  have c3b0 : decide (a < (m.length : Int)) = true := dt_ c3
  clear c3
  by_cases c4 : 0 ≤ a
  rotate_left
  ·
   rw [ig_ c4] at H
   exact ab_ H
  rw [ip_ c4] at H
  have c4b0 : decide (0 ≤ a) = true := dt_ c4
  clear c4
  by_cases c5 : a < (m.length : Int)
  rotate_left
  ·
   rw [ig_ c5] at H
   exact ab_ H
  rw [ip_ c5] at H
  have c5b0 : decide (a < (m.length : Int)) = true := dt_ c5
  clear c5
  replace H := bo_ H
  obtain ⟨B, F, H⟩ := H
  try dsimp only at H
  by_cases c7 : B = true
  ·
   subst c7
   rw [ip_ rfl] at H
   obtain rfl := si_ H
   have p343 : 0 ≤ (a : Int) := dq_
   have p : a < (m.length : Int) := dq_
   obtain ⟨v, u, c343_1, t, b, c, d, g, l, n, o⟩ := at_T58 z.out a p343 p
   cases t
   replace b := hx_ HB b
   replace c := hx_ HB c
   replace d := hx_ HB d
   replace g := hx_ HB g
   replace l := hx_ HB l
   have q := a_ o
   have s := a_ n
   clear o n
   replace p343 := et_ p343
   replace p := et_ p
   go_wp2_with (first | (go_at_call 57; (with_reducible refine (prop_Fits_1.calls ((rd_T58 m a).f0) _ _ ((rd_T58 m a).f1) ((rd_T58 m a).f2) ((rd_T58 m a).f3) ((rd_T58 m a).f4) true _ ?_ ?_ F.out).mono ?_); exact ca_ ((cb_ q.out HB.out)); exact s.out; rintro e w8 ⟨rfl, hb⟩; replace HB := hq_ hb; clear hb))
   go_ret
   exact ⟨er_, bel_⟩
  replace c7 := bf_.mpr c7
  subst c7
  have H1 : (dom_Dom_75_at_prop_Fits_1.l0 k1 m (m.length : Int) (wrap64 (a + 1))) = some r := by rw [ig_ (show ¬ (false = true) by decide)] at H; exact H
  clear H
  have H := H1
  clear H1
  have H' := a_ H
  clear H
  have p343 : 0 ≤ (a : Int) := dq_
  have p : a < (m.length : Int) := dq_
  obtain ⟨v, u, c343_1, t, b, c, d, g, l, n, o⟩ := at_T58 z.out a p343 p
  cases t
  replace b := hx_ HB b
  replace c := hx_ HB c
  replace d := hx_ HB d
  replace g := hx_ HB g
  replace l := hx_ HB l
  have q := a_ o
  have s := a_ n
  clear o n
  replace p343 := et_ p343
  replace p := et_ p
  go_wp2_with (first | (go_at_call 57; (with_reducible refine (prop_Fits_1.calls ((rd_T58 m a).f0) _ _ ((rd_T58 m a).f1) ((rd_T58 m a).f2) ((rd_T58 m a).f3) ((rd_T58 m a).f4) false _ ?_ ?_ F.out).mono ?_); exact ca_ ((cb_ q.out HB.out)); exact s.out; rintro e w9 ⟨rfl, hb⟩; replace HB := hq_ hb; clear hb))
  go_roundg k1
  case measure => have := A.out; omega
  exact ⟨(wrap64 (a + 1)), eq_, H', ⟨by have := A.out; omega⟩, ⟨bel_⟩⟩

/-! ### dom_Dom_56_at_prop_Fits_1: function 56 -/
def dom_Dom_56_at_prop_Fits_1.f (k : Nat) (b : List (S58))  : Option (Bool) := (dom_Dom_75_at_prop_Fits_1.f k b).bind fun a => (some (decide (a ≥ 0)))
theorem dom_Dom_56_at_prop_Fits_1.mono : ∀ a k, LeO (dom_Dom_56_at_prop_Fits_1.f k a) (dom_Dom_56_at_prop_Fits_1.f (k + 1) a) := by
 intro a k
 unfold dom_Dom_56_at_prop_Fits_1.f
 have m0 := @dom_Dom_75_at_prop_Fits_1.mono
 exact leo_
set_option maxHeartbeats 8000000 in
set_option maxRecDepth 100000 in
theorem dom_Dom_56_at_prop_Fits_1.calls (k : Nat) (d : Option Addr) (c0 : Nat) (a : List (S58))  (r : Bool) (w : World) (b : Kd.C k58 w d a.length a) (c : a.length ≤ c0) (h : dom_Dom_56_at_prop_Fits_1.f k a = some r) :
  Calls Tryz.prog 56 #[.slice d a.length c0, .func (.func 57) #[] #[]] w fun e w' => e = .returned (.bool r) ∧ Below w.heap.size w w' := by
 have l := a_ b
 have m := a_ c
 clear b c
 have HB := a_ (Below.refl w.heap.size w)
 unfold dom_Dom_56_at_prop_Fits_1.f at h
 have H := h
 clear h
 replace H := bo_ H
 obtain ⟨g, n, H⟩ := H
 try dsimp only at H
 obtain rfl := si_ H
 go_enter Tryz.func56, Tryz.ntmps56
 go_wp2_with (first | ((with_reducible refine gate_callee (f := 75) rfl ?_); refine goesL_ (some 7) rfl rfl Tryz.func75 kr_ rfl #[.slice d a.length c0, .func (.func 57) #[] #[]] rfl ar_ ?_; (with_reducible refine (dom_Dom_75_at_prop_Fits_1.calls k _ _ a g _ ?_ ?_ n.out).mono ?_); exact ca_ (l.out); exact m.out; rintro e w4 ⟨rfl, hb⟩; refine ⟨_, rfl, ?_⟩; replace HB := hq_ hb; clear hb))
 go_ret
 exact ⟨er_, bel_⟩

end Go.Proofs.YtfbfalhdgmjdpaaGreatDoor.XInverseRefuses
