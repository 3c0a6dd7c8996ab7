-- by xprint.py, a program of this session, over the kit's print
import Derived.Test.YtmhchlbbfpmdgaaGreatDoorXCRex0
import Derived.Test.YtmhchlbbfpmdgaaGreatDoorXCRex7
import Derived.Test.YtmhchlbbfpmdgaaGreatDoorXCRex9
import Derived.Test.YtmhchlbbfpmdgaaGreatDoorSq
namespace Go.Proofs.YtmhchlbbfpmdgaaGreatDoor.XClauseRefuses
open Go.RowKit Go.Proofs.YtmhchlbbfpmdgaaGreatDoor.Sq Go.Proofs.YtmhchlbbfpmdgaaGreatDoorW.PrintWords Go.Proofs.YtmhchlbbfpmdgaaGreatDoorW.PrintLast Go.Proofs.YtmhchlbbfpmdgaaGreatDoorW.PrintMore
attribute [local go_sem] max2_int min2_int max_two min_two max_three min_three max_four min_four   -- for this text's walks alone
set_option linter.unusedVariables false
set_option linter.unusedSimpArgs false

/-! ### dom_Dom_73_at_prop_Fits_1: function 73 -/
def dom_Dom_73_at_prop_Fits_1.l0 : Nat → List (S58) → Int → Int → Option (Int)
 | 0, _, _, _ => none
 | k + 1, b, d, a => if a < d then (if 0 ≤ a then (if a < (b.length : Int) then ((prop_Fits_1.f ((rd_T58 b a).f0) ((rd_T58 b a).f1) ((rd_T58 b a).f2) ((rd_T58 b a).f3) ((rd_T58 b a).f4)).bind fun c => (if c = true then (some a) else (dom_Dom_73_at_prop_Fits_1.l0 k b d (wrap64 (a + 1))))) else (none)) else (none)) else (some (-1))
def dom_Dom_73_at_prop_Fits_1.f (k : Nat) (a : List (S58))  : Option (Int) := dom_Dom_73_at_prop_Fits_1.l0 k a (a.length : Int) 0
theorem dom_Dom_73_at_prop_Fits_1.mono_l : ∀ k, (∀ a b c, LeO (dom_Dom_73_at_prop_Fits_1.l0 k a b c) (dom_Dom_73_at_prop_Fits_1.l0 (k + 1) a b c))
 | 0 => by intros; exact LeO.none _
 | k + 1 => by
  have ih0 := dom_Dom_73_at_prop_Fits_1.mono_l k
  intro a b c
  unfold dom_Dom_73_at_prop_Fits_1.l0
  exact leo_
theorem dom_Dom_73_at_prop_Fits_1.mono : ∀ a k, LeO (dom_Dom_73_at_prop_Fits_1.f k a) (dom_Dom_73_at_prop_Fits_1.f (k + 1) a) := by
 intro a k
 have ih0 := dom_Dom_73_at_prop_Fits_1.mono_l k
 unfold dom_Dom_73_at_prop_Fits_1.f
 exact leo_
set_option maxHeartbeats 8000000 in
set_option maxRecDepth 100000 in
theorem dom_Dom_73_at_prop_Fits_1.calls (k : Nat) (E : Option Addr) (c0 : Nat) (m : List (S58))  (r : Int) (w : World) (x : Kd.C k58 w E m.length m) (y : m.length ≤ c0) (h : dom_Dom_73_at_prop_Fits_1.f k m = some r) :
  Calls Tryz.prog 73 #[.slice E m.length c0, .func (.func 55) #[] #[]] w fun e w' => e = .returned (.int .i64 r) ∧ Below w.heap.size w w' := by
 have hu58 := Tryz.underlying58
 have z := a_ x
 have I := a_ y
 clear x y
 have HB := a_ (Below.refl w.heap.size w)
 unfold dom_Dom_73_at_prop_Fits_1.f at h
 have H := h
 clear h
 have H' := a_ H
 clear H
 go_enter Tryz.func73, Tryz.ntmps73
 go_wp2
 go_loopg [8] k (fun kq G w' => ∃ (a : Int), G = .int .i64 a ∧ Aside0 (dom_Dom_73_at_prop_Fits_1.l0 kq m (m.length : Int) a = some r) ∧ Aside0 (kq ≤ k) ∧ Aside0 (Below w.heap.size w w'))
 case atStart => exact ⟨(0), eq_, H', ⟨lr_ _⟩, ⟨bel_⟩⟩
 clear H'
 try clear p2
 obtain ⟨a, rfl, HA, A, HB⟩ := hrel
 cases gk with
 | zero => exact absurd HA.out (by simp [dom_Dom_73_at_prop_Fits_1.l0])
 | succ k1 =>
  have H := HA.out
  clear HA
  simp only [dom_Dom_73_at_prop_Fits_1.l0] at H
  by_cases c3 : a < (m.length : Int)
  rotate_left
  ·
   rw [ig_ c3] at H
   have c3b0 : decide (a < (m.length : Int)) = false := df_ c3
   clear c3
   obtain rfl := si_ H
   go_wp2
   go_ret
   exact ⟨er_, bel_⟩
  rw [ip_ c3] at H
  have c3b0 : decide (a < (m.length : Int)) = true := dt_ c3
  clear c3
  by_cases c4 : 0 ≤ a
  rotate_left
  ·
   rw [ig_ c4] at H
   exact absurd H (by simp)
  rw [ip_ c4] at H
  have c4b0 : decide (0 ≤ a) = true := dt_ c4
  clear c4
  by_cases c5 : a < (m.length : Int)
  rotate_left
  ·
   rw [ig_ c5] at H
   exact absurd H (by simp)
  rw [ip_ c5] at H
  have c5b0 : decide (a < (m.length : Int)) = true := dt_ c5
  clear c5
  replace H := bo_ H
  obtain ⟨B, F, H⟩ := H
  try dsimp only at H
  by_cases c7 : B = true
  ·
   subst c7
   rw [ip_ rfl] at H
   obtain rfl := si_ H
   have p342 : 0 ≤ (a : Int) := dq_
   have p : a < (m.length : Int) := dq_
   obtain ⟨v, u, c342_1, t, b, c, d, g, l, n, o⟩ := at_T58 z.out a p342 p
   cases t
   replace b := (HB.out.cell (wl_ w _ b)).trans b
   replace c := (HB.out.cell (wl_ w _ c)).trans c
   replace d := (HB.out.cell (wl_ w _ d)).trans d
   replace g := (HB.out.cell (wl_ w _ g)).trans g
   replace l := (HB.out.cell (wl_ w _ l)).trans l
   have q := a_ o
   have s := a_ n
   clear o n
   replace p342 := et_ p342
   replace p := et_ p
   go_wp2_with (first | (go_at_call 55; (with_reducible refine (prop_Fits_1.calls ((rd_T58 m a).f0) _ _ ((rd_T58 m a).f1) ((rd_T58 m a).f2) ((rd_T58 m a).f3) ((rd_T58 m a).f4) true _ ?_ ?_ F.out).mono ?_); exact ca_ ((cb_ q.out HB.out)); exact s.out; rintro e w8 ⟨rfl, hb⟩; replace HB := hq_ hb; clear hb))
   go_ret
   exact ⟨er_, bel_⟩
  replace c7 := bf_.mpr c7
  subst c7
  have H1 : (dom_Dom_73_at_prop_Fits_1.l0 k1 m (m.length : Int) (wrap64 (a + 1))) = some r := by rw [ig_ (show ¬ (false = true) by decide)] at H; exact H
  clear H
  have H := H1
  clear H1
  have H' := a_ H
  clear H
  have p342 : 0 ≤ (a : Int) := dq_
  have p : a < (m.length : Int) := dq_
  obtain ⟨v, u, c342_1, t, b, c, d, g, l, n, o⟩ := at_T58 z.out a p342 p
  cases t
  replace b := (HB.out.cell (wl_ w _ b)).trans b
  replace c := (HB.out.cell (wl_ w _ c)).trans c
  replace d := (HB.out.cell (wl_ w _ d)).trans d
  replace g := (HB.out.cell (wl_ w _ g)).trans g
  replace l := (HB.out.cell (wl_ w _ l)).trans l
  have q := a_ o
  have s := a_ n
  clear o n
  replace p342 := et_ p342
  replace p := et_ p
  go_wp2_with (first | (go_at_call 55; (with_reducible refine (prop_Fits_1.calls ((rd_T58 m a).f0) _ _ ((rd_T58 m a).f1) ((rd_T58 m a).f2) ((rd_T58 m a).f3) ((rd_T58 m a).f4) false _ ?_ ?_ F.out).mono ?_); exact ca_ ((cb_ q.out HB.out)); exact s.out; rintro e w9 ⟨rfl, hb⟩; replace HB := hq_ hb; clear hb))
  go_roundg k1
  case measure => have := A.out; omega
  exact ⟨(wrap64 (a + 1)), eq_, H', ⟨by have := A.out; omega⟩, ⟨bel_⟩⟩

/-! ### dom_Dom_54_at_prop_Fits_1: function 54 -/
def dom_Dom_54_at_prop_Fits_1.f (k : Nat) (b : List (S58))  : Option (Bool) := (dom_Dom_73_at_prop_Fits_1.f k b).bind fun a => (some (decide (a ≥ 0)))
theorem dom_Dom_54_at_prop_Fits_1.mono : ∀ a k, LeO (dom_Dom_54_at_prop_Fits_1.f k a) (dom_Dom_54_at_prop_Fits_1.f (k + 1) a) := by
 intro a k
 unfold dom_Dom_54_at_prop_Fits_1.f
 have m0 := @dom_Dom_73_at_prop_Fits_1.mono
 exact leo_
set_option maxHeartbeats 8000000 in
set_option maxRecDepth 100000 in
theorem dom_Dom_54_at_prop_Fits_1.calls (k : Nat) (d : Option Addr) (c0 : Nat) (a : List (S58))  (r : Bool) (w : World) (b : Kd.C k58 w d a.length a) (c : a.length ≤ c0) (h : dom_Dom_54_at_prop_Fits_1.f k a = some r) :
  Calls Tryz.prog 54 #[.slice d a.length c0, .func (.func 55) #[] #[]] w fun e w' => e = .returned (.bool r) ∧ Below w.heap.size w w' := by
 have l := a_ b
 have m := a_ c
 clear b c
 have HB := a_ (Below.refl w.heap.size w)
 unfold dom_Dom_54_at_prop_Fits_1.f at h
 have H := h
 clear h
 replace H := bo_ H
 obtain ⟨g, n, H⟩ := H
 try dsimp only at H
 obtain rfl := si_ H
 go_enter Tryz.func54, Tryz.ntmps54
 go_wp2_with (first | ((with_reducible refine gate_callee (f := 73) rfl ?_); refine goesL_ (some 7) rfl rfl Tryz.func73 kr_ rfl #[.slice d a.length c0, .func (.func 55) #[] #[]] rfl ar_ ?_; (with_reducible refine (dom_Dom_73_at_prop_Fits_1.calls k _ _ a g _ ?_ ?_ n.out).mono ?_); exact ca_ (l.out); exact m.out; rintro e w4 ⟨rfl, hb⟩; refine ⟨_, rfl, ?_⟩; replace HB := hq_ hb; clear hb))
 go_ret
 exact ⟨er_, bel_⟩

/-! ### prop_Fits: function 26 -/
def prop_Fits.f (k : Nat) (a : Int) (b : List Int) (c : List Int) (d : List Int) (e : List Int) (g : List Int) (l : Int) (m : List (List Int)) (p : List (S58)) (q : Int) (r : Int) : Option (Bool) := (dom_Dom_54_at_prop_Fits_1.f k p).bind fun n => (if a ≥ q then (if a ≤ r then ((model_Right.f k a b c d e g l m 256).bind fun o => (if o = 0 then (if (p.length : Int) = (wrap64 ((b.length : Int) + (c.length : Int))) then (some (!n)) else (some false)) else (some false))) else (some false)) else (some false))
theorem prop_Fits.mono : ∀ b c d e g l m n o p a k, LeO (prop_Fits.f k b c d e g l m n o p a) (prop_Fits.f (k + 1) b c d e g l m n o p a) := by
 intro b c d e g l m n o p a k
 unfold prop_Fits.f
 have m0 := @dom_Dom_54_at_prop_Fits_1.mono
 have m1 := @model_Right.mono
 exact leo_
set_option maxHeartbeats 8000000 in
set_option maxRecDepth 100000 in
theorem prop_Fits.calls (k : Nat) (d : Int) (v : Option Addr) (c0_1 : Nat) (b : List Int) (x : Option Addr) (c0_2 : Nat) (c : List Int) (y : Option Addr) (c0_3 : Nat) (g : List Int) (z : Option Addr) (c0_4 : Nat) (l : List Int) (A : Option Addr) (c0_5 : Nat) (m : List Int) (q : Int) (B : Option Addr) (c0_7 : Nat) (n : List (List Int)) (A1 : Option Addr) (c1 : Nat) (s : List (S58)) (a2 : Int) (a3 : Int) (r : Bool) (w : World) (ab : Kd.C (Kd.int .i64) w v b.length b) (ac : b.length ≤ c0_1) (ad : Kd.C (Kd.int .i64) w x c.length c) (ae : c.length ≤ c0_2) (af : Kd.C (Kd.int .i64) w y g.length g) (ag : g.length ≤ c0_3) (ah : Kd.C (Kd.int .i64) w z l.length l) (ai : l.length ≤ c0_4) (aj : Kd.C (Kd.int .i64) w A m.length m) (ak : m.length ≤ c0_5) (al : Kd.C (Kd.slice 3 (Kd.int .i64)) w B n.length n) (am : n.length ≤ c0_7) (aq : Kd.C k58 w A1 s.length s) (ar : s.length ≤ c1) (h : prop_Fits.f k d b c g l m q n s a2 a3 = some r) :
  Calls Tryz.prog 26 #[.agg #[.int .i64 d, .slice v b.length c0_1, .slice x c.length c0_2, .slice y g.length c0_3, .slice z l.length c0_4, .slice A m.length c0_5, .int .i64 q, .slice B n.length c0_7], .slice A1 s.length c1, .int .i64 a2, .int .i64 a3] w fun e w' => e = .returned (.bool r) ∧ Below w.heap.size w w' := by
 have hu32 := Tryz.underlying32
 have G := a_ ab
 have I := a_ ac
 clear ab ac
 have J := a_ ad
 have K := a_ ae
 clear ad ae
 have M := a_ af
 have O := a_ ag
 clear af ag
 have P := a_ ah
 have Q := a_ ai
 clear ah ai
 have U := a_ aj
 have V := a_ ak
 clear aj ak
 have W := a_ al
 have X := a_ am
 clear al am
 have Y := a_ aq
 have Z := a_ ar
 clear aq ar
 have HB := a_ (Below.refl w.heap.size w)
 unfold prop_Fits.f at h
 have H := h
 clear h
 replace H := bo_ H
 obtain ⟨F, A5, H⟩ := H
 try dsimp only at H
 by_cases c6 : d ≥ a2
 rotate_left
 ·
  rw [ig_ c6] at H
  have c6b0 : decide (a2 ≤ d) = false := df_ c6
  clear c6
  obtain rfl := si_ H
  go_enter Tryz.func26, Tryz.ntmps26
  go_wp2_with (first | ((with_reducible refine gate_dst (N := 4) rfl ?_); (try (refine gate_guard (by rfl) ?_; dsimp only)); refine bxe_ (N := 4) (cs := #[.int .i64 d, .slice v b.length c0_1, .slice x c.length c0_2, .slice y g.length c0_3, .slice z l.length c0_4, .slice A m.length c0_5, .int .i64 q, .slice B n.length c0_7]) (t := 32) ?_; intro o hg w28 hbox hb; have a := a_ (hbox); have p := a_ (by rw [hg]; exact (bz_ bel_) : w.heap.size ≤ o); have E := p; replace HB := hq_ hb; clear hb hbox hg) | ((with_reducible refine gate_callee (f := 54) rfl ?_); refine goesL_ (some 11) rfl rfl Tryz.func54 kr_ rfl #[.slice A1 s.length c1, .func (.func 55) #[] #[]] rfl ar_ ?_; (with_reducible refine (dom_Dom_54_at_prop_Fits_1.calls k _ _ s F _ ?_ ?_ A5.out).mono ?_); exact ca_ ((cb_ Y.out HB.out)); exact Z.out; rintro e w29 ⟨rfl, hb⟩; refine ⟨_, rfl, ?_⟩; replace a := a_ (bq_ a.out hb); replace HB := hq_ hb; clear hb; obtain ⟨_, _, _, _, _, _, _, _, _, _, _, _, _, _, _, _⟩ := cel8_ a.out))
  go_ret
  exact ⟨er_, bel_⟩
 rw [ip_ c6] at H
 have c6b0 : decide (a2 ≤ d) = true := dt_ c6
 clear c6
 by_cases c7 : d ≤ a3
 rotate_left
 ·
  rw [ig_ c7] at H
  have c7b0 : decide (d ≤ a3) = false := df_ c7
  clear c7
  obtain rfl := si_ H
  go_enter Tryz.func26, Tryz.ntmps26
  go_wp2_with (first | ((with_reducible refine gate_dst (N := 4) rfl ?_); (try (refine gate_guard (by rfl) ?_; dsimp only)); refine bxe_ (N := 4) (cs := #[.int .i64 d, .slice v b.length c0_1, .slice x c.length c0_2, .slice y g.length c0_3, .slice z l.length c0_4, .slice A m.length c0_5, .int .i64 q, .slice B n.length c0_7]) (t := 32) ?_; intro o hg w25 hbox hb; have a := a_ (hbox); have p := a_ (by rw [hg]; exact (bz_ bel_) : w.heap.size ≤ o); have E := p; replace HB := hq_ hb; clear hb hbox hg) | ((with_reducible refine gate_callee (f := 54) rfl ?_); refine goesL_ (some 11) rfl rfl Tryz.func54 kr_ rfl #[.slice A1 s.length c1, .func (.func 55) #[] #[]] rfl ar_ ?_; (with_reducible refine (dom_Dom_54_at_prop_Fits_1.calls k _ _ s F _ ?_ ?_ A5.out).mono ?_); exact ca_ ((cb_ Y.out HB.out)); exact Z.out; rintro e w26 ⟨rfl, hb⟩; refine ⟨_, rfl, ?_⟩; replace a := a_ (bq_ a.out hb); replace HB := hq_ hb; clear hb; obtain ⟨_, _, _, _, _, _, _, _, _, _, _, _, _, _, _, _⟩ := cel8_ a.out))
  go_ret
  exact ⟨er_, bel_⟩
 rw [ip_ c7] at H
 have c7b0 : decide (d ≤ a3) = true := dt_ c7
 clear c7
 replace H := bo_ H
 obtain ⟨u, A8, H⟩ := H
 try dsimp only at H
 by_cases c9 : u = 0
 rotate_left
 ·
  rw [ig_ c9] at H
  have c9b0 : (u == 0) = false := be_.mpr c9
  have c9b1 : (u != 0) = true := ni_.mpr c9
  obtain rfl := si_ H
  go_enter Tryz.func26, Tryz.ntmps26
  go_wp2_with (first | ((with_reducible refine gate_dst (N := 4) rfl ?_); (try (refine gate_guard (by rfl) ?_; dsimp only)); refine bxe_ (N := 4) (cs := #[.int .i64 d, .slice v b.length c0_1, .slice x c.length c0_2, .slice y g.length c0_3, .slice z l.length c0_4, .slice A m.length c0_5, .int .i64 q, .slice B n.length c0_7]) (t := 32) ?_; intro o hg w21 hbox hb; have a := a_ (hbox); have p := a_ (by rw [hg]; exact (bz_ bel_) : w.heap.size ≤ o); have E := p; replace HB := hq_ hb; clear hb hbox hg) | ((with_reducible refine gate_callee (f := 54) rfl ?_); refine goesL_ (some 11) rfl rfl Tryz.func54 kr_ rfl #[.slice A1 s.length c1, .func (.func 55) #[] #[]] rfl ar_ ?_; (with_reducible refine (dom_Dom_54_at_prop_Fits_1.calls k _ _ s F _ ?_ ?_ A5.out).mono ?_); exact ca_ ((cb_ Y.out HB.out)); exact Z.out; rintro e w22 ⟨rfl, hb⟩; refine ⟨_, rfl, ?_⟩; replace a := a_ (bq_ a.out hb); replace HB := hq_ hb; clear hb; obtain ⟨_, _, _, _, _, _, _, _, _, _, _, _, _, _, _, _⟩ := cel8_ a.out) | (go_at_call 57; (with_reducible refine (model_Right.calls k d _ _ b _ _ c _ _ g _ _ l _ _ m q _ _ n 256 u _ ?_ ?_ ?_ ?_ ?_ ?_ ?_ ?_ ?_ ?_ ?_ ?_ A8.out).mono ?_); exact ca_ ((cb_ G.out HB.out)); exact I.out; exact ca_ ((cb_ J.out HB.out)); exact K.out; exact ca_ ((cb_ M.out HB.out)); exact O.out; exact ca_ ((cb_ P.out HB.out)); exact Q.out; exact ca_ ((cb_ U.out HB.out)); exact V.out; exact ca_ ((cb_ W.out HB.out)); exact X.out; rintro e w24 ⟨rfl, hb⟩; replace HB := hq_ hb; clear hb))
  go_ret
  exact ⟨er_, bel_⟩
 rw [ip_ c9] at H
 have c9b0 : (u == 0) = true := beq_iff_eq.mpr c9
 have c9b1 : (u != 0) = false := bn_.mpr c9
 clear c9
 by_cases c10 : (s.length : Int) = (wrap64 ((b.length : Int) + (c.length : Int)))
 rotate_left
 ·
  rw [ig_ c10] at H
  have c10b0 : ((s.length : Int) == (wrap64 ((b.length : Int) + (c.length : Int)))) = false := be_.mpr c10
  have c10b1 : ((s.length : Int) != (wrap64 ((b.length : Int) + (c.length : Int)))) = true := ni_.mpr c10
  obtain rfl := si_ H
  go_enter Tryz.func26, Tryz.ntmps26
  go_wp2_with (first | ((with_reducible refine gate_dst (N := 4) rfl ?_); (try (refine gate_guard (by rfl) ?_; dsimp only)); refine bxe_ (N := 4) (cs := #[.int .i64 d, .slice v b.length c0_1, .slice x c.length c0_2, .slice y g.length c0_3, .slice z l.length c0_4, .slice A m.length c0_5, .int .i64 q, .slice B n.length c0_7]) (t := 32) ?_; intro o hg w16 hbox hb; have a := a_ (hbox); have p := a_ (by rw [hg]; exact (bz_ bel_) : w.heap.size ≤ o); have E := p; replace HB := hq_ hb; clear hb hbox hg) | ((with_reducible refine gate_callee (f := 54) rfl ?_); refine goesL_ (some 11) rfl rfl Tryz.func54 kr_ rfl #[.slice A1 s.length c1, .func (.func 55) #[] #[]] rfl ar_ ?_; (with_reducible refine (dom_Dom_54_at_prop_Fits_1.calls k _ _ s F _ ?_ ?_ A5.out).mono ?_); exact ca_ ((cb_ Y.out HB.out)); exact Z.out; rintro e w17 ⟨rfl, hb⟩; refine ⟨_, rfl, ?_⟩; replace a := a_ (bq_ a.out hb); replace HB := hq_ hb; clear hb; obtain ⟨_, _, _, _, _, _, _, _, _, _, _, _, _, _, _, _⟩ := cel8_ a.out) | (go_at_call 57; (with_reducible refine (model_Right.calls k d _ _ b _ _ c _ _ g _ _ l _ _ m q _ _ n 256 u _ ?_ ?_ ?_ ?_ ?_ ?_ ?_ ?_ ?_ ?_ ?_ ?_ A8.out).mono ?_); exact ca_ ((cb_ G.out HB.out)); exact I.out; exact ca_ ((cb_ J.out HB.out)); exact K.out; exact ca_ ((cb_ M.out HB.out)); exact O.out; exact ca_ ((cb_ P.out HB.out)); exact Q.out; exact ca_ ((cb_ U.out HB.out)); exact V.out; exact ca_ ((cb_ W.out HB.out)); exact X.out; rintro e w19 ⟨rfl, hb⟩; replace a := a_ (bq_ a.out hb); replace HB := hq_ hb; clear hb; obtain ⟨_, _, _, _, _, _, _, _, _, _, _, _, _, _, _, _⟩ := cel8_ a.out))
  go_ret
  exact ⟨er_, bel_⟩
 rw [ip_ c10] at H
 have c10b0 : ((s.length : Int) == (wrap64 ((b.length : Int) + (c.length : Int)))) = true := beq_iff_eq.mpr c10
 have c10b1 : ((s.length : Int) != (wrap64 ((b.length : Int) + (c.length : Int)))) = false := bn_.mpr c10
 clear c10
 obtain rfl := si_ H
 go_enter Tryz.func26, Tryz.ntmps26
 go_wp2_with (first | ((with_reducible refine gate_dst (N := 4) rfl ?_); (try (refine gate_guard (by rfl) ?_; dsimp only)); refine bxe_ (N := 4) (cs := #[.int .i64 d, .slice v b.length c0_1, .slice x c.length c0_2, .slice y g.length c0_3, .slice z l.length c0_4, .slice A m.length c0_5, .int .i64 q, .slice B n.length c0_7]) (t := 32) ?_; intro o hg w11 hbox hb; have a := a_ (hbox); have p := a_ (by rw [hg]; exact (bz_ bel_) : w.heap.size ≤ o); have E := p; replace HB := hq_ hb; clear hb hbox hg) | ((with_reducible refine gate_callee (f := 54) rfl ?_); refine goesL_ (some 11) rfl rfl Tryz.func54 kr_ rfl #[.slice A1 s.length c1, .func (.func 55) #[] #[]] rfl ar_ ?_; (with_reducible refine (dom_Dom_54_at_prop_Fits_1.calls k _ _ s F _ ?_ ?_ A5.out).mono ?_); exact ca_ ((cb_ Y.out HB.out)); exact Z.out; rintro e w12 ⟨rfl, hb⟩; refine ⟨_, rfl, ?_⟩; replace a := a_ (bq_ a.out hb); replace HB := hq_ hb; clear hb; obtain ⟨_, _, _, _, _, _, _, _, _, _, _, _, _, _, _, _⟩ := cel8_ a.out) | (go_at_call 57; (with_reducible refine (model_Right.calls k d _ _ b _ _ c _ _ g _ _ l _ _ m q _ _ n 256 u _ ?_ ?_ ?_ ?_ ?_ ?_ ?_ ?_ ?_ ?_ ?_ ?_ A8.out).mono ?_); exact ca_ ((cb_ G.out HB.out)); exact I.out; exact ca_ ((cb_ J.out HB.out)); exact K.out; exact ca_ ((cb_ M.out HB.out)); exact O.out; exact ca_ ((cb_ P.out HB.out)); exact Q.out; exact ca_ ((cb_ U.out HB.out)); exact V.out; exact ca_ ((cb_ W.out HB.out)); exact X.out; rintro e w14 ⟨rfl, hb⟩; replace a := a_ (bq_ a.out hb); replace HB := hq_ hb; clear hb; obtain ⟨_, _, _, _, _, _, _, _, _, _, _, _, _, _, _, _⟩ := cel8_ a.out))
 go_ret
 exact ⟨er_, bel_⟩

/-! ### slices_CloneDom: function 27 -/
def slices_CloneDom.f (a : List S58) : Option (List S58) := if a.length < 1000000000000 then some a else none
theorem infoDom : (Tryz.prog.info? 58).map (fun i => (i.zero, i.size, i.bytes)) = some (some (.agg #[.int .i64 0, .slice none 0 0, .int .i64 0, .int .i64 0, .int .i64 0]), 5, 56) := by kernel_rfl
theorem slices_CloneDom.calls (P0_ : Nat → Prop) (o : Option Addr) (c0 : Nat) (g : List S58) (r : List S58) (w : World) (l : Kd.V k58 58 w w.heap.size (fun d => P0_ d) (.slice o g.length c0) g) (h : slices_CloneDom.f g = some r) :
  Calls Tryz.prog 27 #[.slice o g.length c0] w fun e w' => ∃ m : Value, e = .returned (m) ∧ Kd.N k58 58 w' w.heap.size (fun d => (P0_ d ∨ w.heap.size ≤ d)) m r ∧ Below w.heap.size w w' := by
 unfold slices_CloneDom.f at h
 by_cases hb : g.length < 1000000000000
 rotate_left
 · rw [if_neg hb] at h; cases h
 rw [if_pos hb] at h
 obtain rfl := Option.some.inj h
 clear h
 rcases o with _ | ad
 ·
  have h0 : g = [] := by
   rcases Nat.eq_zero_or_pos g.length with h0 | h0
   · exact List.eq_nil_of_length_eq_zero h0
   obtain ⟨ad, e, _⟩ := (Kd.F_now (Kd.V_F l)).2.2 h0; cases e
  subst h0
  have qT : ∀ (w : World) (a : Option Addr) (n c n' c' : Nat), (binOp .eql 36 (.slice a n c) (.slice none n' c')).run Tryz.prog w = .ok (.bool a.isNone) w := fun w a n c n' c' => Lib.run_eql_slice_nil w _ _ a n c n' c' Tryz.underlying36
  clear l hb
  go_enter Tryz.func27, Tryz.ntmps27
  go_wp2
  go_ret
  exact ⟨_, rfl, Kd.N_nil _ _ _ _ _, Below.refl _ _⟩
 have qT : ∀ (w : World) (a : Option Addr) (n c n' c' : Nat), (binOp .eql 36 (.slice a n c) (.slice none n' c')).run Tryz.prog w = .ok (.bool a.isNone) w := fun w a n c n' c' => Lib.run_eql_slice_nil w _ _ a n c n' c' Tryz.underlying36
 have HR := Aside0.mk l
 have HL := Aside0.mk hb
 clear l hb
 go_enter Tryz.func27, Tryz.ntmps27
 go_wp2_with (first | ((with_reducible refine gate_dst (N := 5) rfl ?_); refine Kd.R_lit k58 _ 58 ?hg (N := 5) ?hd (xs := ([] : List S58)) (inner := []) (ok := fun d => w.heap.size ≤ d) (okp := fun _ => False) ?hr ?hp (fun _ hk => hk.elim) (Nat.le_refl _) (Below.refl _ _) (Nat.le_refl _) (by simp) ?_; (case hd => rfl); (case hg => rfl); (case hr => first | (go_simp; done) | (go_simp; rfl)); (case hp => exact Reps.none _ _); intro p w1 hR hB hG hat; have HO := Aside0.mk (Kd.N_mono (Kd.R_N hR) (ok' := fun d => (P0_ d ∧ d < w.heap.size) ∨ w.heap.size ≤ d) (fun k hk => Or.inr hk)); have HB := Aside0.mk hB; have HV := Aside0.mk (fun k (hk : some k = p.ownBlock) => hR.1 k hk.symm); clear hR hB hG hat) | ((with_reducible refine gate_builtin (b := .append) (xs := #[.tmp 5, .tmp 6]) rfl ?_); at_builtin; refine Kd.N_append_rows k58 (w0 := w) w.heap.size rfl (.tmp 5) (.tmp 6) 36 58 (.agg #[.int .i64 0, .slice none 0 0, .int .i64 0, .int .i64 0, .int .i64 0]) 56 rfl Tryz.underlying36 infoDom rfl (by decide) (by decide) p [] g (some ad) g.length c0 (fun d => (P0_ d ∧ d < w.heap.size) ∨ w.heap.size ≤ d) (fun d => P0_ d ∧ d < w.heap.size) rfl rfl HO.out (Kd.V_F (Kd.V_below (Kd.V_bound HR.out) HB.out)) (fun k hk => ⟨Or.inl hk, fun he => Nat.lt_irrefl _ (Nat.lt_of_lt_of_le hk.2 (HV.out k he))⟩) (fun k hk => Or.inr (Nat.le_trans HB.out.size hk)) HB.out HB.out.size (by have := HL.out; simp only [List.length_nil]; omega) ?_; intro s w2 hR hB hG hat; have q := Aside0.mk hR; have HB2 := Aside0.mk hB; clear hR hB hG hat))
 go_ret
 exact ⟨_, rfl, Kd.N_mono q.out (fun k hk => hk.elim (fun h => Or.inl h.1) Or.inr), HB2.out⟩

/-! ### clause_want: function 28 -/
def clause_want.f (b : Int) (a : List Int) (c : List Int) (d : List Int) (e : List Int) (g : List Int) (l : Int) (m : List (List Int)) (n : Int) : Option (Int) := if n < (a.length : Int) then (some 1) else (some 0)
set_option maxHeartbeats 8000000 in
set_option maxRecDepth 100000 in
theorem clause_want.calls (m : Int) (n : Option Addr) (c0_1 : Nat) (a : List Int) (o : Option Addr) (c0_2 : Nat) (b : List Int) (p : Option Addr) (c0_3 : Nat) (c : List Int) (q : Option Addr) (c0_4 : Nat) (d : List Int) (s : Option Addr) (c0_5 : Nat) (g : List Int) (u : Int) (v : Option Addr) (c0_7 : Nat) (l : List (List Int)) (J : Int) (r : Int) (w : World) (K : Kd.C (Kd.int .i64) w n a.length a) (A : a.length ≤ c0_1) (M : Kd.C (Kd.int .i64) w o b.length b) (B : b.length ≤ c0_2) (O : Kd.C (Kd.int .i64) w p c.length c) (E : c.length ≤ c0_3) (P : Kd.C (Kd.int .i64) w q d.length d) (F : d.length ≤ c0_4) (Q : Kd.C (Kd.int .i64) w s g.length g) (G : g.length ≤ c0_5) (U : Kd.C (Kd.slice 3 (Kd.int .i64)) w v l.length l) (I : l.length ≤ c0_7) (h : clause_want.f m a b c d g u l J = some r) :
  Calls Tryz.prog 28 #[.agg #[.int .i64 m, .slice n a.length c0_1, .slice o b.length c0_2, .slice p c.length c0_3, .slice q d.length c0_4, .slice s g.length c0_5, .int .i64 u, .slice v l.length c0_7], .int .i64 J] w fun e w' => e = .returned (.int .i64 r) ∧ Below w.heap.size w w' := by
 have hu32 := Tryz.underlying32
 have W := a_ A
 clear K A
 have X := a_ B
 clear M B
 have Y := a_ E
 clear O E
 have Z := a_ F
 clear P F
 have aa := a_ G
 clear Q G
 have ab := a_ I
 clear U I
 have HB := a_ (Below.refl w.heap.size w)
 unfold clause_want.f at h
 have H := h
 clear h
 by_cases c3 : J < (a.length : Int)
 ·
  rw [ip_ c3] at H
  have c3b0 : decide (J < (a.length : Int)) = true := dt_ c3
  clear c3
  obtain rfl := si_ H
  go_enter Tryz.func28, Tryz.ntmps28
  go_wp2_with (first | ((with_reducible refine gate_dst (N := 2) rfl ?_); refine bxe_ (N := 2) (cs := #[.int .i64 m, .slice n a.length c0_1, .slice o b.length c0_2, .slice p c.length c0_3, .slice q d.length c0_4, .slice s g.length c0_5, .int .i64 u, .slice v l.length c0_7]) (t := 32) ?_; intro x hg w4 hbox hb; have y := a_ (hbox); have z := a_ (by rw [hg]; exact (bz_ bel_) : w.heap.size ≤ x); have V := z; replace HB := hq_ hb; clear hb hbox hg; obtain ⟨_, _, _, _, _, _, _, _, _, _, _, _, _, _, _, _⟩ := cel8_ y.out))
  go_ret
  exact ⟨er_, bel_⟩
 rw [ig_ c3] at H
 have c3b0 : decide (J < (a.length : Int)) = false := df_ c3
 clear c3
 obtain rfl := si_ H
 go_enter Tryz.func28, Tryz.ntmps28
 go_wp2_with (first | ((with_reducible refine gate_dst (N := 2) rfl ?_); refine bxe_ (N := 2) (cs := #[.int .i64 m, .slice n a.length c0_1, .slice o b.length c0_2, .slice p c.length c0_3, .slice q d.length c0_4, .slice s g.length c0_5, .int .i64 u, .slice v l.length c0_7]) (t := 32) ?_; intro x hg w6 hbox hb; have y := a_ (hbox); have z := a_ (by rw [hg]; exact (bz_ bel_) : w.heap.size ≤ x); have V := z; replace HB := hq_ hb; clear hb hbox hg; obtain ⟨_, _, _, _, _, _, _, _, _, _, _, _, _, _, _, _⟩ := cel8_ y.out))
 go_ret
 exact ⟨er_, bel_⟩

/-! ### bits_TrailingZeros64: function 48 -/
def tabL : List Int := [0, 1, 56, 2, 57, 49, 28, 3, 61, 58, 42, 50, 38, 29, 17, 4, 62, 47, 59, 36, 45, 43, 51, 22, 53, 39, 33, 30, 24, 18, 12, 5, 63, 55, 48, 27, 60, 41, 37, 16, 46, 35, 44, 21, 52, 32, 23, 11, 54, 26, 40, 15, 34, 20, 31, 10, 25, 14, 19, 9, 13, 8, 7, 6]
def bits_TrailingZeros64.f (a : Int) : Option Int := if 0 ≤ a ∧ a < 18446744073709551616 then some (Lib.ctz 64 a.toNat : Nat) else none
theorem tz64_key (x a : Nat) (hx : x < 18446744073709551616) (hx0 : x ≠ 0) (hlow : x &&& (18446744073709551616 - x) = a) :
  IntKind.u64.wrap (Go.bits .and .u64 (x : Int) (IntKind.u64.wrap (-(x : Int))) * 285870213051353865) / 288230376151711744 = ((a * 285870213051353865 % 18446744073709551616 / 288230376151711744 : Nat) : Int) := by
 have e1 : IntKind.u64.wrap (-(x : Int)) = ((18446744073709551616 - x : Nat) : Int) := by rw [IntKind.wrap_u64]; omega
 rw [e1, bits_and_u64_nat x _ hx (by omega), hlow, IntKind.wrap_u64]
 omega
set_option maxHeartbeats 1000000 in
theorem tz64_core (x k idx : Nat) (w : World) (hx0 : ((x : Int) == 0) = false)
  (key : IntKind.u64.wrap (Go.bits .and .u64 (x : Int) (IntKind.u64.wrap (-(x : Int))) * 285870213051353865) / 288230376151711744 = (idx : Int))
  (hi : idx < 64) (hk : k < 64) (hcell : w.cell? ⟨0, idx, none⟩ = some (.int .u8 k)) :
  Calls Tryz.prog 48 #[.int .u64 x] w fun e w' => e = .returned (.int .i64 k) ∧ w = w' := by
 go_enter Tryz.func48, Tryz.ntmps48
 go_wp2_with (simp only [key])
 go_ret
 exact ⟨rfl, rfl⟩
theorem tz64_zero (w : World) : Calls Tryz.prog 48 #[.int .u64 0] w fun e w' => e = .returned (.int .i64 64) ∧ w = w' := by
 go_enter Tryz.func48, Tryz.ntmps48
 go_wp2
 go_ret
 exact ⟨rfl, rfl⟩
theorem tabL_at (i : Nat) (h : i < 64) : tabL.getD i 0 = ((Lib.deBruijn64tab.getD i 0 : Nat) : Int) := by
 revert i; decide +kernel
theorem bits_TrailingZeros64.calls (b : Int) (r : Int) (w : World) (hrtab : Kd.C (Kd.int .u8) w (some ⟨0, 0, none⟩) tabL.length tabL) (h : bits_TrailingZeros64.f b = some r) :
  Calls Tryz.prog 48 #[.int .u64 b] w fun e w' => e = .returned (.int .i64 r) ∧ Drawn0 w w' := by
 unfold bits_TrailingZeros64.f at h
 by_cases hb : 0 ≤ b ∧ b < 18446744073709551616
 rotate_left
 ·
  rw [if_neg hb] at h
  cases h
 rw [if_pos hb] at h
 obtain rfl := Option.some.inj h
 obtain ⟨x, rfl⟩ := Int.eq_ofNat_of_zero_le hb.1
 rw [Int.toNat_natCast]
 by_cases a : x = 0
 ·
  subst a
  exact (tz64_zero w).mono (fun e w' ⟨he, hw⟩ => ⟨he, by subst hw; exact Drawn0.refl _⟩)
 have hx : x < 18446744073709551616 := by omega
 obtain ⟨hlow, hk⟩ := Lib.lowest_bit 64 x a hx
 obtain ⟨hi, htab⟩ := Lib.deBruijn64_at _ hk
 obtain ⟨ad, had, hcell⟩ := Kd.at_int hrtab ((2 ^ Lib.ctz 64 x * 285870213051353865 % 18446744073709551616 / 288230376151711744 : Nat) : Int) (by omega) (by show _ < ((64 : Nat) : Int); omega)
 obtain rfl := Option.some.inj had
 rw [Int.toNat_natCast] at hcell
 have c : rd tabL ((2 ^ Lib.ctz 64 x * 285870213051353865 % 18446744073709551616 / 288230376151711744 : Nat) : Int) = ((Lib.ctz 64 x : Nat) : Int) := by
  unfold rd
  rw [Int.toNat_natCast, tabL_at _ hi, htab]
 rw [c, add_plain] at hcell
 exact (tz64_core x _ _ w (by simp; omega) (tz64_key x _ hx a hlow) hi hk hcell).mono (fun e w' ⟨he, hw⟩ => ⟨he, by subst hw; exact Drawn0.refl _⟩)

/-! ### bits_LeadingZeros64: function 84 -/
def bits_LeadingZeros64.f (a : Int) : Option Int := if 0 ≤ a ∧ a < 18446744073709551616 then some (64 - (Lib.bitLen a.toNat : Int)) else none
theorem bits_LeadingZeros64.calls (a : Int) (r : Int) (w : World) (h : bits_LeadingZeros64.f a = some r) :
  Calls Tryz.prog 84 #[.int .u64 a] w fun e w' => e = .returned (.int .i64 r) ∧ Below w.heap.size w w' := by
 unfold bits_LeadingZeros64.f at h
 by_cases hb : 0 ≤ a ∧ a < 18446744073709551616
 rotate_left
 · rw [if_neg hb] at h; cases h
 rw [if_pos hb] at h
 obtain rfl := Option.some.inj h
 exact (Tryz.bits_LeadingZeros64 a w hb.1 (by omega)).mono (fun e w' ⟨he, hw⟩ => ⟨he, by subst hw; exact Below.refl _ _⟩)

/-! ### bits_OnesCount64: function 85 -/
def bits_OnesCount64.f (a : Int) : Option (Int) := some (Go.bits .and .i64 (wrap64 (IntKind.u64.wrap ((IntKind.u64.wrap ((IntKind.u64.wrap ((Go.bits .and .u64 (IntKind.u64.wrap (((IntKind.u64.wrap ((Go.bits .and .u64 ((IntKind.u64.wrap ((Go.bits .and .u64 (a / 2) 6148914691236517205) + (Go.bits .and .u64 a 6148914691236517205))) / 4) 3689348814741910323) + (Go.bits .and .u64 (IntKind.u64.wrap ((Go.bits .and .u64 (a / 2) 6148914691236517205) + (Go.bits .and .u64 a 6148914691236517205))) 3689348814741910323))) / 16) + (IntKind.u64.wrap ((Go.bits .and .u64 ((IntKind.u64.wrap ((Go.bits .and .u64 (a / 2) 6148914691236517205) + (Go.bits .and .u64 a 6148914691236517205))) / 4) 3689348814741910323) + (Go.bits .and .u64 (IntKind.u64.wrap ((Go.bits .and .u64 (a / 2) 6148914691236517205) + (Go.bits .and .u64 a 6148914691236517205))) 3689348814741910323))))) 1085102592571150095) + ((Go.bits .and .u64 (IntKind.u64.wrap (((IntKind.u64.wrap ((Go.bits .and .u64 ((IntKind.u64.wrap ((Go.bits .and .u64 (a / 2) 6148914691236517205) + (Go.bits .and .u64 a 6148914691236517205))) / 4) 3689348814741910323) + (Go.bits .and .u64 (IntKind.u64.wrap ((Go.bits .and .u64 (a / 2) 6148914691236517205) + (Go.bits .and .u64 a 6148914691236517205))) 3689348814741910323))) / 16) + (IntKind.u64.wrap ((Go.bits .and .u64 ((IntKind.u64.wrap ((Go.bits .and .u64 (a / 2) 6148914691236517205) + (Go.bits .and .u64 a 6148914691236517205))) / 4) 3689348814741910323) + (Go.bits .and .u64 (IntKind.u64.wrap ((Go.bits .and .u64 (a / 2) 6148914691236517205) + (Go.bits .and .u64 a 6148914691236517205))) 3689348814741910323))))) 1085102592571150095) / 256))) + ((IntKind.u64.wrap ((Go.bits .and .u64 (IntKind.u64.wrap (((IntKind.u64.wrap ((Go.bits .and .u64 ((IntKind.u64.wrap ((Go.bits .and .u64 (a / 2) 6148914691236517205) + (Go.bits .and .u64 a 6148914691236517205))) / 4) 3689348814741910323) + (Go.bits .and .u64 (IntKind.u64.wrap ((Go.bits .and .u64 (a / 2) 6148914691236517205) + (Go.bits .and .u64 a 6148914691236517205))) 3689348814741910323))) / 16) + (IntKind.u64.wrap ((Go.bits .and .u64 ((IntKind.u64.wrap ((Go.bits .and .u64 (a / 2) 6148914691236517205) + (Go.bits .and .u64 a 6148914691236517205))) / 4) 3689348814741910323) + (Go.bits .and .u64 (IntKind.u64.wrap ((Go.bits .and .u64 (a / 2) 6148914691236517205) + (Go.bits .and .u64 a 6148914691236517205))) 3689348814741910323))))) 1085102592571150095) + ((Go.bits .and .u64 (IntKind.u64.wrap (((IntKind.u64.wrap ((Go.bits .and .u64 ((IntKind.u64.wrap ((Go.bits .and .u64 (a / 2) 6148914691236517205) + (Go.bits .and .u64 a 6148914691236517205))) / 4) 3689348814741910323) + (Go.bits .and .u64 (IntKind.u64.wrap ((Go.bits .and .u64 (a / 2) 6148914691236517205) + (Go.bits .and .u64 a 6148914691236517205))) 3689348814741910323))) / 16) + (IntKind.u64.wrap ((Go.bits .and .u64 ((IntKind.u64.wrap ((Go.bits .and .u64 (a / 2) 6148914691236517205) + (Go.bits .and .u64 a 6148914691236517205))) / 4) 3689348814741910323) + (Go.bits .and .u64 (IntKind.u64.wrap ((Go.bits .and .u64 (a / 2) 6148914691236517205) + (Go.bits .and .u64 a 6148914691236517205))) 3689348814741910323))))) 1085102592571150095) / 256))) / 65536))) + ((IntKind.u64.wrap ((IntKind.u64.wrap ((Go.bits .and .u64 (IntKind.u64.wrap (((IntKind.u64.wrap ((Go.bits .and .u64 ((IntKind.u64.wrap ((Go.bits .and .u64 (a / 2) 6148914691236517205) + (Go.bits .and .u64 a 6148914691236517205))) / 4) 3689348814741910323) + (Go.bits .and .u64 (IntKind.u64.wrap ((Go.bits .and .u64 (a / 2) 6148914691236517205) + (Go.bits .and .u64 a 6148914691236517205))) 3689348814741910323))) / 16) + (IntKind.u64.wrap ((Go.bits .and .u64 ((IntKind.u64.wrap ((Go.bits .and .u64 (a / 2) 6148914691236517205) + (Go.bits .and .u64 a 6148914691236517205))) / 4) 3689348814741910323) + (Go.bits .and .u64 (IntKind.u64.wrap ((Go.bits .and .u64 (a / 2) 6148914691236517205) + (Go.bits .and .u64 a 6148914691236517205))) 3689348814741910323))))) 1085102592571150095) + ((Go.bits .and .u64 (IntKind.u64.wrap (((IntKind.u64.wrap ((Go.bits .and .u64 ((IntKind.u64.wrap ((Go.bits .and .u64 (a / 2) 6148914691236517205) + (Go.bits .and .u64 a 6148914691236517205))) / 4) 3689348814741910323) + (Go.bits .and .u64 (IntKind.u64.wrap ((Go.bits .and .u64 (a / 2) 6148914691236517205) + (Go.bits .and .u64 a 6148914691236517205))) 3689348814741910323))) / 16) + (IntKind.u64.wrap ((Go.bits .and .u64 ((IntKind.u64.wrap ((Go.bits .and .u64 (a / 2) 6148914691236517205) + (Go.bits .and .u64 a 6148914691236517205))) / 4) 3689348814741910323) + (Go.bits .and .u64 (IntKind.u64.wrap ((Go.bits .and .u64 (a / 2) 6148914691236517205) + (Go.bits .and .u64 a 6148914691236517205))) 3689348814741910323))))) 1085102592571150095) / 256))) + ((IntKind.u64.wrap ((Go.bits .and .u64 (IntKind.u64.wrap (((IntKind.u64.wrap ((Go.bits .and .u64 ((IntKind.u64.wrap ((Go.bits .and .u64 (a / 2) 6148914691236517205) + (Go.bits .and .u64 a 6148914691236517205))) / 4) 3689348814741910323) + (Go.bits .and .u64 (IntKind.u64.wrap ((Go.bits .and .u64 (a / 2) 6148914691236517205) + (Go.bits .and .u64 a 6148914691236517205))) 3689348814741910323))) / 16) + (IntKind.u64.wrap ((Go.bits .and .u64 ((IntKind.u64.wrap ((Go.bits .and .u64 (a / 2) 6148914691236517205) + (Go.bits .and .u64 a 6148914691236517205))) / 4) 3689348814741910323) + (Go.bits .and .u64 (IntKind.u64.wrap ((Go.bits .and .u64 (a / 2) 6148914691236517205) + (Go.bits .and .u64 a 6148914691236517205))) 3689348814741910323))))) 1085102592571150095) + ((Go.bits .and .u64 (IntKind.u64.wrap (((IntKind.u64.wrap ((Go.bits .and .u64 ((IntKind.u64.wrap ((Go.bits .and .u64 (a / 2) 6148914691236517205) + (Go.bits .and .u64 a 6148914691236517205))) / 4) 3689348814741910323) + (Go.bits .and .u64 (IntKind.u64.wrap ((Go.bits .and .u64 (a / 2) 6148914691236517205) + (Go.bits .and .u64 a 6148914691236517205))) 3689348814741910323))) / 16) + (IntKind.u64.wrap ((Go.bits .and .u64 ((IntKind.u64.wrap ((Go.bits .and .u64 (a / 2) 6148914691236517205) + (Go.bits .and .u64 a 6148914691236517205))) / 4) 3689348814741910323) + (Go.bits .and .u64 (IntKind.u64.wrap ((Go.bits .and .u64 (a / 2) 6148914691236517205) + (Go.bits .and .u64 a 6148914691236517205))) 3689348814741910323))))) 1085102592571150095) / 256))) / 65536))) / 4294967296)))) 127)
set_option maxHeartbeats 8000000 in
set_option maxRecDepth 100000 in
theorem bits_OnesCount64.calls (a : Int) (r : Int) (w : World) (h : bits_OnesCount64.f a = some r) :
  Calls Tryz.prog 85 #[.int .u64 a] w fun e w' => e = .returned (.int .i64 r) ∧ Drawn0 w w' := by
 unfold bits_OnesCount64.f at h
 have H := h
 clear h
 obtain rfl := si_ H
 go_enter Tryz.func85, Tryz.ntmps85
 go_wp2
 go_ret
 exact ⟨by first | rfl | (simp; done) | (simp [*]; done), by repeat (first | exact d0_ _ | apply Drawn0.step)⟩

end Go.Proofs.YtmhchlbbfpmdgaaGreatDoor.XClauseRefuses
