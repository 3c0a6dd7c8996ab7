-- by xprint.py, a program of this session, over the kit's print
import Derived.Test.YtbhhbgoamomacaaGreatDoorXMFix0
import Derived.Test.YtbhhbgoamomacaaGreatDoorXMFix1
import Derived.Test.YtbhhbgoamomacaaGreatDoorXMFix6
import Derived.Test.YtbhhbgoamomacaaGreatDoorXMFix7
import Derived.Test.YtbhhbgoamomacaaGreatDoorSq
namespace Go.Proofs.YtbhhbgoamomacaaGreatDoor.XMulFilters
open Go.RowKit Go.Proofs.YtbhhbgoamomacaaGreatDoor.Sq Go.Proofs.YtbhhbgoamomacaaGreatDoorW.PrintWords Go.Proofs.YtbhhbgoamomacaaGreatDoorW.PrintLast Go.Proofs.YtbhhbgoamomacaaGreatDoorW.PrintMore
attribute [local go_sem] max2_int min2_int max_two min_two max_three min_three max_four min_four   -- for this text's walks alone
set_option linter.unusedVariables false
set_option linter.unusedSimpArgs false

/-! ### dom_Dom_86_at_prop_Fits_1: function 86 -/
def dom_Dom_86_at_prop_Fits_1.l0 : Nat → List (S61) → Int → Int → Option (Int)
 | 0, _, _, _ => none
 | k + 1, b, d, a => if a < d then (if 0 ≤ a then (if a < (b.length : Int) then ((prop_Fits_1.f ((rd_T61 b a).f0) ((rd_T61 b a).f1) ((rd_T61 b a).f2) ((rd_T61 b a).f3) ((rd_T61 b a).f4)).bind fun c => (if c = true then (some a) else (dom_Dom_86_at_prop_Fits_1.l0 k b d (wrap64 (a + 1))))) else (none)) else (none)) else (some (-1))
def dom_Dom_86_at_prop_Fits_1.f (k : Nat) (a : List (S61))  : Option (Int) := dom_Dom_86_at_prop_Fits_1.l0 k a (a.length : Int) 0
theorem dom_Dom_86_at_prop_Fits_1.mono_l : ∀ k, (∀ a b c, LeO (dom_Dom_86_at_prop_Fits_1.l0 k a b c) (dom_Dom_86_at_prop_Fits_1.l0 (k + 1) a b c))
 | 0 => fun _ _ _ r h => by simp [dom_Dom_86_at_prop_Fits_1.l0] at h
 | k + 1 => by
  have ih0 := dom_Dom_86_at_prop_Fits_1.mono_l k
  ·
   intro a b c
   unfold dom_Dom_86_at_prop_Fits_1.l0
   exact leo_
theorem dom_Dom_86_at_prop_Fits_1.mono : ∀ a k, LeO (dom_Dom_86_at_prop_Fits_1.f k a) (dom_Dom_86_at_prop_Fits_1.f (k + 1) a) := by
 intro a k
 have ih0 := dom_Dom_86_at_prop_Fits_1.mono_l k
 unfold dom_Dom_86_at_prop_Fits_1.f
 exact leo_
set_option maxHeartbeats 8000000 in
set_option maxRecDepth 100000 in
theorem dom_Dom_86_at_prop_Fits_1.calls (k : Nat) (E : Option Addr) (c0 : Nat) (m : List (S61))  (r : Int) (w : World) (x : Kd.C k61 w E m.length m) (y : m.length ≤ c0) (h : dom_Dom_86_at_prop_Fits_1.f k m = some r) :
  Calls Tryz.prog 86 #[.slice E m.length c0, .func (.func 62) #[] #[]] w fun e w' => e = .returned (.int .i64 r) ∧ Below w.heap.size w w' := by
 have hu61 := Tryz.underlying61
 have z := a_ x
 have I := a_ y
 clear x y
 have HB := a_ (Below.refl w.heap.size w)
 unfold dom_Dom_86_at_prop_Fits_1.f at h
 have H := h
 clear h
 have H' := a_ H
 clear H
 go_enter Tryz.func86, Tryz.ntmps86
 go_wp2
 go_loopg [8] k (fun kq G w' => ∃ (a : Int), G = .int .i64 a ∧ Aside0 (dom_Dom_86_at_prop_Fits_1.l0 kq m (m.length : Int) a = some r) ∧ Aside0 (kq ≤ k) ∧ Aside0 (Below w.heap.size w w'))
 case atStart => exact ⟨(0), eq_, H', ⟨lr_ _⟩, ⟨bel_⟩⟩
 case round =>
  clear H'
  try clear p2
  obtain ⟨a, rfl, HA, A, HB⟩ := hrel
  cases gk with
  | zero => exact absurd HA.out (by simp [dom_Dom_86_at_prop_Fits_1.l0])
  | succ k1 =>
   have H := HA.out
   clear HA
   simp only [dom_Dom_86_at_prop_Fits_1.l0] at H
   by_cases c3 : a < (m.length : Int)
   ·
    rw [ip_ c3] at H
    have c3b0 : decide (a < (m.length : Int)) = true := dt_ c3
    clear c3
    by_cases c4 : 0 ≤ a
    ·
     rw [ip_ c4] at H
     have c4b0 : decide (0 ≤ a) = true := dt_ c4
     clear c4
     by_cases c5 : a < (m.length : Int)
     ·
      rw [ip_ c5] at H
      have c5b0 : decide (a < (m.length : Int)) = true := dt_ c5
      clear c5
      replace H := bo_ H
      obtain ⟨B, F, H⟩ := H
      try dsimp only at H
      by_cases c7 : B = true
      ·
       subst c7
       rw [ip_ rfl] at H
       obtain rfl := si_ H
       have p288 : 0 ≤ (a : Int) := dq_
       have p : a < (m.length : Int) := dq_
       obtain ⟨v, u, c288_1, t, b, c, d, g, l, n, o⟩ := at_T61 z.out a p288 p
       cases t
       replace b := (HB.out.cell (wl_ w _ b)).trans b
       replace c := (HB.out.cell (wl_ w _ c)).trans c
       replace d := (HB.out.cell (wl_ w _ d)).trans d
       replace g := (HB.out.cell (wl_ w _ g)).trans g
       replace l := (HB.out.cell (wl_ w _ l)).trans l
       have q := a_ o
       have s := a_ n
       clear o n
       replace p288 := et_ p288
       replace p := et_ p
       go_wp2_with (first | (go_at_call 62; (with_reducible refine (prop_Fits_1.calls ((rd_T61 m a).f0) _ _ ((rd_T61 m a).f1) ((rd_T61 m a).f2) ((rd_T61 m a).f3) ((rd_T61 m a).f4) true _ ?_ ?_ F.out).mono ?_); exact ca_ ((cb_ q.out HB.out)); exact s.out; rintro e w8 ⟨rfl, hb⟩; replace HB := hq_ hb; clear hb))
       go_ret
       exact ⟨er_, bel_⟩
      ·
       replace c7 := bf_.mpr c7
       subst c7
       have H1 : (dom_Dom_86_at_prop_Fits_1.l0 k1 m (m.length : Int) (wrap64 (a + 1))) = some r := by rw [ig_ (show ¬ (false = true) by decide)] at H; exact H
       clear H
       have H := H1
       clear H1
       have H' := a_ H
       clear H
       have p288 : 0 ≤ (a : Int) := dq_
       have p : a < (m.length : Int) := dq_
       obtain ⟨v, u, c288_1, t, b, c, d, g, l, n, o⟩ := at_T61 z.out a p288 p
       cases t
       replace b := (HB.out.cell (wl_ w _ b)).trans b
       replace c := (HB.out.cell (wl_ w _ c)).trans c
       replace d := (HB.out.cell (wl_ w _ d)).trans d
       replace g := (HB.out.cell (wl_ w _ g)).trans g
       replace l := (HB.out.cell (wl_ w _ l)).trans l
       have q := a_ o
       have s := a_ n
       clear o n
       replace p288 := et_ p288
       replace p := et_ p
       go_wp2_with (first | (go_at_call 62; (with_reducible refine (prop_Fits_1.calls ((rd_T61 m a).f0) _ _ ((rd_T61 m a).f1) ((rd_T61 m a).f2) ((rd_T61 m a).f3) ((rd_T61 m a).f4) false _ ?_ ?_ F.out).mono ?_); exact ca_ ((cb_ q.out HB.out)); exact s.out; rintro e w9 ⟨rfl, hb⟩; replace HB := hq_ hb; clear hb))
       go_roundg k1
       case measure => have := A.out; omega
       case rel => exact ⟨(wrap64 (a + 1)), eq_, H', ⟨by have := A.out; omega⟩, ⟨bel_⟩⟩
     ·
      rw [ig_ c5] at H
      exact absurd H (by simp)
    ·
     rw [ig_ c4] at H
     exact absurd H (by simp)
   ·
    rw [ig_ c3] at H
    have c3b0 : decide (a < (m.length : Int)) = false := df_ c3
    clear c3
    obtain rfl := si_ H
    go_wp2
    go_ret
    exact ⟨er_, bel_⟩

/-! ### dom_Dom_61_at_prop_Fits_1: function 61 -/
def dom_Dom_61_at_prop_Fits_1.f (k : Nat) (b : List (S61))  : Option (Bool) := (dom_Dom_86_at_prop_Fits_1.f k b).bind fun a => (some (decide (a ≥ 0)))
theorem dom_Dom_61_at_prop_Fits_1.mono : ∀ a k, LeO (dom_Dom_61_at_prop_Fits_1.f k a) (dom_Dom_61_at_prop_Fits_1.f (k + 1) a) := by
 intro a k
 unfold dom_Dom_61_at_prop_Fits_1.f
 have m0 := @dom_Dom_86_at_prop_Fits_1.mono
 exact leo_
set_option maxHeartbeats 8000000 in
set_option maxRecDepth 100000 in
theorem dom_Dom_61_at_prop_Fits_1.calls (k : Nat) (d : Option Addr) (c0 : Nat) (a : List (S61))  (r : Bool) (w : World) (b : Kd.C k61 w d a.length a) (c : a.length ≤ c0) (h : dom_Dom_61_at_prop_Fits_1.f k a = some r) :
  Calls Tryz.prog 61 #[.slice d a.length c0, .func (.func 62) #[] #[]] w fun e w' => e = .returned (.bool r) ∧ Below w.heap.size w w' := by
 have l := a_ b
 have m := a_ c
 clear b c
 have HB := a_ (Below.refl w.heap.size w)
 unfold dom_Dom_61_at_prop_Fits_1.f at h
 have H := h
 clear h
 replace H := bo_ H
 obtain ⟨g, n, H⟩ := H
 try dsimp only at H
 obtain rfl := si_ H
 go_enter Tryz.func61, Tryz.ntmps61
 go_wp2_with (first | ((with_reducible refine gate_callee (f := 86) rfl ?_); refine goesL_ (some 7) rfl rfl Tryz.func86 kr_ rfl #[.slice d a.length c0, .func (.func 62) #[] #[]] rfl ar_ ?_; (with_reducible refine (dom_Dom_86_at_prop_Fits_1.calls k _ _ a g _ ?_ ?_ n.out).mono ?_); exact ca_ (l.out); exact m.out; rintro e w4 ⟨rfl, hb⟩; refine ⟨_, rfl, ?_⟩; replace HB := hq_ hb; clear hb))
 go_ret
 exact ⟨er_, bel_⟩

/-! ### prop_Fits: function 27 -/
def prop_Fits.f (k : Nat) (a : Int) (b : List Int) (c : List Int) (d : List Int) (e : List Int) (g : List Int) (l : Int) (m : List (List Int)) (p : List (S61)) (q : Int) (r : Int) : Option (Bool) := (dom_Dom_61_at_prop_Fits_1.f k p).bind fun n => (if a ≥ q then (if a ≤ r then ((model_Right.f k a b c d e g l m 256).bind fun o => (if o = 0 then (if (p.length : Int) = (wrap64 ((b.length : Int) + (c.length : Int))) then (some (!n)) else (none)) else (none))) else (some false)) else (none))
theorem prop_Fits.mono : ∀ b c d e g l m n o p a k, LeO (prop_Fits.f k b c d e g l m n o p a) (prop_Fits.f (k + 1) b c d e g l m n o p a) := by
 intro b c d e g l m n o p a k
 unfold prop_Fits.f
 have m0 := @dom_Dom_61_at_prop_Fits_1.mono
 have m1 := @model_Right.mono
 exact leo_
set_option maxHeartbeats 8000000 in
set_option maxRecDepth 100000 in
theorem prop_Fits.calls (k : Nat) (d : Int) (q : Option Addr) (c0_1 : Nat) (b : List Int) (s : Option Addr) (c0_2 : Nat) (c : List Int) (u : Option Addr) (c0_3 : Nat) (g : List Int) (v : Option Addr) (c0_4 : Nat) (l : List Int) (x : Option Addr) (c0_5 : Nat) (m : List Int) (p : Int) (y : Option Addr) (c0_7 : Nat) (n : List (List Int)) (Y : Option Addr) (c1 : Nat) (o : List (S61)) (Z : Int) (W : Int) (r : Bool) (w : World) (E : Kd.C (Kd.int .i64) w q b.length b) (F : b.length ≤ c0_1) (G : Kd.C (Kd.int .i64) w s c.length c) (I : c.length ≤ c0_2) (J : Kd.C (Kd.int .i64) w u g.length g) (K : g.length ≤ c0_3) (M : Kd.C (Kd.int .i64) w v l.length l) (O : l.length ≤ c0_4) (P : Kd.C (Kd.int .i64) w x m.length m) (Q : m.length ≤ c0_5) (U : Kd.C (Kd.slice 3 (Kd.int .i64)) w y n.length n) (V : n.length ≤ c0_7) (an : Kd.C k61 w Y o.length o) (ao : o.length ≤ c1) (h : prop_Fits.f k d b c g l m p n o Z W = some r) :
  Calls Tryz.prog 27 #[.agg #[.int .i64 d, .slice q b.length c0_1, .slice s c.length c0_2, .slice u g.length c0_3, .slice v l.length c0_4, .slice x m.length c0_5, .int .i64 p, .slice y n.length c0_7], .slice Y o.length c1, .int .i64 Z, .int .i64 W] w fun e w' => e = .returned (.bool r) ∧ Below w.heap.size w w' := by
 have hu32 := Tryz.underlying32
 have aa := a_ E
 have ab := a_ F
 clear E F
 have ac := a_ G
 have ad := a_ I
 clear G I
 have ae := a_ J
 have af := a_ K
 clear J K
 have ag := a_ M
 have ah := a_ O
 clear M O
 have ai := a_ P
 have aj := a_ Q
 clear P Q
 have ak := a_ U
 have al := a_ V
 clear U V
 have ap := a_ an
 have aq := a_ ao
 clear an ao
 have HB := a_ (Below.refl w.heap.size w)
 unfold prop_Fits.f at h
 have H := h
 clear h
 replace H := bo_ H
 obtain ⟨X, A5, H⟩ := H
 try dsimp only at H
 by_cases c6 : d ≥ Z
 ·
  rw [ip_ c6] at H
  have c6b0 : decide (Z ≤ d) = true := dt_ c6
  clear c6
  by_cases c7 : d ≤ W
  ·
   rw [ip_ c7] at H
   have c7b0 : decide (d ≤ W) = true := dt_ c7
   clear c7
   replace H := bo_ H
   obtain ⟨z, A8, H⟩ := H
   try dsimp only at H
   by_cases c9 : z = 0
   ·
    rw [ip_ c9] at H
    have c9b0 : (z == 0) = true := beq_iff_eq.mpr c9
    have c9b1 : (z != 0) = false := bn_.mpr c9
    clear c9
    by_cases c10 : (o.length : Int) = (wrap64 ((b.length : Int) + (c.length : Int)))
    ·
     rw [ip_ c10] at H
     have c10b0 : ((o.length : Int) == (wrap64 ((b.length : Int) + (c.length : Int)))) = true := beq_iff_eq.mpr c10
     have c10b1 : ((o.length : Int) != (wrap64 ((b.length : Int) + (c.length : Int)))) = false := bn_.mpr c10
     clear c10
     obtain rfl := si_ H
     go_enter Tryz.func27, Tryz.ntmps27
     go_wp2_with (first | ((with_reducible refine gate_dst (N := 4) rfl ?_); (try (refine gate_guard (by rfl) ?_; dsimp only)); refine bxe_ (N := 4) (cs := #[.int .i64 d, .slice q b.length c0_1, .slice s c.length c0_2, .slice u g.length c0_3, .slice v l.length c0_4, .slice x m.length c0_5, .int .i64 p, .slice y n.length c0_7]) (t := 32) ?_; intro A hg w11 hbox hb; have a := a_ (hbox); have B := a_ (by rw [hg]; exact (bz_ bel_) : w.heap.size ≤ A); have am := B; replace HB := hq_ hb; clear hb hbox hg) | ((with_reducible refine gate_callee (f := 61) rfl ?_); refine goesL_ (some 11) rfl rfl Tryz.func61 kr_ rfl #[.slice Y o.length c1, .func (.func 62) #[] #[]] rfl ar_ ?_; (with_reducible refine (dom_Dom_61_at_prop_Fits_1.calls k _ _ o X _ ?_ ?_ A5.out).mono ?_); exact ca_ ((cb_ ap.out HB.out)); exact aq.out; rintro e w12 ⟨rfl, hb⟩; refine ⟨_, rfl, ?_⟩; replace a := a_ (bb_ (bk_ a.out) hb); replace HB := hq_ hb; clear hb; obtain ⟨_, _, _, _, _, _, _, _, _, _, _, _, _, _, _, _⟩ := cel8_ a.out) | (go_at_call 63; (with_reducible refine (model_Right.calls k d _ _ b _ _ c _ _ g _ _ l _ _ m p _ _ n 256 z _ ?_ ?_ ?_ ?_ ?_ ?_ ?_ ?_ ?_ ?_ ?_ ?_ A8.out).mono ?_); exact ca_ ((cb_ aa.out HB.out)); exact ab.out; exact ca_ ((cb_ ac.out HB.out)); exact ad.out; exact ca_ ((cb_ ae.out HB.out)); exact af.out; exact ca_ ((cb_ ag.out HB.out)); exact ah.out; exact ca_ ((cb_ ai.out HB.out)); exact aj.out; exact ca_ ((cb_ ak.out HB.out)); exact al.out; rintro e w14 ⟨rfl, hb⟩; replace a := a_ (bb_ (bk_ a.out) hb); replace HB := hq_ hb; clear hb; obtain ⟨_, _, _, _, _, _, _, _, _, _, _, _, _, _, _, _⟩ := cel8_ a.out))
     go_ret
     exact ⟨er_, bel_⟩
    ·
     rw [ig_ c10] at H
     exact absurd H (by simp)
   ·
    rw [ig_ c9] at H
    exact absurd H (by simp)
  ·
   rw [ig_ c7] at H
   have c7b0 : decide (d ≤ W) = false := df_ c7
   clear c7
   obtain rfl := si_ H
   go_enter Tryz.func27, Tryz.ntmps27
   go_wp2_with (first | ((with_reducible refine gate_dst (N := 4) rfl ?_); (try (refine gate_guard (by rfl) ?_; dsimp only)); refine bxe_ (N := 4) (cs := #[.int .i64 d, .slice q b.length c0_1, .slice s c.length c0_2, .slice u g.length c0_3, .slice v l.length c0_4, .slice x m.length c0_5, .int .i64 p, .slice y n.length c0_7]) (t := 32) ?_; intro A hg w16 hbox hb; have a := a_ (hbox); have B := a_ (by rw [hg]; exact (bz_ bel_) : w.heap.size ≤ A); have am := B; replace HB := hq_ hb; clear hb hbox hg) | ((with_reducible refine gate_callee (f := 61) rfl ?_); refine goesL_ (some 11) rfl rfl Tryz.func61 kr_ rfl #[.slice Y o.length c1, .func (.func 62) #[] #[]] rfl ar_ ?_; (with_reducible refine (dom_Dom_61_at_prop_Fits_1.calls k _ _ o X _ ?_ ?_ A5.out).mono ?_); exact ca_ ((cb_ ap.out HB.out)); exact aq.out; rintro e w17 ⟨rfl, hb⟩; refine ⟨_, rfl, ?_⟩; replace a := a_ (bb_ (bk_ a.out) hb); replace HB := hq_ hb; clear hb; obtain ⟨_, _, _, _, _, _, _, _, _, _, _, _, _, _, _, _⟩ := cel8_ a.out))
   go_ret
   exact ⟨er_, bel_⟩
 ·
  rw [ig_ c6] at H
  exact absurd H (by simp)

/-! ### slices_Max_int: function 72 -/
def slices_Max_int.f (a : List Int) : Option Int := if a = [] then none else some (a.foldl mx (rd a 0))
theorem slices_Max_int.calls (c : Option Addr) (c0 : Nat) (a : List Int) (r : Int) (w : World) (b : Kd.C (Kd.int .i64) w c a.length a) (g : a.length ≤ c0) (h : slices_Max_int.f a = some r) :
  Calls Tryz.prog 72 #[.slice c a.length c0] w fun e w' => e = .returned (.int .i64 r) ∧ Drawn0 w w' := by
 unfold slices_Max_int.f at h
 by_cases hn : a = []
 ·
  rw [if_pos hn] at h; cases h
 rw [if_neg hn] at h
 have hn0 : 0 < a.length := by cases a with | nil => exact absurd rfl hn | cons => simp
 have hbig : a.length ≤ 9223372036854775807 := b.2.1
 have HE := Aside0.mk (Option.some.inj h)
 have HR := Aside0.mk b
 have l : decide (a.length < 1) = false := decide_eq_false (by omega)
 have n : decide ((a.length : Int) < 1) = false := decide_eq_false (by omega)
 obtain ⟨ad, rfl, hcell0⟩ := Kd.at_int HR.out 0 (by omega) (by omega)
 clear h b hn
 have d : w.cell? (ad.add 0) = some (.int .i64 (rd a 0)) := hcell0
 have o : w.cell? ad = some (.int .i64 (rd a 0)) := (show ad.add 0 = ad by cases ad; simp [Addr.add]) ▸ d
 clear hcell0
 go_enter Tryz.func72, Tryz.ntmps72
 go_wp2
 go_loopg [3, 4] a.length (fun gg s4 s5 wr => ∃ kk : Nat, kk ≤ a.length ∧ 1 ≤ kk ∧ a.length - kk ≤ gg ∧ s5 = .int .i64 kk ∧ s4 = .int .i64 ((a.take kk).foldl mx (rd a 0)) ∧ Aside0 (Drawn0 w wr))
 case atStart => exact ⟨1, by omega, by omega, by omega, rfl, by rw [show (1 : Nat) = 0 + 1 from rfl, fold_step hn0]; show Value.int .i64 (rd a 0) = .int .i64 (mx (rd a 0) (rd a 0)); rw [mx_self], ⟨Drawn0.refl _⟩⟩
 case round =>
  obtain ⟨kk, hkk, h1, hg, rfl, rfl, BW⟩ := hrel
  obtain ⟨⟨m, rfl⟩⟩ := BW
  by_cases hlt : kk < a.length
  ·
   have hltz : (kk : Int) < (a.length : Int) := by omega
   obtain ⟨ad', had, hcell⟩ := Kd.at_int HR.out (kk : Int) (by omega) hltz
   obtain rfl := Option.some.inj had
   rw [Int.toNat_natCast] at hcell
   have hcell' : (w.drewN m).cell? (ad.add kk) = some (.int .i64 (rd a kk)) := by rw [World.cell?_drewN]; exact hcell
   have HS := Aside0.mk (fold_step (op := mx) (z := rd a 0) hlt)
   clear hcell had
   generalize (a.take kk).foldl mx (rd a 0) = y at *
   go_wp2
   all_goals
    go_roundg (a.length - (kk + 1))
    case measure => omega
    case rel =>
     exact ⟨kk + 1, by omega, by omega, by omega, by go_num, by rw [HS.out]; unfold mx; first | rw [if_pos (by omega)] | rw [if_neg (by omega)], ⟨⟨_, rfl⟩⟩⟩
  ·
   have : kk = a.length := by omega
   subst this
   have HS := Aside0.mk (show (a.take a.length).foldl mx (rd a 0) = r by rw [List.take_length]; exact HE.out)
   generalize (a.take a.length).foldl mx (rd a 0) = y at *
   go_wp2
   go_ret
   exact ⟨by rw [HS.out]; rfl, ⟨_, rfl⟩⟩

/-! ### slices_Min_int: function 73 -/
def slices_Min_int.f (a : List Int) : Option Int := if a = [] then none else some (a.foldl mn (rd a 0))
theorem slices_Min_int.calls (c : Option Addr) (c0 : Nat) (a : List Int) (r : Int) (w : World) (b : Kd.C (Kd.int .i64) w c a.length a) (g : a.length ≤ c0) (h : slices_Min_int.f a = some r) :
  Calls Tryz.prog 73 #[.slice c a.length c0] w fun e w' => e = .returned (.int .i64 r) ∧ Drawn0 w w' := by
 unfold slices_Min_int.f at h
 by_cases hn : a = []
 ·
  rw [if_pos hn] at h; cases h
 rw [if_neg hn] at h
 have hn0 : 0 < a.length := by cases a with | nil => exact absurd rfl hn | cons => simp
 have hbig : a.length ≤ 9223372036854775807 := b.2.1
 have HE := Aside0.mk (Option.some.inj h)
 have HR := Aside0.mk b
 have l : decide (a.length < 1) = false := decide_eq_false (by omega)
 have n : decide ((a.length : Int) < 1) = false := decide_eq_false (by omega)
 obtain ⟨ad, rfl, hcell0⟩ := Kd.at_int HR.out 0 (by omega) (by omega)
 clear h b hn
 have d : w.cell? (ad.add 0) = some (.int .i64 (rd a 0)) := hcell0
 have o : w.cell? ad = some (.int .i64 (rd a 0)) := (show ad.add 0 = ad by cases ad; simp [Addr.add]) ▸ d
 clear hcell0
 go_enter Tryz.func73, Tryz.ntmps73
 go_wp2
 go_loopg [3, 4] a.length (fun gg s4 s5 wr => ∃ kk : Nat, kk ≤ a.length ∧ 1 ≤ kk ∧ a.length - kk ≤ gg ∧ s5 = .int .i64 kk ∧ s4 = .int .i64 ((a.take kk).foldl mn (rd a 0)) ∧ Aside0 (Drawn0 w wr))
 case atStart => exact ⟨1, by omega, by omega, by omega, rfl, by rw [show (1 : Nat) = 0 + 1 from rfl, fold_step hn0]; show Value.int .i64 (rd a 0) = .int .i64 (mn (rd a 0) (rd a 0)); rw [mn_self], ⟨Drawn0.refl _⟩⟩
 case round =>
  obtain ⟨kk, hkk, h1, hg, rfl, rfl, BW⟩ := hrel
  obtain ⟨⟨m, rfl⟩⟩ := BW
  by_cases hlt : kk < a.length
  ·
   have hltz : (kk : Int) < (a.length : Int) := by omega
   obtain ⟨ad', had, hcell⟩ := Kd.at_int HR.out (kk : Int) (by omega) hltz
   obtain rfl := Option.some.inj had
   rw [Int.toNat_natCast] at hcell
   have hcell' : (w.drewN m).cell? (ad.add kk) = some (.int .i64 (rd a kk)) := by rw [World.cell?_drewN]; exact hcell
   have HS := Aside0.mk (fold_step (op := mn) (z := rd a 0) hlt)
   clear hcell had
   generalize (a.take kk).foldl mn (rd a 0) = y at *
   go_wp2
   all_goals
    go_roundg (a.length - (kk + 1))
    case measure => omega
    case rel =>
     exact ⟨kk + 1, by omega, by omega, by omega, by go_num, by rw [HS.out]; unfold mn; first | rw [if_pos (by omega)] | rw [if_neg (by omega)], ⟨⟨_, rfl⟩⟩⟩
  ·
   have : kk = a.length := by omega
   subst this
   have HS := Aside0.mk (show (a.take a.length).foldl mn (rd a 0) = r by rw [List.take_length]; exact HE.out)
   generalize (a.take a.length).foldl mn (rd a 0) = y at *
   go_wp2
   go_ret
   exact ⟨by rw [HS.out]; rfl, ⟨_, rfl⟩⟩

/-! ### bits_TrailingZeros64: function 55 -/
def tabL : List Int := [0, 1, 56, 2, 57, 49, 28, 3, 61, 58, 42, 50, 38, 29, 17, 4, 62, 47, 59, 36, 45, 43, 51, 22, 53, 39, 33, 30, 24, 18, 12, 5, 63, 55, 48, 27, 60, 41, 37, 16, 46, 35, 44, 21, 52, 32, 23, 11, 54, 26, 40, 15, 34, 20, 31, 10, 25, 14, 19, 9, 13, 8, 7, 6]
def bits_TrailingZeros64.f (a : Int) : Option Int := if 0 ≤ a ∧ a < 18446744073709551616 then some (Lib.ctz 64 a.toNat : Nat) else none
theorem tz64_key (x a : Nat) (hx : x < 18446744073709551616) (hx0 : x ≠ 0) (hlow : x &&& (18446744073709551616 - x) = a) :
  IntKind.u64.wrap (Go.bits .and .u64 (x : Int) (IntKind.u64.wrap (-(x : Int))) * 285870213051353865) / 288230376151711744 = ((a * 285870213051353865 % 18446744073709551616 / 288230376151711744 : Nat) : Int) := by
 have e1 : IntKind.u64.wrap (-(x : Int)) = ((18446744073709551616 - x : Nat) : Int) := by rw [IntKind.wrap_u64]; omega
 rw [e1, bits_and_u64_nat x _ hx (by omega), hlow, IntKind.wrap_u64]
 omega
set_option maxHeartbeats 1000000 in
theorem tz64_core (x k idx : Nat) (w : World) (hx0 : ((x : Int) == 0) = false)
  (key : IntKind.u64.wrap (Go.bits .and .u64 (x : Int) (IntKind.u64.wrap (-(x : Int))) * 285870213051353865) / 288230376151711744 = (idx : Int))
  (hi : idx < 64) (hk : k < 64) (hcell : w.cell? ⟨0, idx, none⟩ = some (.int .u8 k)) :
  Calls Tryz.prog 55 #[.int .u64 x] w fun e w' => e = .returned (.int .i64 k) ∧ w = w' := by
 go_enter Tryz.func55, Tryz.ntmps55
 go_wp2_with (simp only [key])
 go_ret
 exact ⟨rfl, rfl⟩
theorem tz64_zero (w : World) : Calls Tryz.prog 55 #[.int .u64 0] w fun e w' => e = .returned (.int .i64 64) ∧ w = w' := by
 go_enter Tryz.func55, Tryz.ntmps55
 go_wp2
 go_ret
 exact ⟨rfl, rfl⟩
theorem tabL_at (i : Nat) (h : i < 64) : tabL.getD i 0 = ((Lib.deBruijn64tab.getD i 0 : Nat) : Int) := by
 revert i; decide +kernel
theorem bits_TrailingZeros64.calls (b : Int) (r : Int) (w : World) (hrtab : Kd.C (Kd.int .u8) w (some ⟨0, 0, none⟩) tabL.length tabL) (h : bits_TrailingZeros64.f b = some r) :
  Calls Tryz.prog 55 #[.int .u64 b] w fun e w' => e = .returned (.int .i64 r) ∧ Drawn0 w w' := by
 unfold bits_TrailingZeros64.f at h
 by_cases hb : 0 ≤ b ∧ b < 18446744073709551616
 ·
  rw [if_pos hb] at h
  obtain rfl := Option.some.inj h
  obtain ⟨x, rfl⟩ := Int.eq_ofNat_of_zero_le hb.1
  rw [Int.toNat_natCast]
  by_cases a : x = 0
  ·
   subst a
   exact (tz64_zero w).mono (fun e w' ⟨he, hw⟩ => ⟨he, by subst hw; exact Drawn0.refl _⟩)
  ·
   have hx : x < 18446744073709551616 := by omega
   obtain ⟨hlow, hk⟩ := Lib.lowest_bit 64 x a hx
   obtain ⟨hi, htab⟩ := Lib.deBruijn64_at _ hk
   obtain ⟨ad, had, hcell⟩ := Kd.at_int hrtab ((2 ^ Lib.ctz 64 x * 285870213051353865 % 18446744073709551616 / 288230376151711744 : Nat) : Int) (by omega) (by show _ < ((64 : Nat) : Int); omega)
   obtain rfl := Option.some.inj had
   rw [Int.toNat_natCast] at hcell
   have c : rd tabL ((2 ^ Lib.ctz 64 x * 285870213051353865 % 18446744073709551616 / 288230376151711744 : Nat) : Int) = ((Lib.ctz 64 x : Nat) : Int) := by
    unfold rd
    rw [Int.toNat_natCast, tabL_at _ hi, htab]
   rw [c, add_plain] at hcell
   exact (tz64_core x _ _ w (by simp; omega) (tz64_key x _ hx a hlow) hi hk hcell).mono (fun e w' ⟨he, hw⟩ => ⟨he, by subst hw; exact Drawn0.refl _⟩)
 ·
  rw [if_neg hb] at h
  cases h

/-! ### bits_LeadingZeros64: function 102 -/
def bits_LeadingZeros64.f (a : Int) : Option Int := if 0 ≤ a ∧ a < 18446744073709551616 then some (64 - (Lib.bitLen a.toNat : Int)) else none
theorem bits_LeadingZeros64.calls (a : Int) (r : Int) (w : World) (h : bits_LeadingZeros64.f a = some r) :
  Calls Tryz.prog 102 #[.int .u64 a] w fun e w' => e = .returned (.int .i64 r) ∧ Below w.heap.size w w' := by
 unfold bits_LeadingZeros64.f at h
 by_cases hb : 0 ≤ a ∧ a < 18446744073709551616
 ·
  rw [if_pos hb] at h
  obtain rfl := Option.some.inj h
  exact (Tryz.bits_LeadingZeros64 a w hb.1 (by omega)).mono (fun e w' ⟨he, hw⟩ => ⟨he, by subst hw; exact Below.refl _ _⟩)
 ·
  rw [if_neg hb] at h; cases h

/-! ### bits_OnesCount64: function 103 -/
def bits_OnesCount64.f (a : Int) : Option (Int) := some (Go.bits .and .i64 (wrap64 (IntKind.u64.wrap ((IntKind.u64.wrap ((IntKind.u64.wrap ((Go.bits .and .u64 (IntKind.u64.wrap (((IntKind.u64.wrap ((Go.bits .and .u64 ((IntKind.u64.wrap ((Go.bits .and .u64 (a / 2) 6148914691236517205) + (Go.bits .and .u64 a 6148914691236517205))) / 4) 3689348814741910323) + (Go.bits .and .u64 (IntKind.u64.wrap ((Go.bits .and .u64 (a / 2) 6148914691236517205) + (Go.bits .and .u64 a 6148914691236517205))) 3689348814741910323))) / 16) + (IntKind.u64.wrap ((Go.bits .and .u64 ((IntKind.u64.wrap ((Go.bits .and .u64 (a / 2) 6148914691236517205) + (Go.bits .and .u64 a 6148914691236517205))) / 4) 3689348814741910323) + (Go.bits .and .u64 (IntKind.u64.wrap ((Go.bits .and .u64 (a / 2) 6148914691236517205) + (Go.bits .and .u64 a 6148914691236517205))) 3689348814741910323))))) 1085102592571150095) + ((Go.bits .and .u64 (IntKind.u64.wrap (((IntKind.u64.wrap ((Go.bits .and .u64 ((IntKind.u64.wrap ((Go.bits .and .u64 (a / 2) 6148914691236517205) + (Go.bits .and .u64 a 6148914691236517205))) / 4) 3689348814741910323) + (Go.bits .and .u64 (IntKind.u64.wrap ((Go.bits .and .u64 (a / 2) 6148914691236517205) + (Go.bits .and .u64 a 6148914691236517205))) 3689348814741910323))) / 16) + (IntKind.u64.wrap ((Go.bits .and .u64 ((IntKind.u64.wrap ((Go.bits .and .u64 (a / 2) 6148914691236517205) + (Go.bits .and .u64 a 6148914691236517205))) / 4) 3689348814741910323) + (Go.bits .and .u64 (IntKind.u64.wrap ((Go.bits .and .u64 (a / 2) 6148914691236517205) + (Go.bits .and .u64 a 6148914691236517205))) 3689348814741910323))))) 1085102592571150095) / 256))) + ((IntKind.u64.wrap ((Go.bits .and .u64 (IntKind.u64.wrap (((IntKind.u64.wrap ((Go.bits .and .u64 ((IntKind.u64.wrap ((Go.bits .and .u64 (a / 2) 6148914691236517205) + (Go.bits .and .u64 a 6148914691236517205))) / 4) 3689348814741910323) + (Go.bits .and .u64 (IntKind.u64.wrap ((Go.bits .and .u64 (a / 2) 6148914691236517205) + (Go.bits .and .u64 a 6148914691236517205))) 3689348814741910323))) / 16) + (IntKind.u64.wrap ((Go.bits .and .u64 ((IntKind.u64.wrap ((Go.bits .and .u64 (a / 2) 6148914691236517205) + (Go.bits .and .u64 a 6148914691236517205))) / 4) 3689348814741910323) + (Go.bits .and .u64 (IntKind.u64.wrap ((Go.bits .and .u64 (a / 2) 6148914691236517205) + (Go.bits .and .u64 a 6148914691236517205))) 3689348814741910323))))) 1085102592571150095) + ((Go.bits .and .u64 (IntKind.u64.wrap (((IntKind.u64.wrap ((Go.bits .and .u64 ((IntKind.u64.wrap ((Go.bits .and .u64 (a / 2) 6148914691236517205) + (Go.bits .and .u64 a 6148914691236517205))) / 4) 3689348814741910323) + (Go.bits .and .u64 (IntKind.u64.wrap ((Go.bits .and .u64 (a / 2) 6148914691236517205) + (Go.bits .and .u64 a 6148914691236517205))) 3689348814741910323))) / 16) + (IntKind.u64.wrap ((Go.bits .and .u64 ((IntKind.u64.wrap ((Go.bits .and .u64 (a / 2) 6148914691236517205) + (Go.bits .and .u64 a 6148914691236517205))) / 4) 3689348814741910323) + (Go.bits .and .u64 (IntKind.u64.wrap ((Go.bits .and .u64 (a / 2) 6148914691236517205) + (Go.bits .and .u64 a 6148914691236517205))) 3689348814741910323))))) 1085102592571150095) / 256))) / 65536))) + ((IntKind.u64.wrap ((IntKind.u64.wrap ((Go.bits .and .u64 (IntKind.u64.wrap (((IntKind.u64.wrap ((Go.bits .and .u64 ((IntKind.u64.wrap ((Go.bits .and .u64 (a / 2) 6148914691236517205) + (Go.bits .and .u64 a 6148914691236517205))) / 4) 3689348814741910323) + (Go.bits .and .u64 (IntKind.u64.wrap ((Go.bits .and .u64 (a / 2) 6148914691236517205) + (Go.bits .and .u64 a 6148914691236517205))) 3689348814741910323))) / 16) + (IntKind.u64.wrap ((Go.bits .and .u64 ((IntKind.u64.wrap ((Go.bits .and .u64 (a / 2) 6148914691236517205) + (Go.bits .and .u64 a 6148914691236517205))) / 4) 3689348814741910323) + (Go.bits .and .u64 (IntKind.u64.wrap ((Go.bits .and .u64 (a / 2) 6148914691236517205) + (Go.bits .and .u64 a 6148914691236517205))) 3689348814741910323))))) 1085102592571150095) + ((Go.bits .and .u64 (IntKind.u64.wrap (((IntKind.u64.wrap ((Go.bits .and .u64 ((IntKind.u64.wrap ((Go.bits .and .u64 (a / 2) 6148914691236517205) + (Go.bits .and .u64 a 6148914691236517205))) / 4) 3689348814741910323) + (Go.bits .and .u64 (IntKind.u64.wrap ((Go.bits .and .u64 (a / 2) 6148914691236517205) + (Go.bits .and .u64 a 6148914691236517205))) 3689348814741910323))) / 16) + (IntKind.u64.wrap ((Go.bits .and .u64 ((IntKind.u64.wrap ((Go.bits .and .u64 (a / 2) 6148914691236517205) + (Go.bits .and .u64 a 6148914691236517205))) / 4) 3689348814741910323) + (Go.bits .and .u64 (IntKind.u64.wrap ((Go.bits .and .u64 (a / 2) 6148914691236517205) + (Go.bits .and .u64 a 6148914691236517205))) 3689348814741910323))))) 1085102592571150095) / 256))) + ((IntKind.u64.wrap ((Go.bits .and .u64 (IntKind.u64.wrap (((IntKind.u64.wrap ((Go.bits .and .u64 ((IntKind.u64.wrap ((Go.bits .and .u64 (a / 2) 6148914691236517205) + (Go.bits .and .u64 a 6148914691236517205))) / 4) 3689348814741910323) + (Go.bits .and .u64 (IntKind.u64.wrap ((Go.bits .and .u64 (a / 2) 6148914691236517205) + (Go.bits .and .u64 a 6148914691236517205))) 3689348814741910323))) / 16) + (IntKind.u64.wrap ((Go.bits .and .u64 ((IntKind.u64.wrap ((Go.bits .and .u64 (a / 2) 6148914691236517205) + (Go.bits .and .u64 a 6148914691236517205))) / 4) 3689348814741910323) + (Go.bits .and .u64 (IntKind.u64.wrap ((Go.bits .and .u64 (a / 2) 6148914691236517205) + (Go.bits .and .u64 a 6148914691236517205))) 3689348814741910323))))) 1085102592571150095) + ((Go.bits .and .u64 (IntKind.u64.wrap (((IntKind.u64.wrap ((Go.bits .and .u64 ((IntKind.u64.wrap ((Go.bits .and .u64 (a / 2) 6148914691236517205) + (Go.bits .and .u64 a 6148914691236517205))) / 4) 3689348814741910323) + (Go.bits .and .u64 (IntKind.u64.wrap ((Go.bits .and .u64 (a / 2) 6148914691236517205) + (Go.bits .and .u64 a 6148914691236517205))) 3689348814741910323))) / 16) + (IntKind.u64.wrap ((Go.bits .and .u64 ((IntKind.u64.wrap ((Go.bits .and .u64 (a / 2) 6148914691236517205) + (Go.bits .and .u64 a 6148914691236517205))) / 4) 3689348814741910323) + (Go.bits .and .u64 (IntKind.u64.wrap ((Go.bits .and .u64 (a / 2) 6148914691236517205) + (Go.bits .and .u64 a 6148914691236517205))) 3689348814741910323))))) 1085102592571150095) / 256))) / 65536))) / 4294967296)))) 127)
set_option maxHeartbeats 8000000 in
set_option maxRecDepth 100000 in
theorem bits_OnesCount64.calls (a : Int) (r : Int) (w : World) (h : bits_OnesCount64.f a = some r) :
  Calls Tryz.prog 103 #[.int .u64 a] w fun e w' => e = .returned (.int .i64 r) ∧ Drawn0 w w' := by
 unfold bits_OnesCount64.f at h
 have H := h
 clear h
 obtain rfl := si_ H
 go_enter Tryz.func103, Tryz.ntmps103
 go_wp2
 go_ret
 exact ⟨by first | rfl | (simp; done) | (simp [*]; done), by repeat (first | exact d0_ _ | apply Drawn0.step)⟩

end Go.Proofs.YtbhhbgoamomacaaGreatDoor.XMulFilters
