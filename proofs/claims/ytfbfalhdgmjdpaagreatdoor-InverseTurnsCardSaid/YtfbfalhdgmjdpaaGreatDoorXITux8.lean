-- by xprint.py, a program of this session, over the kit's print
import Derived.Test.YtfbfalhdgmjdpaaGreatDoorXITux0
import Derived.Test.YtfbfalhdgmjdpaaGreatDoorXITux6
import Derived.Test.YtfbfalhdgmjdpaaGreatDoorXITux7
import Derived.Test.YtfbfalhdgmjdpaaGreatDoorSq
namespace Go.Proofs.YtfbfalhdgmjdpaaGreatDoor.XInverseTurns
open Go.RowKit Go.Proofs.YtfbfalhdgmjdpaaGreatDoor.Sq Go.Proofs.YtfbfalhdgmjdpaaGreatDoorW.PrintWords Go.Proofs.YtfbfalhdgmjdpaaGreatDoorW.PrintLast Go.Proofs.YtfbfalhdgmjdpaaGreatDoorW.PrintMore
attribute [local go_sem] max2_int min2_int max_two min_two max_three min_three max_four min_four   -- for this text's walks alone
set_option linter.unusedVariables false
set_option linter.unusedSimpArgs false

/-! ### dom_Dom_75_at_prop_Fits_1: function 75 -/
def dom_Dom_75_at_prop_Fits_1.l0 : Nat → List (S58) → Int → Int → Option (Int)
 | 0, _, _, _ => none
 | k + 1, b, d, a => if a < d then (if 0 ≤ a then (if a < (b.length : Int) then ((prop_Fits_1.f ((rd_T58 b a).f0) ((rd_T58 b a).f1) ((rd_T58 b a).f2) ((rd_T58 b a).f3) ((rd_T58 b a).f4)).bind fun c => (if c = true then (some a) else (dom_Dom_75_at_prop_Fits_1.l0 k b d (wrap64 (a + 1))))) else (none)) else (none)) else (some (-1))
def dom_Dom_75_at_prop_Fits_1.f (k : Nat) (a : List (S58))  : Option (Int) := dom_Dom_75_at_prop_Fits_1.l0 k a (a.length : Int) 0
theorem dom_Dom_75_at_prop_Fits_1.mono_l : ∀ k, (∀ a b c, LeO (dom_Dom_75_at_prop_Fits_1.l0 k a b c) (dom_Dom_75_at_prop_Fits_1.l0 (k + 1) a b c))
 | 0 => by intros; exact LeO.none _
 | k + 1 => by
  have ih0 := dom_Dom_75_at_prop_Fits_1.mono_l k
  intro a b c
  unfold dom_Dom_75_at_prop_Fits_1.l0
  exact leo_
theorem dom_Dom_75_at_prop_Fits_1.mono : ∀ a k, LeO (dom_Dom_75_at_prop_Fits_1.f k a) (dom_Dom_75_at_prop_Fits_1.f (k + 1) a) := by
 intro a k
 have ih0 := dom_Dom_75_at_prop_Fits_1.mono_l k
 unfold dom_Dom_75_at_prop_Fits_1.f
 exact leo_
set_option maxHeartbeats 8000000 in
set_option maxRecDepth 100000 in
theorem dom_Dom_75_at_prop_Fits_1.calls (k : Nat) (E : Option Addr) (c0 : Nat) (m : List (S58))  (r : Int) (w : World) (x : Kd.C k58 w E m.length m) (y : m.length ≤ c0) (h : dom_Dom_75_at_prop_Fits_1.f k m = some r) :
  Calls Tryz.prog 75 #[.slice E m.length c0, .func (.func 57) #[] #[]] w fun e w' => e = .returned (.int .i64 r) ∧ Below w.heap.size w w' := by
 have hu58 := Tryz.underlying58
 have z := a_ x
 have I := a_ y
 clear x y
 have HB := a_ (Below.refl w.heap.size w)
 unfold dom_Dom_75_at_prop_Fits_1.f at h
 have H := h
 clear h
 have H' := a_ H
 clear H
 go_enter Tryz.func75, Tryz.ntmps75
 go_wp2
 go_loopg [8] k (fun kq G w' => ∃ (a : Int), G = .int .i64 a ∧ Aside0 (dom_Dom_75_at_prop_Fits_1.l0 kq m (m.length : Int) a = some r) ∧ Aside0 (kq ≤ k) ∧ Aside0 (Below w.heap.size w w'))
 case atStart => exact ⟨(0), eq_, H', ⟨lr_ _⟩, ⟨bel_⟩⟩
 clear H'
 try clear p2
 obtain ⟨a, rfl, HA, A, HB⟩ := hrel
 cases gk with
 | zero => exact absurd HA.out (by simp [dom_Dom_75_at_prop_Fits_1.l0])
 | succ k1 =>
  have H := HA.out
  clear HA
  simp only [dom_Dom_75_at_prop_Fits_1.l0] at H
  by_cases c3 : a < (m.length : Int)
  rotate_left
  ·
   rw [ig_ c3] at H
   have c3b0 : decide (a < (m.length : Int)) = false := df_ c3
   clear c3
   obtain rfl := si_ H
   go_wp2
   go_ret
   exact ⟨er_, bel_⟩
  rw [ip_ c3] at H
  have c3b0 : decide (a < (m.length : Int)) = true := dt_ c3
  clear c3
  by_cases c4 : 0 ≤ a
  rotate_left
  ·
   rw [ig_ c4] at H
   exact ab_ H
  rw [ip_ c4] at H
  have c4b0 : decide (0 ≤ a) = true := dt_ c4
  clear c4
  by_cases c5 : a < (m.length : Int)
  rotate_left
  ·
   rw [ig_ c5] at H
   exact ab_ H
  rw [ip_ c5] at H
  have c5b0 : decide (a < (m.length : Int)) = true := dt_ c5
  clear c5
  replace H := bo_ H
  obtain ⟨B, F, H⟩ := H
  try dsimp only at H
  by_cases c7 : B = true
  ·
   subst c7
   rw [ip_ rfl] at H
   obtain rfl := si_ H
   have p291 : 0 ≤ (a : Int) := dq_
   have p : a < (m.length : Int) := dq_
   obtain ⟨v, u, c291_1, t, b, c, d, g, l, n, o⟩ := at_T58 z.out a p291 p
   cases t
   replace b := hx_ HB b
   replace c := hx_ HB c
   replace d := hx_ HB d
   replace g := hx_ HB g
   replace l := hx_ HB l
   have q := a_ o
   have s := a_ n
   clear o n
   replace p291 := et_ p291
   replace p := et_ p
   go_wp2_with (first | (go_at_call 57; (with_reducible refine (prop_Fits_1.calls ((rd_T58 m a).f0) _ _ ((rd_T58 m a).f1) ((rd_T58 m a).f2) ((rd_T58 m a).f3) ((rd_T58 m a).f4) true _ ?_ ?_ F.out).mono ?_); exact ca_ ((cb_ q.out HB.out)); exact s.out; rintro e w8 ⟨rfl, hb⟩; replace HB := hq_ hb; clear hb))
   go_ret
   exact ⟨er_, bel_⟩
  replace c7 := bf_.mpr c7
  subst c7
  have H1 : (dom_Dom_75_at_prop_Fits_1.l0 k1 m (m.length : Int) (wrap64 (a + 1))) = some r := by rw [ig_ (show ¬ (false = true) by decide)] at H; exact H
  clear H
  have H := H1
  clear H1
  have H' := a_ H
  clear H
  have p291 : 0 ≤ (a : Int) := dq_
  have p : a < (m.length : Int) := dq_
  obtain ⟨v, u, c291_1, t, b, c, d, g, l, n, o⟩ := at_T58 z.out a p291 p
  cases t
  replace b := hx_ HB b
  replace c := hx_ HB c
  replace d := hx_ HB d
  replace g := hx_ HB g
  replace l := hx_ HB l
  have q := a_ o
  have s := a_ n
  clear o n
  replace p291 := et_ p291
  replace p := et_ p
  go_wp2_with (first | (go_at_call 57; (with_reducible refine (prop_Fits_1.calls ((rd_T58 m a).f0) _ _ ((rd_T58 m a).f1) ((rd_T58 m a).f2) ((rd_T58 m a).f3) ((rd_T58 m a).f4) false _ ?_ ?_ F.out).mono ?_); exact ca_ ((cb_ q.out HB.out)); exact s.out; rintro e w9 ⟨rfl, hb⟩; replace HB := hq_ hb; clear hb))
  go_roundg k1
  case measure => have := A.out; omega
  exact ⟨(wrap64 (a + 1)), eq_, H', ⟨by have := A.out; omega⟩, ⟨bel_⟩⟩

/-! ### dom_Dom_56_at_prop_Fits_1: function 56 -/
def dom_Dom_56_at_prop_Fits_1.f (k : Nat) (b : List (S58))  : Option (Bool) := (dom_Dom_75_at_prop_Fits_1.f k b).bind fun a => (some (decide (a ≥ 0)))
theorem dom_Dom_56_at_prop_Fits_1.mono : ∀ a k, LeO (dom_Dom_56_at_prop_Fits_1.f k a) (dom_Dom_56_at_prop_Fits_1.f (k + 1) a) := by
 intro a k
 unfold dom_Dom_56_at_prop_Fits_1.f
 have m0 := @dom_Dom_75_at_prop_Fits_1.mono
 exact leo_
set_option maxHeartbeats 8000000 in
set_option maxRecDepth 100000 in
theorem dom_Dom_56_at_prop_Fits_1.calls (k : Nat) (d : Option Addr) (c0 : Nat) (a : List (S58))  (r : Bool) (w : World) (b : Kd.C k58 w d a.length a) (c : a.length ≤ c0) (h : dom_Dom_56_at_prop_Fits_1.f k a = some r) :
  Calls Tryz.prog 56 #[.slice d a.length c0, .func (.func 57) #[] #[]] w fun e w' => e = .returned (.bool r) ∧ Below w.heap.size w w' := by
 have l := a_ b
 have m := a_ c
 clear b c
 have HB := a_ (Below.refl w.heap.size w)
 unfold dom_Dom_56_at_prop_Fits_1.f at h
 have H := h
 clear h
 replace H := bo_ H
 obtain ⟨g, n, H⟩ := H
 try dsimp only at H
 obtain rfl := si_ H
 go_enter Tryz.func56, Tryz.ntmps56
 go_wp2_with (first | ((with_reducible refine gate_callee (f := 75) rfl ?_); refine goesL_ (some 7) rfl rfl Tryz.func75 kr_ rfl #[.slice d a.length c0, .func (.func 57) #[] #[]] rfl ar_ ?_; (with_reducible refine (dom_Dom_75_at_prop_Fits_1.calls k _ _ a g _ ?_ ?_ n.out).mono ?_); exact ca_ (l.out); exact m.out; rintro e w4 ⟨rfl, hb⟩; refine ⟨_, rfl, ?_⟩; replace HB := hq_ hb; clear hb))
 go_ret
 exact ⟨er_, bel_⟩

/-! ### prop_Fits: function 28 -/
def prop_Fits.f (k : Nat) (a : Int) (b : List Int) (c : List Int) (d : List Int) (e : List Int) (g : List Int) (l : Int) (m : List (List Int)) (p : List (S58)) (q : Int) (r : Int) : Option (Bool) := (dom_Dom_56_at_prop_Fits_1.f k p).bind fun n => (if a ≥ q then (if a ≤ r then ((model_Right.f k a b c d e g l m 256).bind fun o => (if o = 0 then (if (p.length : Int) = (wrap64 ((b.length : Int) + (c.length : Int))) then (some (!n)) else (none)) else (none))) else (none)) else (none))
theorem prop_Fits.mono : ∀ b c d e g l m n o p a k, LeO (prop_Fits.f k b c d e g l m n o p a) (prop_Fits.f (k + 1) b c d e g l m n o p a) := by
 intro b c d e g l m n o p a k
 unfold prop_Fits.f
 have m0 := @dom_Dom_56_at_prop_Fits_1.mono
 have m1 := @model_Right.mono
 exact leo_
set_option maxHeartbeats 8000000 in
set_option maxRecDepth 100000 in
theorem prop_Fits.calls (k : Nat) (c : Int) (s : Option Addr) (c0_1 : Nat) (a : List Int) (u : Option Addr) (c0_2 : Nat) (b : List Int) (v : Option Addr) (c0_3 : Nat) (g : List Int) (x : Option Addr) (c0_4 : Nat) (l : List Int) (y : Option Addr) (c0_5 : Nat) (m : List Int) (p : Int) (z : Option Addr) (c0_7 : Nat) (n : List (List Int)) (A1 : Option Addr) (c1 : Nat) (o : List (S58)) (U : Int) (V : Int) (r : Bool) (w : World) (A : Kd.C (Kd.int .i64) w s a.length a) (B : a.length ≤ c0_1) (E : Kd.C (Kd.int .i64) w u b.length b) (F : b.length ≤ c0_2) (G : Kd.C (Kd.int .i64) w v g.length g) (I : g.length ≤ c0_3) (J : Kd.C (Kd.int .i64) w x l.length l) (K : l.length ≤ c0_4) (M : Kd.C (Kd.int .i64) w y m.length m) (O : m.length ≤ c0_5) (P : Kd.C (Kd.slice 3 (Kd.int .i64)) w z n.length n) (Q : n.length ≤ c0_7) (ak : Kd.C k58 w A1 o.length o) (al : o.length ≤ c1) (h : prop_Fits.f k c a b g l m p n o U V = some r) :
  Calls Tryz.prog 28 #[.agg #[.int .i64 c, .slice s a.length c0_1, .slice u b.length c0_2, .slice v g.length c0_3, .slice x l.length c0_4, .slice y m.length c0_5, .int .i64 p, .slice z n.length c0_7], .slice A1 o.length c1, .int .i64 U, .int .i64 V] w fun e w' => e = .returned (.bool r) ∧ Below w.heap.size w w' := by
 have hu32 := Tryz.underlying32
 have W := a_ A
 have X := a_ B
 clear A B
 have Y := a_ E
 have Z := a_ F
 clear E F
 have aa := a_ G
 have ab := a_ I
 clear G I
 have ac := a_ J
 have ad := a_ K
 clear J K
 have ae := a_ M
 have af := a_ O
 clear M O
 have ag := a_ P
 have ah := a_ Q
 clear P Q
 have ao := a_ ak
 have ap := a_ al
 clear ak al
 have HB := a_ (Below.refl w.heap.size w)
 unfold prop_Fits.f at h
 have H := h
 clear h
 replace H := bo_ H
 obtain ⟨an, A5, H⟩ := H
 try dsimp only at H
 by_cases c6 : c ≥ U
 rotate_left
 ·
  rw [ig_ c6] at H
  exact ab_ H
 rw [ip_ c6] at H
 have c6b0 : decide (U ≤ c) = true := dt_ c6
 clear c6
 by_cases c7 : c ≤ V
 rotate_left
 ·
  rw [ig_ c7] at H
  exact ab_ H
 rw [ip_ c7] at H
 have c7b0 : decide (c ≤ V) = true := dt_ c7
 clear c7
 replace H := bo_ H
 obtain ⟨q, A8, H⟩ := H
 try dsimp only at H
 by_cases c9 : q = 0
 rotate_left
 ·
  rw [ig_ c9] at H
  exact ab_ H
 rw [ip_ c9] at H
 have c9b0 : (q == 0) = true := beq_iff_eq.mpr c9
 have c9b1 : (q != 0) = false := bn_.mpr c9
 clear c9
 by_cases c10 : (o.length : Int) = (wrap64 ((a.length : Int) + (b.length : Int)))
 rotate_left
 ·
  rw [ig_ c10] at H
  exact ab_ H
 rw [ip_ c10] at H
 have c10b0 : ((o.length : Int) == (wrap64 ((a.length : Int) + (b.length : Int)))) = true := beq_iff_eq.mpr c10
 have c10b1 : ((o.length : Int) != (wrap64 ((a.length : Int) + (b.length : Int)))) = false := bn_.mpr c10
 clear c10
 obtain rfl := si_ H
 go_enter Tryz.func28, Tryz.ntmps28
 go_wp2_with (first | ((with_reducible refine gate_dst (N := 4) rfl ?_); (try (refine gate_guard (by rfl) ?_; dsimp only)); refine bxe_ (N := 4) (cs := #[.int .i64 c, .slice s a.length c0_1, .slice u b.length c0_2, .slice v g.length c0_3, .slice x l.length c0_4, .slice y m.length c0_5, .int .i64 p, .slice z n.length c0_7]) (t := 32) ?_; intro ai hg w11 hbox hb; have d := a_ (hbox); have aj := a_ (by rw [hg]; exact (bz_ bel_) : w.heap.size ≤ ai); have aq := aj; replace HB := hq_ hb; clear hb hbox hg) | ((with_reducible refine gate_callee (f := 56) rfl ?_); refine goesL_ (some 11) rfl rfl Tryz.func56 kr_ rfl #[.slice A1 o.length c1, .func (.func 57) #[] #[]] rfl ar_ ?_; (with_reducible refine (dom_Dom_56_at_prop_Fits_1.calls k _ _ o an _ ?_ ?_ A5.out).mono ?_); exact ca_ ((cb_ ao.out HB.out)); exact ap.out; rintro e w12 ⟨rfl, hb⟩; refine ⟨_, rfl, ?_⟩; replace d := a_ (bq_ d.out hb); replace HB := hq_ hb; clear hb; obtain ⟨_, _, _, _, _, _, _, _, _, _, _, _, _, _, _, _⟩ := cel8_ d.out) | (go_at_call 59; (with_reducible refine (model_Right.calls k c _ _ a _ _ b _ _ g _ _ l _ _ m p _ _ n 256 q _ ?_ ?_ ?_ ?_ ?_ ?_ ?_ ?_ ?_ ?_ ?_ ?_ A8.out).mono ?_); exact ca_ ((cb_ W.out HB.out)); exact X.out; exact ca_ ((cb_ Y.out HB.out)); exact Z.out; exact ca_ ((cb_ aa.out HB.out)); exact ab.out; exact ca_ ((cb_ ac.out HB.out)); exact ad.out; exact ca_ ((cb_ ae.out HB.out)); exact af.out; exact ca_ ((cb_ ag.out HB.out)); exact ah.out; rintro e w14 ⟨rfl, hb⟩; replace d := a_ (bq_ d.out hb); replace HB := hq_ hb; clear hb; obtain ⟨_, _, _, _, _, _, _, _, _, _, _, _, _, _, _, _⟩ := cel8_ d.out))
 go_ret
 exact ⟨er_, bel_⟩

/-! ### slices_CloneDom: function 29 -/
def slices_CloneDom.f (a : List S58) : Option (List S58) := if a.length < 1000000000000 then some a else none
theorem infoDom : (Tryz.prog.info? 58).map (fun i => (i.zero, i.size, i.bytes)) = some (some (.agg #[.int .i64 0, .slice none 0 0, .int .i64 0, .int .i64 0, .int .i64 0]), 5, 56) := by kernel_rfl
theorem slices_CloneDom.calls (P0_ : Nat → Prop) (o : Option Addr) (c0 : Nat) (g : List S58) (r : List S58) (w : World) (l : Kd.V k58 58 w w.heap.size (fun d => P0_ d) (.slice o g.length c0) g) (h : slices_CloneDom.f g = some r) :
  Calls Tryz.prog 29 #[.slice o g.length c0] w fun e w' => ∃ m : Value, e = .returned (m) ∧ Kd.N k58 58 w' w.heap.size (fun d => (P0_ d ∨ w.heap.size ≤ d)) m r ∧ Below w.heap.size w w' := by
 unfold slices_CloneDom.f at h
 by_cases hb : g.length < 1000000000000
 rotate_left
 · rw [if_neg hb] at h; cases h
 rw [if_pos hb] at h
 obtain rfl := Option.some.inj h
 clear h
 rcases o with _ | ad
 ·
  have h0 : g = [] := by
   rcases Nat.eq_zero_or_pos g.length with h0 | h0
   · exact List.eq_nil_of_length_eq_zero h0
   obtain ⟨ad, e, _⟩ := (Kd.F_now (Kd.V_F l)).2.2 h0; cases e
  subst h0
  have qT : ∀ (w : World) (a : Option Addr) (n c n' c' : Nat), (binOp .eql 36 (.slice a n c) (.slice none n' c')).run Tryz.prog w = .ok (.bool a.isNone) w := fun w a n c n' c' => Lib.run_eql_slice_nil w _ _ a n c n' c' Tryz.underlying36
  clear l hb
  go_enter Tryz.func29, Tryz.ntmps29
  go_wp2
  go_ret
  exact ⟨_, rfl, Kd.N_nil _ _ _ _ _, Below.refl _ _⟩
 have qT : ∀ (w : World) (a : Option Addr) (n c n' c' : Nat), (binOp .eql 36 (.slice a n c) (.slice none n' c')).run Tryz.prog w = .ok (.bool a.isNone) w := fun w a n c n' c' => Lib.run_eql_slice_nil w _ _ a n c n' c' Tryz.underlying36
 have HR := Aside0.mk l
 have HL := Aside0.mk hb
 clear l hb
 go_enter Tryz.func29, Tryz.ntmps29
 go_wp2_with (first | ((with_reducible refine gate_dst (N := 5) rfl ?_); refine Kd.R_lit k58 _ 58 ?hg (N := 5) ?hd (xs := ([] : List S58)) (inner := []) (ok := fun d => w.heap.size ≤ d) (okp := fun _ => False) ?hr ?hp (fun _ hk => hk.elim) (Nat.le_refl _) (Below.refl _ _) (Nat.le_refl _) (by simp) ?_; (case hd => rfl); (case hg => rfl); (case hr => first | (go_simp; done) | (go_simp; rfl)); (case hp => exact Reps.none _ _); intro p w1 hR hB hG hat; have HO := Aside0.mk (Kd.N_mono (Kd.R_N hR) (ok' := fun d => (P0_ d ∧ d < w.heap.size) ∨ w.heap.size ≤ d) (fun k hk => Or.inr hk)); have HB := Aside0.mk hB; have HV := Aside0.mk (fun k (hk : some k = p.ownBlock) => hR.1 k hk.symm); clear hR hB hG hat) | ((with_reducible refine gate_builtin (b := .append) (xs := #[.tmp 5, .tmp 6]) rfl ?_); at_builtin; refine Kd.N_append_rows k58 (w0 := w) w.heap.size rfl (.tmp 5) (.tmp 6) 36 58 (.agg #[.int .i64 0, .slice none 0 0, .int .i64 0, .int .i64 0, .int .i64 0]) 56 rfl Tryz.underlying36 infoDom rfl (by decide) (by decide) p [] g (some ad) g.length c0 (fun d => (P0_ d ∧ d < w.heap.size) ∨ w.heap.size ≤ d) (fun d => P0_ d ∧ d < w.heap.size) rfl rfl HO.out (Kd.V_F (Kd.V_below (Kd.V_bound HR.out) HB.out)) (fun k hk => ⟨Or.inl hk, fun he => Nat.lt_irrefl _ (Nat.lt_of_lt_of_le hk.2 (HV.out k he))⟩) (fun k hk => Or.inr (Nat.le_trans HB.out.size hk)) HB.out HB.out.size (by have := HL.out; simp only [List.length_nil]; omega) ?_; intro s w2 hR hB hG hat; have q := Aside0.mk hR; have HB2 := Aside0.mk hB; clear hR hB hG hat))
 go_ret
 exact ⟨_, rfl, Kd.N_mono q.out (fun k hk => hk.elim (fun h => Or.inl h.1) Or.inr), HB2.out⟩

/-! ### bits_TrailingZeros64: function 49 -/
def tabL : List Int := [0, 1, 56, 2, 57, 49, 28, 3, 61, 58, 42, 50, 38, 29, 17, 4, 62, 47, 59, 36, 45, 43, 51, 22, 53, 39, 33, 30, 24, 18, 12, 5, 63, 55, 48, 27, 60, 41, 37, 16, 46, 35, 44, 21, 52, 32, 23, 11, 54, 26, 40, 15, 34, 20, 31, 10, 25, 14, 19, 9, 13, 8, 7, 6]
def bits_TrailingZeros64.f (a : Int) : Option Int := if 0 ≤ a ∧ a < 18446744073709551616 then some (Lib.ctz 64 a.toNat : Nat) else none
theorem tz64_key (x a : Nat) (hx : x < 18446744073709551616) (hx0 : x ≠ 0) (hlow : x &&& (18446744073709551616 - x) = a) :
  IntKind.u64.wrap (Go.bits .and .u64 (x : Int) (IntKind.u64.wrap (-(x : Int))) * 285870213051353865) / 288230376151711744 = ((a * 285870213051353865 % 18446744073709551616 / 288230376151711744 : Nat) : Int) := by
 have e1 : IntKind.u64.wrap (-(x : Int)) = ((18446744073709551616 - x : Nat) : Int) := by rw [IntKind.wrap_u64]; omega
 rw [e1, bits_and_u64_nat x _ hx (by omega), hlow, IntKind.wrap_u64]
 omega
set_option maxHeartbeats 1000000 in
theorem tz64_core (x k idx : Nat) (w : World) (hx0 : ((x : Int) == 0) = false)
  (key : IntKind.u64.wrap (Go.bits .and .u64 (x : Int) (IntKind.u64.wrap (-(x : Int))) * 285870213051353865) / 288230376151711744 = (idx : Int))
  (hi : idx < 64) (hk : k < 64) (hcell : w.cell? ⟨0, idx, none⟩ = some (.int .u8 k)) :
  Calls Tryz.prog 49 #[.int .u64 x] w fun e w' => e = .returned (.int .i64 k) ∧ w = w' := by
 go_enter Tryz.func49, Tryz.ntmps49
 go_wp2_with (simp only [key])
 go_ret
 exact ⟨rfl, rfl⟩
theorem tz64_zero (w : World) : Calls Tryz.prog 49 #[.int .u64 0] w fun e w' => e = .returned (.int .i64 64) ∧ w = w' := by
 go_enter Tryz.func49, Tryz.ntmps49
 go_wp2
 go_ret
 exact ⟨rfl, rfl⟩
theorem tabL_at (i : Nat) (h : i < 64) : tabL.getD i 0 = ((Lib.deBruijn64tab.getD i 0 : Nat) : Int) := by
 revert i; decide +kernel
theorem bits_TrailingZeros64.calls (b : Int) (r : Int) (w : World) (hrtab : Kd.C (Kd.int .u8) w (some ⟨0, 0, none⟩) tabL.length tabL) (h : bits_TrailingZeros64.f b = some r) :
  Calls Tryz.prog 49 #[.int .u64 b] w fun e w' => e = .returned (.int .i64 r) ∧ Drawn0 w w' := by
 unfold bits_TrailingZeros64.f at h
 by_cases hb : 0 ≤ b ∧ b < 18446744073709551616
 rotate_left
 ·
  rw [if_neg hb] at h
  cases h
 rw [if_pos hb] at h
 obtain rfl := Option.some.inj h
 obtain ⟨x, rfl⟩ := Int.eq_ofNat_of_zero_le hb.1
 rw [Int.toNat_natCast]
 by_cases a : x = 0
 ·
  subst a
  exact (tz64_zero w).mono (fun e w' ⟨he, hw⟩ => ⟨he, by subst hw; exact Drawn0.refl _⟩)
 have hx : x < 18446744073709551616 := by omega
 obtain ⟨hlow, hk⟩ := Lib.lowest_bit 64 x a hx
 obtain ⟨hi, htab⟩ := Lib.deBruijn64_at _ hk
 obtain ⟨ad, had, hcell⟩ := Kd.at_int hrtab ((2 ^ Lib.ctz 64 x * 285870213051353865 % 18446744073709551616 / 288230376151711744 : Nat) : Int) (by omega) (by show _ < ((64 : Nat) : Int); omega)
 obtain rfl := Option.some.inj had
 rw [Int.toNat_natCast] at hcell
 have c : rd tabL ((2 ^ Lib.ctz 64 x * 285870213051353865 % 18446744073709551616 / 288230376151711744 : Nat) : Int) = ((Lib.ctz 64 x : Nat) : Int) := by
  unfold rd
  rw [Int.toNat_natCast, tabL_at _ hi, htab]
 rw [c, add_plain] at hcell
 exact (tz64_core x _ _ w (by simp; omega) (tz64_key x _ hx a hlow) hi hk hcell).mono (fun e w' ⟨he, hw⟩ => ⟨he, by subst hw; exact Drawn0.refl _⟩)

/-! ### dom_Dom_List: function 22 -/
mutual
def dom_Dom_List.l0 : Nat → List Int → List Int → Int → Int → Int → List Int → Int → Int → Int → Option (List Int)
 | 0, _, _, _, _, _, _, _, _, _ => none
 | k + 1, l, g, m, a, b, c, d, e, f => if a < m then (if 0 ≤ a then (if a < (g.length : Int) then (dom_Dom_List.l1 k l a (rd g a) g m a b c d e f) else (none)) else (none)) else (some l)
def dom_Dom_List.l1 : Nat → List Int → Int → Int → List Int → Int → Int → Int → List Int → Int → Int → Int → Option (List Int)
 | 0, _, _, _, _, _, _, _, _, _, _, _ => none
 | k + 1, l, n, g, o, p, q, a, b, c, d, e => if g = 0 then (dom_Dom_List.l0 k l o p (wrap64 (q + 1)) a b c d e) else ((bits_TrailingZeros64.f g).bind fun m => (if l.length < 17592186044416 then (dom_Dom_List.l1 k (l ++ [wrap64 ((wrap64 (a + (wrap64 (64 * n)))) + m)]) n (Go.bits .and .u64 g (IntKind.u64.wrap (g - 1))) o p q a b c d e) else (none)))
end
def dom_Dom_List.f (k : Nat) (b : Int) (a : List Int) (c : Int) (d : Int) (e : Int) : Option (List Int) := dom_Dom_List.l0 k ([] : List Int) a (a.length : Int) 0 b a c d e
theorem dom_Dom_List.mono_l : ∀ k, (∀ a b c d e f g l m, LeO (dom_Dom_List.l0 k a b c d e f g l m) (dom_Dom_List.l0 (k + 1) a b c d e f g l m)) ∧ (∀ a b c d e f g l m o n, LeO (dom_Dom_List.l1 k a b c d e f g l m o n) (dom_Dom_List.l1 (k + 1) a b c d e f g l m o n))
 | 0 => by refine ⟨?_, ?_⟩ <;> (intros; exact LeO.none _)
 | k + 1 => by
  obtain ⟨ih0, ih1⟩ := dom_Dom_List.mono_l k
  refine ⟨?_, ?_⟩ <;> intros
  all_goals first | unfold dom_Dom_List.l0 | unfold dom_Dom_List.l1
  all_goals exact leo_
theorem dom_Dom_List.mono : ∀ a b c d e k, LeO (dom_Dom_List.f k a b c d e) (dom_Dom_List.f (k + 1) a b c d e) := by
 intro a b c d e k
 obtain ⟨ih0, ih1⟩ := dom_Dom_List.mono_l k
 unfold dom_Dom_List.f
 exact leo_
def dom_Dom_List.T7 : Bool × List (List Nat × List Nat) := (true, [([], []), ([], []), ([1], [1]), ([], []), ([3], [3]), ([2, 4], [2, 4]), ([], []), ([6], [6]), ([5, 7], [5, 7]), ([8], [8]), ([0, 9, 7], [0, 9]), ([10, 10, 0, 1, 2, 3, 4, 5, 6, 7, 8, 9, 10], [0, 10])])
def dom_Dom_List.B7 : List Nat := [0, 0, 2, 0, 8, 30, 0, 64, 254, 510, 1023, 2047]
theorem dom_Dom_List.tab7 : rtab .any (opsOf Tryz.f22 7) = dom_Dom_List.T7 := by kernel_rfl
theorem dom_Dom_List.bits7 : waitsOk dom_Dom_List.T7.2 dom_Dom_List.B7 = true := by kernel_rfl
set_option maxHeartbeats 8000000 in
set_option maxRecDepth 100000 in
theorem dom_Dom_List.calls (k : Nat) (g : Int) (x : Option Addr) (c0_1 : Nat) (b : List Int) (m : Int) (o : Int) (p : Int) (r : List Int) (w : World) (B : Kd.C (Kd.int .u64) w x b.length b) (E : b.length ≤ c0_1) (hrtab : Kd.C (Kd.int .u8) w (some ⟨0, 0, none⟩) tabL.length tabL) (h : dom_Dom_List.f k g b m o p = some r) :
  Calls Tryz.prog 22 #[.agg #[.int .i64 g, .slice x b.length c0_1, .int .i64 m, .int .i64 o, .int .i64 p]] w fun e w' => ∃ U : Value, e = .returned (U) ∧ Kd.R (Kd.int .i64) 3 w' w.heap.size (fun _ => True) U r ∧ Below w.heap.size w w' := by
 have hu58 := Tryz.underlying58
 have M := a_ B
 have X := a_ E
 clear B E
 have HRtab := a_ hrtab
 clear hrtab
 have HB := a_ (Below.refl w.heap.size w)
 unfold dom_Dom_List.f at h
 have H := h
 clear h
 have H' := a_ H
 clear H
 go_enter Tryz.func22, Tryz.ntmps22
 go_wp2_with (first | ((with_reducible refine gate_dst (N := 1) rfl ?_); refine bxe_ (N := 1) (cs := #[.int .i64 g, .slice x b.length c0_1, .int .i64 m, .int .i64 o, .int .i64 p]) (t := 58) ?_; intro l hg w2 hbox hb; have a := a_ (hbox); have O := a_ (by rw [hg]; exact (bz_ bel_) : w.heap.size ≤ l); have Y := O; replace HB := hq_ hb; clear hb hbox hg; obtain ⟨_, _, _, _, _, _, _, _, _, _⟩ := cel5_ a.out))
 go_loopg [3, 9] k (fun kq V Z w' => ∃ (y : List Int) (c : Int), Z = .int .i64 c ∧ Aside0 (dom_Dom_List.l0 kq y b (b.length : Int) c g b m o p = some r) ∧ Aside0 (kq ≤ k) ∧ Aside0 (Kd.R (Kd.int .i64) 3 w' w.heap.size (fun _ => True) V y) ∧ Aside0 (w'.heap[l]? = some (.cells #[.int .i64 g, (.slice x b.length c0_1), .int .i64 m, .int .i64 o, .int .i64 p] 58 (0, 0))) ∧ Aside0 (Below w.heap.size w w'))
 case atStart => exact ⟨(([] : List Int)), (0), eq_, H', ⟨lr_ _⟩, ⟨nil_⟩, ⟨bk_ a.out⟩, ⟨bel_⟩⟩
 clear H'
 try clear c2
 try clear p2
 obtain ⟨y, c, rfl, HA, F, HO_3, a, HB⟩ := hrel
 cases gk with
 | zero => exact absurd HA.out (by simp [dom_Dom_List.l0])
 | succ k1 =>
  have H := HA.out
  clear HA
  simp only [dom_Dom_List.l0] at H
  by_cases c4 : c < (b.length : Int)
  rotate_left
  ·
   rw [ig_ c4] at H
   have c4b0 : decide (c < (b.length : Int)) = false := df_ c4
   clear c4
   obtain rfl := si_ H
   go_wp2
   go_ret
   exact ⟨_, er_, vR_ HO_3.out, bel_⟩
  rw [ip_ c4] at H
  have c4b0 : decide (c < (b.length : Int)) = true := dt_ c4
  clear c4
  by_cases c5 : 0 ≤ c
  rotate_left
  ·
   rw [ig_ c5] at H
   exact ab_ H
  rw [ip_ c5] at H
  have c5b0 : decide (0 ≤ c) = true := dt_ c5
  clear c5
  by_cases c6 : c < (b.length : Int)
  rotate_left
  ·
   rw [ig_ c6] at H
   exact ab_ H
  rw [ip_ c6] at H
  have c6b0 : decide (c < (b.length : Int)) = true := dt_ c6
  clear c6
  have H' := a_ H
  clear H
  have p298 : 0 ≤ (c : Int) := dq_
  have z : c < (b.length : Int) := dq_
  obtain ⟨G, W, q⟩ := ai_ M.out c p298 z
  cases W
  replace q := hx_ HB q
  replace p298 := et_ p298
  replace z := et_ z
  go_wp2
  go_loopg [3, 5] k1 (fun kq V v5 w' => ∃ (s : List Int) (d : Int), v5 = .int .u64 d ∧ Aside0 (dom_Dom_List.l1 kq s c d b (b.length : Int) c g b m o p = some r) ∧ Aside0 (kq ≤ k1) ∧ Aside0 (Kd.R (Kd.int .i64) 3 w' w.heap.size (fun _ => True) V s) ∧ Aside0 (w'.heap[l]? = some (.cells #[.int .i64 g, (.slice (some G) b.length c0_1), .int .i64 m, .int .i64 o, .int .i64 p] 58 (0, 0))) ∧ Aside0 (Below w.heap.size w w'))
  case atStart => exact ⟨(y), (rd b c), eq_, H', ⟨lr_ _⟩, ⟨vR_ HO_3.out⟩, ⟨bk_ a.out⟩, ⟨bel_⟩⟩
  clear H'
  try clear c2
  try clear p2
  try clear q2
  try clear ad
  try clear c4
  try clear c4b0
  try clear c5
  try clear c5b0
  try clear c6
  try clear c6b0
  try clear q
  try clear p2
  try clear p298
  try clear z
  obtain ⟨s, d, rfl, HA, I, HO_3, a, HB⟩ := hrel
  cases gk with
  | zero => exact absurd HA.out (by simp [dom_Dom_List.l1])
  | succ k2 =>
   have H := HA.out
   clear HA
   simp only [dom_Dom_List.l1] at H
   by_cases c7 : d = 0
   ·
    rw [ip_ c7] at H
    have c7b0 : (d == 0) = true := beq_iff_eq.mpr c7
    have c7b1 : (d != 0) = false := bn_.mpr c7
    clear c7
    have H' := a_ H
    clear H
    go_wp2
    go_roundg k2
    case measure => have := F.out; have := I.out; omega
    exact ⟨(s), (wrap64 (c + 1)), eq_, H', ⟨by have := F.out; have := I.out; omega⟩, ⟨vR_ HO_3.out⟩, ⟨bk_ a.out⟩, ⟨bel_⟩⟩
   rw [ig_ c7] at H
   have c7b0 : (d == 0) = false := be_.mpr c7
   have c7b1 : (d != 0) = true := ni_.mpr c7
   replace H := bo_ H
   obtain ⟨A, A8, H⟩ := H
   try dsimp only at H
   by_cases c9 : s.length < 17592186044416
   rotate_left
   ·
    rw [ig_ c9] at H
    exact ab_ H
   rw [ip_ c9] at H
   have LMc9 := a_ c9
   clear c9
   obtain ⟨J, u⟩ : ∃ y_ : List Int, y_ = (s ++ [wrap64 ((wrap64 (g + (wrap64 (64 * c)))) + A)]) := ⟨_, rfl⟩
   replace H : (dom_Dom_List.l1 k2 J c (Go.bits .and .u64 d (IntKind.u64.wrap (d - 1))) b (b.length : Int) c g b m o p) = some r := h2_ H u
   have P := a_ u
   clear u
   have H' := a_ H
   clear H
   try go_wp2
   replace HO_3 := a_ (Kd.R_drew HO_3.out)
   replace a := a_ (blk_drew a.out)
   replace HB := a_ (below_drew1 HB.out)
   refine start_ (n := 12) (S := fun w' => w'.cell? ⟨l, 0, none⟩ = some (.int .i64 g) ∧ w'.cell? ⟨l, 1, none⟩ = some (.slice (some G) b.length c0_1) ∧ w'.cell? ⟨l, 2, none⟩ = some (.int .i64 m) ∧ w'.cell? ⟨l, 3, none⟩ = some (.int .i64 o) ∧ w'.cell? ⟨l, 4, none⟩ = some (.int .i64 p)) (ds := []) #[false, false, false, false, false, false, false, false, false, false, false, false] kr_ rfl rfl (ca5_ a.out) (fun hHeld => ?_); refine with_tabW dom_Dom_List.tab7 dom_Dom_List.bits7 (fun HT_ HW_ => ?_)
   generalize wr.drew = w10 at HO_3 a HB hHeld ⊢
   refine pn_ 0 20 ao_ ?_
   refine pn_ 1 21 ao_ ?_
   refine pn_ 3 23 ao_ ?_
   refine pn_ 4 24 ao_ ?_
   refine pn_ 6 26 ao_ ?_
   refine tn_ 2 22 tw_ hHeld ?_
   refine pn_ 5 25 ao_ ?_
   refine onn_ 7 27 #[true, true, true, true, true, true, true, true, false, false, false, false] rfl rfl on_ (by decide) (fun K hK => ?_)
   refine goes_ Tryz.func49 kr_ rfl #[.int .u64 d] (by rfl) rfl rfl ar_ ?_
   with_reducible refine (bits_TrailingZeros64.calls d A _ ?_ A8.out).mono ?_
   exact ca_ ((cb_ HRtab.out HB.out))
   rintro e w' ⟨rfl, ⟨nd, rfl⟩⟩
   refine ⟨_, rfl, ?_⟩
   refine hK.out _ _ (ca5_ a.out) (fun hHeld => ?_)
   clear hK K
   refine nor_ (N := some 27) ?_
   refine pn_ 8 28 ao_ ?_
   refine onn_ 9 29 #[true, true, true, true, true, true, true, true, true, true, false, false] rfl rfl on_ (by decide) (fun K hK => ?_)
   refine value_ (w1 := ?_) (v := ?_) (by rfl) rfl ?_ ?_
   rotate_left 2
   ·
    go_simp
    constructor
    · rfl
    rfl
   refine hK.out _ _ ⟨(blk_cell (blk_alloc a.out _) 0).trans rfl, (blk_cell (blk_alloc a.out _) 1).trans rfl, (blk_cell (blk_alloc a.out _) 2).trans rfl, (blk_cell (blk_alloc a.out _) 3).trans rfl, (blk_cell (blk_alloc a.out _) 4).trans rfl⟩ (fun hHeld => ?_)
   clear hK K
   refine nor_ (N := some 29) ?_
   refine onn_ 10 30 #[true, true, true, true, true, true, true, true, true, true, true, false] rfl rfl on_ (by decide) (fun K hK => ?_)
   refine Kd.R_append_step (Kd.int .i64) (w0 := w) w.heap.size (by rfl) (.tmp 20) (.tmp 29) 30 3 (.int .i64 0) 8 rfl Tryz.underlying30 info3 rfl (by decide) (by omega) u3 s (wrap64 ((wrap64 (g + (wrap64 (64 * c)))) + A)) [.int .i64 (wrap64 ((wrap64 (g + (wrap64 (64 * c)))) + A))] (fun _ => True) (fun _ => False) rfl rfl ?aP (fun _ hk => hk.elim) ?aF ?aO ?aB ?aS ?aL ?_
   (case aP => exact rfl)
   (case aB => exact bel_)
   (case aF => exact (fun _ _ => trivial))
   (case aO => exact (vR_ HO_3.out))
   (case aS => exact (bz_ bel_))
   (case aL => have := LMc9.out; omega)
   intro ac w11 ho hb hg hat
   rw [← P.out] at ho
   replace a := a_ (blk_grown (bk_ a.out) hg (Kd.R_ne HO_3.out a.out (by decide)))
   replace HB := a_ (hb)
   have Q := a_ (ho)
   clear HO_3
   clear ho hb hg hat
   refine hK.out _ _ (ca5_ a.out) (fun hHeld => ?_)
   clear hK K
   refine nor_ (N := some 30) ?_
   refine pn_ 11 3 ao_ ?_
   refine done_ dn_ ?_
   try go_wp2
   go_roundg k2
   case measure => have := F.out; have := I.out; omega
   exact ⟨(J), (Go.bits .and .u64 d (IntKind.u64.wrap (d - 1))), eq_, H', ⟨by have := F.out; have := I.out; omega⟩, ⟨vR_ Q.out⟩, ⟨bk_ a.out⟩, ⟨bel_⟩⟩

/-! ### dom_in: function 51 -/
def dom_in.f (a : Int) : Option (Bool) := if a ≥ (-1000000) then (some (decide (a ≤ 1000000))) else (some false)
set_option maxHeartbeats 8000000 in
set_option maxRecDepth 100000 in
theorem dom_in.calls (a : Int) (r : Bool) (w : World) (h : dom_in.f a = some r) :
  Calls Tryz.prog 51 #[.int .i64 a] w fun e w' => e = .returned (.bool r) ∧ Drawn0 w w' := by
 unfold dom_in.f at h
 have H := h
 clear h
 by_cases c2 : a ≥ (-1000000)
 ·
  rw [ip_ c2] at H
  have c2b0 : decide ((-1000000) ≤ a) = true := dt_ c2
  clear c2
  obtain rfl := si_ H
  go_enter Tryz.func51, Tryz.ntmps51
  go_wp2
  go_ret
  exact ⟨by first | rfl | (simp; done) | (simp [*]; done), by repeat (first | exact d0_ _ | apply Drawn0.step)⟩
 rw [ig_ c2] at H
 have c2b0 : decide ((-1000000) ≤ a) = false := df_ c2
 clear c2
 obtain rfl := si_ H
 go_enter Tryz.func51, Tryz.ntmps51
 go_wp2
 go_ret
 exact ⟨by first | rfl | (simp; done) | (simp [*]; done), by repeat (first | exact d0_ _ | apply Drawn0.step)⟩

/-! ### dom_Dom_word: function 52 -/
def dom_Dom_word.f (a : Int) (b : List Int) (d : Int) (e : Int) (g : Int) (c : Int) : Option (Int) := if c < a then (some 0) else (if (wrap64 (Int.tdiv (wrap64 (c - a)) 64)) ≥ (b.length : Int) then (some 0) else (if 0 ≤ (wrap64 (Int.tdiv (wrap64 (c - a)) 64)) then (if (wrap64 (Int.tdiv (wrap64 (c - a)) 64)) < (b.length : Int) then (some (rd b (wrap64 (Int.tdiv (wrap64 (c - a)) 64)))) else (none)) else (none)))
set_option maxHeartbeats 8000000 in
set_option maxRecDepth 100000 in
theorem dom_Dom_word.calls (b : Int) (n : Option Addr) (c0_1 : Nat) (a : List Int) (o : Int) (p : Int) (q : Int) (u : Int) (r : Int) (w : World) (x : Kd.C (Kd.int .u64) w n a.length a) (y : a.length ≤ c0_1) (h : dom_Dom_word.f b a o p q u = some r) :
  Calls Tryz.prog 52 #[.agg #[.int .i64 b, .slice n a.length c0_1, .int .i64 o, .int .i64 p, .int .i64 q], .int .i64 u] w fun e w' => e = .returned (.int .u64 r) ∧ Below w.heap.size w w' := by
 have hu58 := Tryz.underlying58
 have A := a_ x
 have E := a_ y
 clear x y
 have HB := a_ (Below.refl w.heap.size w)
 unfold dom_Dom_word.f at h
 have H := h
 clear h
 by_cases c3 : u < b
 ·
  rw [ip_ c3] at H
  have c3b0 : decide (u < b) = true := dt_ c3
  clear c3
  obtain rfl := si_ H
  go_enter Tryz.func52, Tryz.ntmps52
  go_wp2_with (first | ((with_reducible refine gate_dst (N := 2) rfl ?_); (try (refine gate_guard (by rfl) ?_; dsimp only)); refine bxe_ (N := 2) (cs := #[.int .i64 b, .slice n a.length c0_1, .int .i64 o, .int .i64 p, .int .i64 q]) (t := 58) ?_; intro d hg w4 hbox hb; have g := a_ (hbox); have l := a_ (by rw [hg]; exact (bz_ bel_) : w.heap.size ≤ d); have z := l; replace HB := hq_ hb; clear hb hbox hg; obtain ⟨_, _, _, _, _, _, _, _, _, _⟩ := cel5_ g.out))
  go_ret
  exact ⟨er_, bel_⟩
 rw [ig_ c3] at H
 have c3b0 : decide (u < b) = false := df_ c3
 clear c3
 by_cases c6 : (wrap64 (Int.tdiv (wrap64 (u - b)) 64)) ≥ (a.length : Int)
 ·
  rw [ip_ c6] at H
  have c6b0 : decide ((a.length : Int) ≤ (wrap64 (Int.tdiv (wrap64 (u - b)) 64))) = true := dt_ c6
  clear c6
  obtain rfl := si_ H
  go_enter Tryz.func52, Tryz.ntmps52
  go_wp2_with (first | ((with_reducible refine gate_dst (N := 2) rfl ?_); (try (refine gate_guard (by rfl) ?_; dsimp only)); refine bxe_ (N := 2) (cs := #[.int .i64 b, .slice n a.length c0_1, .int .i64 o, .int .i64 p, .int .i64 q]) (t := 58) ?_; intro d hg w7 hbox hb; have g := a_ (hbox); have l := a_ (by rw [hg]; exact (bz_ bel_) : w.heap.size ≤ d); have z := l; replace HB := hq_ hb; clear hb hbox hg; obtain ⟨_, _, _, _, _, _, _, _, _, _⟩ := cel5_ g.out))
  go_ret
  exact ⟨er_, bel_⟩
 rw [ig_ c6] at H
 have c6b0 : decide ((a.length : Int) ≤ (wrap64 (Int.tdiv (wrap64 (u - b)) 64))) = false := df_ c6
 clear c6
 obtain ⟨c, s⟩ : ∃ j_ : Int, (wrap64 (Int.tdiv (wrap64 (u - b)) 64)) = j_ := ⟨_, rfl⟩
 replace H : (if 0 ≤ (c) then (if (c) < (a.length : Int) then (some (rd a (c))) else (none)) else (none)) = some r := by first | (rw [s] at H; exact H) | (simp only [s] at H ⊢; exact H)
 (try rw [s] at c6b0)
 have hji9w : (IntKind.i64.wrap (Int.tdiv (wrap64 (u - b)) 64)) = c := (i64_w _).trans s
 by_cases c10 : 0 ≤ (c)
 rotate_left
 ·
  rw [ig_ c10] at H
  exact ab_ H
 rw [ip_ c10] at H
 have c10b0 : decide (0 ≤ (c)) = true := dt_ c10
 clear c10
 by_cases c11 : (c) < (a.length : Int)
 rotate_left
 ·
  rw [ig_ c11] at H
  exact ab_ H
 rw [ip_ c11] at H
 have c11b0 : decide ((c) < (a.length : Int)) = true := dt_ c11
 clear c11
 obtain rfl := si_ H
 go_enter Tryz.func52, Tryz.ntmps52
 go_wp2_with (first | ((with_reducible refine gate_dst (N := 2) rfl ?_); (try (refine gate_guard (by rfl) ?_; dsimp only)); refine bxe_ (N := 2) (cs := #[.int .i64 b, .slice n a.length c0_1, .int .i64 o, .int .i64 p, .int .i64 q]) (t := 58) ?_; intro d hg w12 hbox hb; have g := a_ (hbox); have l := a_ (by rw [hg]; exact (bz_ bel_) : w.heap.size ≤ d); have z := l; replace HB := hq_ hb; clear hb hbox hg; obtain ⟨_, _, _, _, _, _, _, _, _, _⟩ := cel5_ g.out; have p304 : 0 ≤ ((c) : Int) := dq_; have v : (c) < (a.length : Int) := dq_; obtain ⟨F, B, m⟩ := ai_ A.out (c) p304 v; cases B; replace m := hx_ HB m; replace p304 := et_ p304; replace v := et_ v))
 go_ret
 exact ⟨by first | rfl | (simp [errW_none, errW_some] <;> rfl) | (simp only [← s]; first | rfl | (simp [errW_none, errW_some] <;> rfl)) | (simp [*, errW_none, errW_some] <;> rfl), bel_⟩

/-! ### dom_place: function 53 -/
def dom_place.f (a : Int) : Option (Int) := some (Go.bits .andNot .i64 a 63)
set_option maxHeartbeats 8000000 in
set_option maxRecDepth 100000 in
theorem dom_place.calls (a : Int) (r : Int) (w : World) (h : dom_place.f a = some r) :
  Calls Tryz.prog 53 #[.int .i64 a] w fun e w' => e = .returned (.int .i64 r) ∧ Drawn0 w w' := by
 unfold dom_place.f at h
 have H := h
 clear h
 obtain rfl := si_ H
 go_enter Tryz.func53, Tryz.ntmps53
 go_wp2
 go_ret
 exact ⟨by first | rfl | (simp; done) | (simp [*]; done), by repeat (first | exact d0_ _ | apply Drawn0.step)⟩

end Go.Proofs.YtfbfalhdgmjdpaaGreatDoor.XInverseTurns
