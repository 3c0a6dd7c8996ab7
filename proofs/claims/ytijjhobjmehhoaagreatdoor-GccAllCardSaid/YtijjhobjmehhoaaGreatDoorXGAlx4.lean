-- by xprint.py, a program of this session, over the kit's print
import Derived.Test.YtijjhobjmehhoaaGreatDoorXGAlx0
import Derived.Test.YtijjhobjmehhoaaGreatDoorXGAlx1
import Derived.Test.YtijjhobjmehhoaaGreatDoorXGAlx3
import Derived.Test.YtijjhobjmehhoaaGreatDoorSq
namespace Go.Proofs.YtijjhobjmehhoaaGreatDoor.XGccAll
open Go.RowKit Go.Proofs.YtijjhobjmehhoaaGreatDoor.Sq Go.Proofs.YtijjhobjmehhoaaGreatDoorW.PrintWords Go.Proofs.YtijjhobjmehhoaaGreatDoorW.PrintLast Go.Proofs.YtijjhobjmehhoaaGreatDoorW.PrintMore
attribute [local go_sem] max2_int min2_int max_two min_two max_three min_three max_four min_four   -- for this text's walks alone
set_option linter.unusedVariables false
set_option linter.unusedSimpArgs false

/-! ### dom_Dom_75_at_prop_Fits_1: function 75 -/
def dom_Dom_75_at_prop_Fits_1.l0 : Nat → List (S58) → Int → Int → Option (Int)
 | 0, _, _, _ => none
 | k + 1, b, d, a => if a < d then (if 0 ≤ a then (if a < (b.length : Int) then ((prop_Fits_1.f ((rd_T58 b a).f0) ((rd_T58 b a).f1) ((rd_T58 b a).f2) ((rd_T58 b a).f3) ((rd_T58 b a).f4)).bind fun c => (if c = true then (some a) else (dom_Dom_75_at_prop_Fits_1.l0 k b d (wrap64 (a + 1))))) else (none)) else (none)) else (some (-1))
def dom_Dom_75_at_prop_Fits_1.f (k : Nat) (a : List (S58))  : Option (Int) := dom_Dom_75_at_prop_Fits_1.l0 k a (a.length : Int) 0
theorem dom_Dom_75_at_prop_Fits_1.mono_l : ∀ k, (∀ a b c, LeO (dom_Dom_75_at_prop_Fits_1.l0 k a b c) (dom_Dom_75_at_prop_Fits_1.l0 (k + 1) a b c))
 | 0 => by intros; exact LeO.none _
 | k + 1 => by
  have ih0 := dom_Dom_75_at_prop_Fits_1.mono_l k
  intro a b c
  unfold dom_Dom_75_at_prop_Fits_1.l0
  exact leo_
theorem dom_Dom_75_at_prop_Fits_1.mono : ∀ a k, LeO (dom_Dom_75_at_prop_Fits_1.f k a) (dom_Dom_75_at_prop_Fits_1.f (k + 1) a) := by
 intro a k
 have ih0 := dom_Dom_75_at_prop_Fits_1.mono_l k
 unfold dom_Dom_75_at_prop_Fits_1.f
 exact leo_
set_option maxHeartbeats 8000000 in
set_option maxRecDepth 100000 in
theorem dom_Dom_75_at_prop_Fits_1.calls (k : Nat) (E : Option Addr) (c0 : Nat) (m : List (S58))  (r : Int) (w : World) (x : Kd.C k58 w E m.length m) (y : m.length ≤ c0) (h : dom_Dom_75_at_prop_Fits_1.f k m = some r) :
  Calls Tryz.prog 75 #[.slice E m.length c0, .func (.func 56) #[] #[]] w fun e w' => e = .returned (.int .i64 r) ∧ Below w.heap.size w w' := by
 have hu58 := Tryz.underlying58
 have z := a_ x
 have I := a_ y
 clear x y
 have HB := a_ (Below.refl w.heap.size w)
 unfold dom_Dom_75_at_prop_Fits_1.f at h
 have H := h
 clear h
 have H' := a_ H
 clear H
 go_enter Tryz.func75, Tryz.ntmps75
 go_wp2
 go_loopg [8] k (fun kq G w' => ∃ (a : Int), G = .int .i64 a ∧ Aside0 (dom_Dom_75_at_prop_Fits_1.l0 kq m (m.length : Int) a = some r) ∧ Aside0 (kq ≤ k) ∧ Aside0 (Below w.heap.size w w'))
 case atStart => exact ⟨(0), eq_, H', ⟨lr_ _⟩, ⟨bel_⟩⟩
 clear H'
 try clear p2
 obtain ⟨a, rfl, HA, A, HB⟩ := hrel
 cases gk with
 | zero => exact absurd HA.out (by simp [dom_Dom_75_at_prop_Fits_1.l0])
 | succ k1 =>
  have H := HA.out
  clear HA
  simp only [dom_Dom_75_at_prop_Fits_1.l0] at H
  replace H := cf_ H
  rcases H with ⟨c3b0, H⟩ | ⟨c3b0, H⟩
  ·
   obtain rfl := si_ H
   go_wp2
   go_ret
   exact ⟨er_, bel_⟩
  replace H := gu_ H
  obtain ⟨c4b0, H⟩ := H
  replace H := gu_ H
  obtain ⟨c5b0, H⟩ := H
  replace H := bo_ H
  obtain ⟨B, F, H⟩ := H
  try dsimp only at H
  replace H := ht_ H
  rcases H with ⟨rfl, H⟩ | ⟨rfl, H⟩
  ·
   obtain rfl := si_ H
   have p177 : 0 ≤ (a : Int) := dq_
   have p : a < (m.length : Int) := dq_
   obtain ⟨v, u, c177_1, t, b, c, d, g, l, n, o⟩ := at_T58 z.out a p177 p
   cases t
   replace b := hx_ HB b
   replace c := hx_ HB c
   replace d := hx_ HB d
   replace g := hx_ HB g
   replace l := hx_ HB l
   have q := a_ o
   have s := a_ n
   clear o n
   replace p177 := et_ p177
   replace p := et_ p
   go_wp2_with (first | (go_at_call 56; (with_reducible refine (prop_Fits_1.calls ((rd_T58 m a).f0) _ _ ((rd_T58 m a).f1) ((rd_T58 m a).f2) ((rd_T58 m a).f3) ((rd_T58 m a).f4) true _ ?_ ?_ F.out).mono ?_); exact ca_ ((cb_ q.out HB.out)); exact s.out; rintro e w8 ⟨rfl, hb⟩; replace HB := hq_ hb; clear hb))
   go_ret
   exact ⟨er_, bel_⟩
  have H' := a_ H
  clear H
  have p177 : 0 ≤ (a : Int) := dq_
  have p : a < (m.length : Int) := dq_
  obtain ⟨v, u, c177_1, t, b, c, d, g, l, n, o⟩ := at_T58 z.out a p177 p
  cases t
  replace b := hx_ HB b
  replace c := hx_ HB c
  replace d := hx_ HB d
  replace g := hx_ HB g
  replace l := hx_ HB l
  have q := a_ o
  have s := a_ n
  clear o n
  replace p177 := et_ p177
  replace p := et_ p
  go_wp2_with (first | (go_at_call 56; (with_reducible refine (prop_Fits_1.calls ((rd_T58 m a).f0) _ _ ((rd_T58 m a).f1) ((rd_T58 m a).f2) ((rd_T58 m a).f3) ((rd_T58 m a).f4) false _ ?_ ?_ F.out).mono ?_); exact ca_ ((cb_ q.out HB.out)); exact s.out; rintro e w9 ⟨rfl, hb⟩; replace HB := hq_ hb; clear hb))
  go_roundg k1
  case measure => have := A.out; omega
  exact ⟨(wrap64 (a + 1)), eq_, H', ⟨by have := A.out; omega⟩, ⟨bel_⟩⟩

/-! ### dom_Dom_55_at_prop_Fits_1: function 55 -/
def dom_Dom_55_at_prop_Fits_1.f (k : Nat) (b : List (S58))  : Option (Bool) := (dom_Dom_75_at_prop_Fits_1.f k b).bind fun a => (some (decide (a ≥ 0)))
theorem dom_Dom_55_at_prop_Fits_1.mono : ∀ a k, LeO (dom_Dom_55_at_prop_Fits_1.f k a) (dom_Dom_55_at_prop_Fits_1.f (k + 1) a) := by
 intro a k
 unfold dom_Dom_55_at_prop_Fits_1.f
 have m0 := @dom_Dom_75_at_prop_Fits_1.mono
 exact leo_
set_option maxHeartbeats 8000000 in
set_option maxRecDepth 100000 in
theorem dom_Dom_55_at_prop_Fits_1.calls (k : Nat) (d : Option Addr) (c0 : Nat) (a : List (S58))  (r : Bool) (w : World) (b : Kd.C k58 w d a.length a) (c : a.length ≤ c0) (h : dom_Dom_55_at_prop_Fits_1.f k a = some r) :
  Calls Tryz.prog 55 #[.slice d a.length c0, .func (.func 56) #[] #[]] w fun e w' => e = .returned (.bool r) ∧ Below w.heap.size w w' := by
 have l := a_ b
 have m := a_ c
 clear b c
 have HB := a_ (Below.refl w.heap.size w)
 unfold dom_Dom_55_at_prop_Fits_1.f at h
 have H := h
 clear h
 replace H := bo_ H
 obtain ⟨g, n, H⟩ := H
 try dsimp only at H
 obtain rfl := si_ H
 go_enter Tryz.func55, Tryz.ntmps55
 go_wp2_with (first | ((with_reducible refine gate_callee (f := 75) rfl ?_); refine goesL_ (some 7) rfl rfl Tryz.func75 kr_ rfl #[.slice d a.length c0, .func (.func 56) #[] #[]] rfl ar_ ?_; (with_reducible refine (dom_Dom_75_at_prop_Fits_1.calls k _ _ a g _ ?_ ?_ n.out).mono ?_); exact ca_ (l.out); exact m.out; rintro e w4 ⟨rfl, hb⟩; refine ⟨_, rfl, ?_⟩; replace HB := hq_ hb; clear hb))
 go_ret
 exact ⟨er_, bel_⟩

/-! ### prop_Fits: function 27 -/
def prop_Fits.f (k : Nat) (a : Int) (b : List Int) (c : List Int) (d : List Int) (e : List Int) (g : List Int) (l : Int) (m : List (List Int)) (p : List (S58)) (q : Int) (r : Int) : Option (Bool) := (dom_Dom_55_at_prop_Fits_1.f k p).bind fun n => (if a ≥ q then (if a ≤ r then ((model_Right.f k a b c d e g l m 256).bind fun o => (if o = 0 then (if (p.length : Int) = (wrap64 ((b.length : Int) + (c.length : Int))) then (some (!n)) else (none)) else (none))) else (none)) else (none))
theorem prop_Fits.mono : ∀ b c d e g l m n o p a k, LeO (prop_Fits.f k b c d e g l m n o p a) (prop_Fits.f (k + 1) b c d e g l m n o p a) := by
 intro b c d e g l m n o p a k
 unfold prop_Fits.f
 have m0 := @dom_Dom_55_at_prop_Fits_1.mono
 have m1 := @model_Right.mono
 exact leo_
set_option maxHeartbeats 8000000 in
set_option maxRecDepth 100000 in
theorem prop_Fits.calls (k : Nat) (c : Int) (s : Option Addr) (c0_1 : Nat) (a : List Int) (u : Option Addr) (c0_2 : Nat) (b : List Int) (v : Option Addr) (c0_3 : Nat) (g : List Int) (x : Option Addr) (c0_4 : Nat) (l : List Int) (y : Option Addr) (c0_5 : Nat) (m : List Int) (p : Int) (z : Option Addr) (c0_7 : Nat) (n : List (List Int)) (A1 : Option Addr) (c1 : Nat) (o : List (S58)) (U : Int) (V : Int) (r : Bool) (w : World) (A : Kd.C (Kd.int .i64) w s a.length a) (B : a.length ≤ c0_1) (E : Kd.C (Kd.int .i64) w u b.length b) (F : b.length ≤ c0_2) (G : Kd.C (Kd.int .i64) w v g.length g) (I : g.length ≤ c0_3) (J : Kd.C (Kd.int .i64) w x l.length l) (K : l.length ≤ c0_4) (M : Kd.C (Kd.int .i64) w y m.length m) (O : m.length ≤ c0_5) (P : Kd.C (Kd.slice 3 (Kd.int .i64)) w z n.length n) (Q : n.length ≤ c0_7) (ak : Kd.C k58 w A1 o.length o) (al : o.length ≤ c1) (h : prop_Fits.f k c a b g l m p n o U V = some r) :
  Calls Tryz.prog 27 #[.agg #[.int .i64 c, .slice s a.length c0_1, .slice u b.length c0_2, .slice v g.length c0_3, .slice x l.length c0_4, .slice y m.length c0_5, .int .i64 p, .slice z n.length c0_7], .slice A1 o.length c1, .int .i64 U, .int .i64 V] w fun e w' => e = .returned (.bool r) ∧ Below w.heap.size w w' := by
 have hu32 := Tryz.underlying32
 have W := a_ A
 have X := a_ B
 clear A B
 have Y := a_ E
 have Z := a_ F
 clear E F
 have aa := a_ G
 have ab := a_ I
 clear G I
 have ac := a_ J
 have ad := a_ K
 clear J K
 have ae := a_ M
 have af := a_ O
 clear M O
 have ag := a_ P
 have ah := a_ Q
 clear P Q
 have ao := a_ ak
 have ap := a_ al
 clear ak al
 have HB := a_ (Below.refl w.heap.size w)
 unfold prop_Fits.f at h
 have H := h
 clear h
 replace H := bo_ H
 obtain ⟨an, A5, H⟩ := H
 try dsimp only at H
 replace H := gp_ H
 obtain ⟨c6, H⟩ := H
 have c6b0 : decide (U ≤ c) = true := dt_ c6
 clear c6
 replace H := gu_ H
 obtain ⟨c7b0, H⟩ := H
 replace H := bo_ H
 obtain ⟨q, A8, H⟩ := H
 try dsimp only at H
 replace H := gq_ H
 obtain ⟨c9b0, c9b1, H⟩ := H
 replace H := gq_ H
 obtain ⟨c10b0, c10b1, H⟩ := H
 obtain rfl := si_ H
 go_enter Tryz.func27, Tryz.ntmps27
 go_wp2_with (first | ((with_reducible refine gate_dst (N := 4) rfl ?_); (try (refine gate_guard (by rfl) ?_; dsimp only)); refine bxe_ (N := 4) (cs := #[.int .i64 c, .slice s a.length c0_1, .slice u b.length c0_2, .slice v g.length c0_3, .slice x l.length c0_4, .slice y m.length c0_5, .int .i64 p, .slice z n.length c0_7]) (t := 32) ?_; intro ai hg w11 hbox hb; have d := a_ (hbox); have aj := a_ (by rw [hg]; exact (bz_ bel_) : w.heap.size ≤ ai); have aq := aj; replace HB := hq_ hb; clear hb hbox hg) | ((with_reducible refine gate_callee (f := 55) rfl ?_); refine goesL_ (some 11) rfl rfl Tryz.func55 kr_ rfl #[.slice A1 o.length c1, .func (.func 56) #[] #[]] rfl ar_ ?_; (with_reducible refine (dom_Dom_55_at_prop_Fits_1.calls k _ _ o an _ ?_ ?_ A5.out).mono ?_); exact ca_ ((cb_ ao.out HB.out)); exact ap.out; rintro e w12 ⟨rfl, hb⟩; refine ⟨_, rfl, ?_⟩; replace d := a_ (bq_ d.out hb); replace HB := hq_ hb; clear hb; obtain ⟨_, _, _, _, _, _, _, _, _, _, _, _, _, _, _, _⟩ := cel8_ d.out) | (go_at_call 57; (with_reducible refine (model_Right.calls k c _ _ a _ _ b _ _ g _ _ l _ _ m p _ _ n 256 q _ ?_ ?_ ?_ ?_ ?_ ?_ ?_ ?_ ?_ ?_ ?_ ?_ A8.out).mono ?_); exact ca_ ((cb_ W.out HB.out)); exact X.out; exact ca_ ((cb_ Y.out HB.out)); exact Z.out; exact ca_ ((cb_ aa.out HB.out)); exact ab.out; exact ca_ ((cb_ ac.out HB.out)); exact ad.out; exact ca_ ((cb_ ae.out HB.out)); exact af.out; exact ca_ ((cb_ ag.out HB.out)); exact ah.out; rintro e w14 ⟨rfl, hb⟩; replace d := a_ (bq_ d.out hb); replace HB := hq_ hb; clear hb; obtain ⟨_, _, _, _, _, _, _, _, _, _, _, _, _, _, _, _⟩ := cel8_ d.out))
 go_ret
 exact ⟨er_, bel_⟩

/-! ### slices_CloneDom: function 28 -/
def slices_CloneDom.f (a : List S58) : Option (List S58) := if a.length < 1000000000000 then some a else none
theorem infoDom : (Tryz.prog.info? 58).map (fun i => (i.zero, i.size, i.bytes)) = some (some (.agg #[.int .i64 0, .slice none 0 0, .int .i64 0, .int .i64 0, .int .i64 0]), 5, 56) := by kernel_rfl
theorem slices_CloneDom.calls (P0_ : Nat → Prop) (o : Option Addr) (c0 : Nat) (g : List S58) (r : List S58) (w : World) (l : Kd.V k58 58 w w.heap.size (fun d => P0_ d) (.slice o g.length c0) g) (h : slices_CloneDom.f g = some r) :
  Calls Tryz.prog 28 #[.slice o g.length c0] w fun e w' => ∃ m : Value, e = .returned (m) ∧ Kd.N k58 58 w' w.heap.size (fun d => (P0_ d ∨ w.heap.size ≤ d)) m r ∧ Below w.heap.size w w' := by
 unfold slices_CloneDom.f at h
 by_cases hb : g.length < 1000000000000
 rotate_left
 · rw [if_neg hb] at h; cases h
 rw [if_pos hb] at h
 obtain rfl := Option.some.inj h
 clear h
 rcases o with _ | ad
 ·
  have h0 : g = [] := by
   rcases Nat.eq_zero_or_pos g.length with h0 | h0
   · exact List.eq_nil_of_length_eq_zero h0
   obtain ⟨ad, e, _⟩ := (Kd.F_now (Kd.V_F l)).2.2 h0; cases e
  subst h0
  have qT : ∀ (w : World) (a : Option Addr) (n c n' c' : Nat), (binOp .eql 36 (.slice a n c) (.slice none n' c')).run Tryz.prog w = .ok (.bool a.isNone) w := fun w a n c n' c' => Lib.run_eql_slice_nil w _ _ a n c n' c' Tryz.underlying36
  clear l hb
  go_enter Tryz.func28, Tryz.ntmps28
  go_wp2
  go_ret
  exact ⟨_, rfl, Kd.N_nil _ _ _ _ _, Below.refl _ _⟩
 have qT : ∀ (w : World) (a : Option Addr) (n c n' c' : Nat), (binOp .eql 36 (.slice a n c) (.slice none n' c')).run Tryz.prog w = .ok (.bool a.isNone) w := fun w a n c n' c' => Lib.run_eql_slice_nil w _ _ a n c n' c' Tryz.underlying36
 have HR := Aside0.mk l
 have HL := Aside0.mk hb
 clear l hb
 go_enter Tryz.func28, Tryz.ntmps28
 go_wp2_with (first | ((with_reducible refine gate_dst (N := 5) rfl ?_); refine Kd.R_lit k58 _ 58 ?hg (N := 5) ?hd (xs := ([] : List S58)) (inner := []) (ok := fun d => w.heap.size ≤ d) (okp := fun _ => False) ?hr ?hp (fun _ hk => hk.elim) (Nat.le_refl _) (Below.refl _ _) (Nat.le_refl _) (by simp) ?_; (case hd => rfl); (case hg => rfl); (case hr => first | (go_simp; done) | (go_simp; rfl)); (case hp => exact Reps.none _ _); intro p w1 hR hB hG hat; have HO := Aside0.mk (Kd.N_mono (Kd.R_N hR) (ok' := fun d => (P0_ d ∧ d < w.heap.size) ∨ w.heap.size ≤ d) (fun k hk => Or.inr hk)); have HB := Aside0.mk hB; have HV := Aside0.mk (fun k (hk : some k = p.ownBlock) => hR.1 k hk.symm); clear hR hB hG hat) | ((with_reducible refine gate_builtin (b := .append) (xs := #[.tmp 5, .tmp 6]) rfl ?_); at_builtin; refine Kd.N_append_rows k58 (w0 := w) w.heap.size rfl (.tmp 5) (.tmp 6) 36 58 (.agg #[.int .i64 0, .slice none 0 0, .int .i64 0, .int .i64 0, .int .i64 0]) 56 rfl Tryz.underlying36 infoDom rfl (by decide) (by decide) p [] g (some ad) g.length c0 (fun d => (P0_ d ∧ d < w.heap.size) ∨ w.heap.size ≤ d) (fun d => P0_ d ∧ d < w.heap.size) rfl rfl HO.out (Kd.V_F (Kd.V_below (Kd.V_bound HR.out) HB.out)) (fun k hk => ⟨Or.inl hk, fun he => Nat.lt_irrefl _ (Nat.lt_of_lt_of_le hk.2 (HV.out k he))⟩) (fun k hk => Or.inr (Nat.le_trans HB.out.size hk)) HB.out HB.out.size (by have := HL.out; simp only [List.length_nil]; omega) ?_; intro s w2 hR hB hG hat; have q := Aside0.mk hR; have HB2 := Aside0.mk hB; clear hR hB hG hat))
 go_ret
 exact ⟨_, rfl, Kd.N_mono q.out (fun k hk => hk.elim (fun h => Or.inl h.1) Or.inr), HB2.out⟩

/-! ### dom_in: function 49 -/
def dom_in.f (a : Int) : Option (Bool) := if a ≥ (-1000000) then (some (decide (a ≤ 1000000))) else (some false)
set_option maxHeartbeats 8000000 in
set_option maxRecDepth 100000 in
theorem dom_in.calls (a : Int) (r : Bool) (w : World) (h : dom_in.f a = some r) :
  Calls Tryz.prog 49 #[.int .i64 a] w fun e w' => e = .returned (.bool r) ∧ Drawn0 w w' := by
 unfold dom_in.f at h
 have H := h
 clear h
 by_cases c2 : a ≥ (-1000000)
 ·
  rw [ip_ c2] at H
  have c2b0 : decide ((-1000000) ≤ a) = true := dt_ c2
  clear c2
  obtain rfl := si_ H
  go_enter Tryz.func49, Tryz.ntmps49
  go_wp2
  go_ret
  exact ⟨by first | rfl | (simp; done) | (simp [*]; done), by repeat (first | exact d0_ _ | apply Drawn0.step)⟩
 rw [ig_ c2] at H
 have c2b0 : decide ((-1000000) ≤ a) = false := df_ c2
 clear c2
 obtain rfl := si_ H
 go_enter Tryz.func49, Tryz.ntmps49
 go_wp2
 go_ret
 exact ⟨by first | rfl | (simp; done) | (simp [*]; done), by repeat (first | exact d0_ _ | apply Drawn0.step)⟩

/-! ### dom_Dom_word: function 50 -/
def dom_Dom_word.f (a : Int) (b : List Int) (d : Int) (e : Int) (g : Int) (c : Int) : Option (Int) := if c < a then (some 0) else (if (wrap64 (Int.tdiv (wrap64 (c - a)) 64)) ≥ (b.length : Int) then (some 0) else (if 0 ≤ (wrap64 (Int.tdiv (wrap64 (c - a)) 64)) then (if (wrap64 (Int.tdiv (wrap64 (c - a)) 64)) < (b.length : Int) then (some (rd b (wrap64 (Int.tdiv (wrap64 (c - a)) 64)))) else (none)) else (none)))
set_option maxHeartbeats 8000000 in
set_option maxRecDepth 100000 in
theorem dom_Dom_word.calls (b : Int) (n : Option Addr) (c0_1 : Nat) (a : List Int) (o : Int) (p : Int) (q : Int) (u : Int) (r : Int) (w : World) (x : Kd.C (Kd.int .u64) w n a.length a) (y : a.length ≤ c0_1) (h : dom_Dom_word.f b a o p q u = some r) :
  Calls Tryz.prog 50 #[.agg #[.int .i64 b, .slice n a.length c0_1, .int .i64 o, .int .i64 p, .int .i64 q], .int .i64 u] w fun e w' => e = .returned (.int .u64 r) ∧ Below w.heap.size w w' := by
 have hu58 := Tryz.underlying58
 have A := a_ x
 have E := a_ y
 clear x y
 have HB := a_ (Below.refl w.heap.size w)
 unfold dom_Dom_word.f at h
 have H := h
 clear h
 replace H := ct_ H
 rcases H with ⟨c3b0, H⟩ | ⟨c3b0, H⟩
 ·
  obtain rfl := si_ H
  go_enter Tryz.func50, Tryz.ntmps50
  go_wp2_with (first | ((with_reducible refine gate_dst (N := 2) rfl ?_); (try (refine gate_guard (by rfl) ?_; dsimp only)); refine bxe_ (N := 2) (cs := #[.int .i64 b, .slice n a.length c0_1, .int .i64 o, .int .i64 p, .int .i64 q]) (t := 58) ?_; intro d hg w4 hbox hb; have g := a_ (hbox); have l := a_ (by rw [hg]; exact (bz_ bel_) : w.heap.size ≤ d); have z := l; replace HB := hq_ hb; clear hb hbox hg; obtain ⟨_, _, _, _, _, _, _, _, _, _⟩ := cel5_ g.out))
  go_ret
  exact ⟨er_, bel_⟩
 by_cases c6 : (wrap64 (Int.tdiv (wrap64 (u - b)) 64)) ≥ (a.length : Int)
 ·
  rw [ip_ c6] at H
  have c6b0 : decide ((a.length : Int) ≤ (wrap64 (Int.tdiv (wrap64 (u - b)) 64))) = true := dt_ c6
  clear c6
  obtain rfl := si_ H
  go_enter Tryz.func50, Tryz.ntmps50
  go_wp2_with (first | ((with_reducible refine gate_dst (N := 2) rfl ?_); (try (refine gate_guard (by rfl) ?_; dsimp only)); refine bxe_ (N := 2) (cs := #[.int .i64 b, .slice n a.length c0_1, .int .i64 o, .int .i64 p, .int .i64 q]) (t := 58) ?_; intro d hg w7 hbox hb; have g := a_ (hbox); have l := a_ (by rw [hg]; exact (bz_ bel_) : w.heap.size ≤ d); have z := l; replace HB := hq_ hb; clear hb hbox hg; obtain ⟨_, _, _, _, _, _, _, _, _, _⟩ := cel5_ g.out))
  go_ret
  exact ⟨er_, bel_⟩
 rw [ig_ c6] at H
 have c6b0 : decide ((a.length : Int) ≤ (wrap64 (Int.tdiv (wrap64 (u - b)) 64))) = false := df_ c6
 clear c6
 obtain ⟨c, s⟩ : ∃ j_ : Int, (wrap64 (Int.tdiv (wrap64 (u - b)) 64)) = j_ := ⟨_, rfl⟩
 replace H : (if 0 ≤ (c) then (if (c) < (a.length : Int) then (some (rd a (c))) else (none)) else (none)) = some r := by first | (rw [s] at H; exact H) | (simp only [s] at H ⊢; exact H)
 (try rw [s] at c6b0)
 have hji9w : (IntKind.i64.wrap (Int.tdiv (wrap64 (u - b)) 64)) = c := (i64_w _).trans s
 replace H := gu_ H
 obtain ⟨c10b0, H⟩ := H
 replace H := gu_ H
 obtain ⟨c11b0, H⟩ := H
 obtain rfl := si_ H
 go_enter Tryz.func50, Tryz.ntmps50
 go_wp2_with (first | ((with_reducible refine gate_dst (N := 2) rfl ?_); (try (refine gate_guard (by rfl) ?_; dsimp only)); refine bxe_ (N := 2) (cs := #[.int .i64 b, .slice n a.length c0_1, .int .i64 o, .int .i64 p, .int .i64 q]) (t := 58) ?_; intro d hg w12 hbox hb; have g := a_ (hbox); have l := a_ (by rw [hg]; exact (bz_ bel_) : w.heap.size ≤ d); have z := l; replace HB := hq_ hb; clear hb hbox hg; obtain ⟨_, _, _, _, _, _, _, _, _, _⟩ := cel5_ g.out; have p184 : 0 ≤ ((c) : Int) := dq_; have v : (c) < (a.length : Int) := dq_; obtain ⟨F, B, m⟩ := ai_ A.out (c) p184 v; cases B; replace m := hx_ HB m; replace p184 := et_ p184; replace v := et_ v))
 go_ret
 exact ⟨by first | rfl | (simp [errW_none, errW_some] <;> rfl) | (simp only [← s]; first | rfl | (simp [errW_none, errW_some] <;> rfl)) | (simp [*, errW_none, errW_some] <;> rfl), bel_⟩

/-! ### dom_place: function 51 -/
def dom_place.f (a : Int) : Option (Int) := some (Go.bits .andNot .i64 a 63)
set_option maxHeartbeats 8000000 in
set_option maxRecDepth 100000 in
theorem dom_place.calls (a : Int) (r : Int) (w : World) (h : dom_place.f a = some r) :
  Calls Tryz.prog 51 #[.int .i64 a] w fun e w' => e = .returned (.int .i64 r) ∧ Drawn0 w w' := by
 unfold dom_place.f at h
 have H := h
 clear h
 obtain rfl := si_ H
 go_enter Tryz.func51, Tryz.ntmps51
 go_wp2
 go_ret
 exact ⟨by first | rfl | (simp; done) | (simp [*]; done), by repeat (first | exact d0_ _ | apply Drawn0.step)⟩

/-! ### dom_Dom_Has: function 22 -/
def dom_Dom_Has.f (c : Int) (d : List Int) (e : Int) (g : Int) (l : Int) (a : Int) : Option (Bool) := (dom_in.f a).bind fun m => (if m = true then ((dom_place.f a).bind fun n => ((dom_Dom_word.f c d e g l n).bind fun o => ((dom_place.f a).bind fun b => (if 0 ≤ (wrap64 (a - b)) then (some ((Go.bits .and .u64 (shr .u64 o (wrap64 (a - b))) 1) == 1)) else (none))))) else (some false))
def dom_Dom_Has.T1 : Bool × List (List Nat × List Nat) := (true, [([], []), ([0], [0]), ([1, 1], [1]), ([2], [2]), ([2], [2]), ([4, 2, 2], [2, 4]), ([3, 5, 5, 2], [2, 3, 5]), ([2], [2]), ([2], [2]), ([8, 6, 2], [2, 8]), ([7, 9, 2], [2, 7, 9]), ([6, 10, 2], [2, 6, 10]), ([11, 2], [2, 11]), ([12, 2], [2, 12]), ([2, 13], [2, 13]), ([14, 9, 0, 1, 2, 3, 4, 5, 6, 7, 8, 9, 10, 11, 12, 13, 14], [14])])
def dom_Dom_Has.B1 : List Nat := [0, 1, 3, 7, 7, 23, 63, 7, 7, 383, 1023, 2047, 4095, 8191, 16383, 32767]
theorem dom_Dom_Has.tab1 : rtab .any (opsOf Tryz.f22 1) = dom_Dom_Has.T1 := by kernel_rfl
theorem dom_Dom_Has.bits1 : waitsOk dom_Dom_Has.T1.2 dom_Dom_Has.B1 = true := by kernel_rfl
set_option maxHeartbeats 8000000 in
set_option maxRecDepth 100000 in
theorem dom_Dom_Has.calls (l : Int) (s : Option Addr) (c0_1 : Nat) (d : List Int) (m : Int) (o : Int) (p : Int) (u : Int) (r : Bool) (w : World) (B : Kd.C (Kd.int .u64) w s d.length d) (E : d.length ≤ c0_1) (h : dom_Dom_Has.f l d m o p u = some r) :
  Calls Tryz.prog 22 #[.agg #[.int .i64 l, .slice s d.length c0_1, .int .i64 m, .int .i64 o, .int .i64 p], .int .i64 u] w fun e w' => e = .returned (.bool r) ∧ Below w.heap.size w w' := by
 have hu58 := Tryz.underlying58
 have F := a_ B
 have G := a_ E
 clear B E
 have HB := a_ (Below.refl w.heap.size w)
 unfold dom_Dom_Has.f at h
 have H := h
 clear h
 replace H := bo_ H
 obtain ⟨M, I, H⟩ := H
 try dsimp only at H
 replace H := hf_ H
 rcases H with ⟨rfl, H⟩ | ⟨rfl, H⟩
 ·
  obtain rfl := si_ H
  go_enter Tryz.func22, Tryz.ntmps22
  try go_wp2_with (first | ((with_reducible refine gate_dst (N := 2) rfl ?_); refine bxe_ (N := 2) (cs := #[.int .i64 l, .slice s d.length c0_1, .int .i64 m, .int .i64 o, .int .i64 p]) (t := 58) ?_; intro c hg w14 hbox hb; have x := a_ (by rw [hg]; exact (bz_ bel_) : w.heap.size ≤ c); have J := x; replace HB := hq_ hb; clear hb hbox hg))
  replace HB := a_ (below_drew1 HB.out)
  refine start_ (n := 16) (S := fun w' => True) (ds := []) #[false, false, false, false, false, false, false, false, false, false, false, false, false, false, false, false] kr_ rfl rfl trivial (fun hHeld => ?_); refine with_tabW dom_Dom_Has.tab1 dom_Dom_Has.bits1 (fun HT_ HW_ => ?_)
  generalize w14.drew = w15 at HB hHeld ⊢
  refine pn_ 0 5 ao_ ?_
  refine onn_ 1 6 #[true, true, false, false, false, false, false, false, false, false, false, false, false, false, false, false] rfl rfl on_ (by decide) (fun K hK => ?_)
  refine goes_ Tryz.func49 kr_ rfl #[.int .i64 u] (by rfl) rfl rfl ar_ ?_
  with_reducible refine (dom_in.calls u false _ I.out).mono ?_
  rintro e w' ⟨rfl, ⟨nd, rfl⟩⟩
  refine ⟨_, rfl, ?_⟩
  refine hK.out _ _ trivial (fun hHeld => ?_)
  clear hK K
  refine nor_ (N := some 6) ?_
  refine pn_ 2 7 ao_ ?_
  refine und_ (i := 3) (N := some 8) ao_ ?_
  refine und_ (i := 4) (N := some 9) ao_ ?_
  refine und_ (i := 5) (N := some 10) ao_ ?_
  refine und_ (i := 6) (N := some 11) ao_ ?_
  refine und_ (i := 7) (N := some 12) ao_ ?_
  refine und_ (i := 8) (N := some 13) ao_ ?_
  refine und_ (i := 9) (N := some 14) ao_ ?_
  refine und_ (i := 10) (N := some 15) ao_ ?_
  refine und_ (i := 11) (N := some 16) ao_ ?_
  refine und_ (i := 12) (N := some 17) ao_ ?_
  refine und_ (i := 13) (N := some 18) ao_ ?_
  refine pn_ 14 19 ao_ ?_
  refine pn_ 15 4 ao_ ?_
  refine done_ dn_ ?_
  try go_wp2
  go_ret
  exact ⟨er_, bel_⟩
 replace H := bo_ H
 obtain ⟨y, O, H⟩ := H
 try dsimp only at H
 replace H := bo_ H
 obtain ⟨v, P, H⟩ := H
 try dsimp only at H
 replace H := bo_ H
 obtain ⟨z, Q, H⟩ := H
 try dsimp only at H
 obtain ⟨q, g⟩ : ∃ j_ : Int, (wrap64 (u - z)) = j_ := ⟨_, rfl⟩
 replace H : (if 0 ≤ (q) then (some ((Go.bits .and .u64 (shr .u64 v (q)) 1) == 1)) else (none)) = some r := by first | (rw [g] at H; exact H) | (simp only [g] at H ⊢; exact H)
 (try rw [g] at I)
 (try rw [g] at O)
 (try rw [g] at P)
 (try rw [g] at Q)
 have hji8w : (IntKind.i64.wrap (u - z)) = q := (i64_w _).trans g
 replace H := ge_ H
 obtain ⟨c9b0, c9b1, H⟩ := H
 obtain ⟨A, b⟩ : ∃ j_ : Int, (shr .u64 v (q)) = j_ := ⟨_, rfl⟩
 replace H : (some ((Go.bits .and .u64 (A) 1) == 1)) = some r := by first | (rw [b] at H; exact H) | (simp only [b] at H ⊢; exact H)
 (try rw [b] at I)
 (try rw [b] at O)
 (try rw [b] at P)
 (try rw [b] at Q)
 have U : (v / 2 ^ min (q).toNat 64) = A := b
 have hji10z : (q) ≤ 64 → (v / 2 ^ (q).toNat) = A := shr_small b
 obtain rfl := si_ H
 go_enter Tryz.func22, Tryz.ntmps22
 try go_wp2_with (first | ((with_reducible refine gate_dst (N := 2) rfl ?_); refine bxe_ (N := 2) (cs := #[.int .i64 l, .slice s d.length c0_1, .int .i64 m, .int .i64 o, .int .i64 p]) (t := 58) ?_; intro c hg w11 hbox hb; have a := a_ (hbox); have x := a_ (by rw [hg]; exact (bz_ bel_) : w.heap.size ≤ c); have J := x; replace HB := hq_ hb; clear hb hbox hg))
 replace a := a_ (blk_drew a.out)
 replace HB := a_ (below_drew1 HB.out)
 refine start_ (n := 16) (S := fun w' => w'.cell? ⟨c, 0, none⟩ = some (.int .i64 l) ∧ w'.cell? ⟨c, 1, none⟩ = some (.slice s d.length c0_1) ∧ w'.cell? ⟨c, 2, none⟩ = some (.int .i64 m) ∧ w'.cell? ⟨c, 3, none⟩ = some (.int .i64 o) ∧ w'.cell? ⟨c, 4, none⟩ = some (.int .i64 p)) (ds := []) #[false, false, false, false, false, false, false, false, false, false, false, false, false, false, false, false] kr_ rfl rfl (ca5_ a.out) (fun hHeld => ?_); refine with_tabW dom_Dom_Has.tab1 dom_Dom_Has.bits1 (fun HT_ HW_ => ?_)
 generalize w11.drew = w12 at a HB hHeld ⊢
 refine pn_ 0 5 ao_ ?_
 refine onn_ 1 6 #[true, true, false, false, false, false, false, false, false, false, false, false, false, false, false, false] rfl rfl on_ (by decide) (fun K hK => ?_)
 refine goes_ Tryz.func49 kr_ rfl #[.int .i64 u] (by rfl) rfl rfl ar_ ?_
 with_reducible refine (dom_in.calls u true _ I.out).mono ?_
 rintro e w' ⟨rfl, ⟨nd, rfl⟩⟩
 refine ⟨_, rfl, ?_⟩
 refine hK.out _ _ (ca5_ a.out) (fun hHeld => ?_)
 clear hK K
 refine nor_ (N := some 6) ?_
 refine pn_ 2 7 ao_ ?_
 refine pn_ 4 9 ao_ ?_
 refine pn_ 7 12 ao_ ?_
 refine pn_ 8 13 ao_ ?_
 refine tn_ 3 8 tw_ hHeld ?_
 refine onn_ 5 10 #[true, true, true, true, true, true, false, true, true, false, false, false, false, false, false, false] rfl rfl on_ (by decide) (fun K hK => ?_)
 refine goes_ Tryz.func51 kr_ rfl #[.int .i64 u] (by rfl) rfl rfl ar_ ?_
 with_reducible refine (dom_place.calls u y _ O.out).mono ?_
 rintro e w' ⟨rfl, ⟨nd, rfl⟩⟩
 refine ⟨_, rfl, ?_⟩
 refine hK.out _ _ (ca5_ a.out) (fun hHeld => ?_)
 clear hK K
 refine nor_ (N := some 10) ?_
 refine onn_ 6 11 #[true, true, true, true, true, true, true, true, true, false, false, false, false, false, false, false] rfl rfl on_ (by decide) (fun K hK => ?_)
 refine goes_ Tryz.func50 kr_ rfl #[.agg #[.int .i64 l, .slice s d.length c0_1, .int .i64 m, .int .i64 o, .int .i64 p], .int .i64 y] (by rfl) rfl rfl ar_ ?_
 with_reducible refine (dom_Dom_word.calls l _ _ d m o p y v _ ?_ ?_ P.out).mono ?_
 focus repeat (first | exact (cb_ F.out bel_) | (with_reducible refine Kd.C_alloc ?_ _) | (with_reducible refine Kd.C_drewN ?_ _) | (with_reducible refine Kd.C_drew ?_))
 exact G.out
 rintro e w13 ⟨rfl, hb⟩
 refine ⟨_, rfl, ?_⟩
 replace a := a_ (bq_ a.out hb)
 replace HB := hq_ hb
 clear hb
 refine hK.out _ _ (ca5_ a.out) (fun hHeld => ?_)
 clear hK K
 refine nor_ (N := some 11) ?_
 refine onn_ 9 14 #[true, true, true, true, true, true, true, true, true, true, false, false, false, false, false, false] rfl rfl on_ (by decide) (fun K hK => ?_)
 refine goes_ Tryz.func51 kr_ rfl #[.int .i64 u] (by rfl) rfl rfl ar_ ?_
 with_reducible refine (dom_place.calls u z _ Q.out).mono ?_
 rintro e w' ⟨rfl, ⟨nd, rfl⟩⟩
 refine ⟨_, rfl, ?_⟩
 refine hK.out _ _ (ca5_ a.out) (fun hHeld => ?_)
 clear hK K
 refine nor_ (N := some 14) ?_
 refine pn_ 10 15 ao_ ?_
 refine pn_ 11 16 ao_ ?_
 refine pn_ 12 17 ao_ ?_
 refine pn_ 13 18 ao_ ?_
 refine pn_ 14 19 ao_ ?_
 refine pn_ 15 4 ao_ ?_
 refine done_ dn_ ?_
 try go_wp2
 go_ret
 exact ⟨by first | rfl | (simp [errW_none, errW_some] <;> rfl) | (simp only [← g, ← b]; first | rfl | (simp [errW_none, errW_some] <;> rfl)) | (simp [*, errW_none, errW_some] <;> rfl), bel_⟩

end Go.Proofs.YtijjhobjmehhoaaGreatDoor.XGccAll
