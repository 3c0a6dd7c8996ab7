-- by xprint.py, a program of this session, over the kit's print
import Derived.Test.YtijjhobjmehhoaaGreatDoorXGAlx0
import Derived.Test.YtijjhobjmehhoaaGreatDoorXGAlx1
import Derived.Test.YtijjhobjmehhoaaGreatDoorSq
namespace Go.Proofs.YtijjhobjmehhoaaGreatDoor.XGccAll
open Go.RowKit Go.Proofs.YtijjhobjmehhoaaGreatDoor.Sq Go.Proofs.YtijjhobjmehhoaaGreatDoorW.PrintWords Go.Proofs.YtijjhobjmehhoaaGreatDoorW.PrintLast Go.Proofs.YtijjhobjmehhoaaGreatDoorW.PrintMore
attribute [local go_sem] max2_int min2_int max_two min_two max_three min_three max_four min_four   -- for this text's walks alone
set_option linter.unusedVariables false
set_option linter.unusedSimpArgs false

/-! ### model_Vars: function 80 -/
def model_Vars.f (k : Nat) (d : Int) (a : List Int) (b : List Int) (e : List Int) (g : List Int) (l : List Int) (m : Int) (n : List (List Int)) : Option (List Int) := (slices_Concat_int_int.f k (([a, b] : List (List Int)))).bind fun c => (some c)
theorem model_Vars.mono : ∀ a b c d e g l m k, LeO (model_Vars.f k a b c d e g l m) (model_Vars.f (k + 1) a b c d e g l m) := by
 intro a b c d e g l m k
 unfold model_Vars.f
 have m0 := @slices_Concat_int_int.mono
 exact leo_
set_option maxHeartbeats 8000000 in
set_option maxRecDepth 100000 in
theorem model_Vars.calls (k : Nat) (y : Int) (P0_1_ : Nat → Prop) (l : Option Addr) (c0_1 : Nat) (c : List Int) (P0_2_ : Nat → Prop) (m : Option Addr) (c0_2 : Nat) (d : List Int) (z : Option Addr) (c0_3 : Nat) (n : List Int) (A : Option Addr) (c0_4 : Nat) (o : List Int) (B : Option Addr) (c0_5 : Nat) (p : List Int) (E : Int) (F : Option Addr) (c0_7 : Nat) (q : List (List Int)) (r : List Int) (w : World) (W : Kd.V (Kd.int .i64) 3 w w.heap.size (fun a => P0_1_ a) (.slice l c.length c0_1) c) (X : Kd.V (Kd.int .i64) 3 w w.heap.size (fun a => P0_2_ a) (.slice m d.length c0_2) d) (Y : Kd.C (Kd.int .i64) w z n.length n) (J : n.length ≤ c0_3) (Z : Kd.C (Kd.int .i64) w A o.length o) (K : o.length ≤ c0_4) (aa : Kd.C (Kd.int .i64) w B p.length p) (O : p.length ≤ c0_5) (ab : Kd.C (Kd.slice 3 (Kd.int .i64)) w F q.length q) (P : q.length ≤ c0_7) (h : model_Vars.f k y c d n o p E q = some r) :
  Calls Tryz.prog 80 #[.agg #[.int .i64 y, .slice l c.length c0_1, .slice m d.length c0_2, .slice z n.length c0_3, .slice A o.length c0_4, .slice B p.length c0_5, .int .i64 E, .slice F q.length c0_7]] w fun e w' => ∃ ae : Value, e = .returned (ae) ∧ Kd.R (Kd.int .i64) 3 w' w.heap.size (fun a => (w.heap.size ≤ a)) ae r ∧ Below w.heap.size w w' := by
 have hu32 := Tryz.underlying32
 have s := a_ (show Kd.V (Kd.int .i64) 3 w w.heap.size (fun a => ((P0_1_ a ∨ P0_2_ a) ∨ w.heap.size ≤ a)) (.slice l c.length c0_1) c from vm_ W (fun a hk => .inl (.inl hk)))
 have u := a_ (show Kd.V (Kd.int .i64) 3 w w.heap.size (fun a => ((P0_1_ a ∨ P0_2_ a) ∨ w.heap.size ≤ a)) (.slice m d.length c0_2) d from vm_ X (fun a hk => .inl (.inr hk)))
 have aj := a_ J
 clear Y J
 have ak := a_ K
 clear Z K
 have al := a_ O
 clear aa O
 have am := a_ P
 clear ab P
 have HB := a_ (Below.refl w.heap.size w)
 unfold model_Vars.f at h
 have H := h
 clear h
 obtain ⟨G, g⟩ : ∃ y_ : List (List Int), y_ = (([c, d] : List (List Int))) := ⟨_, rfl⟩
 replace H : ((slices_Concat_int_int.f k G).bind fun I => (some I)) = some r := h2_ H g
 have Q := a_ g
 clear g
 replace H := bo_ H
 obtain ⟨I, A2, H⟩ := H
 try dsimp only at H
 obtain rfl := si_ H
 go_enter Tryz.func80, Tryz.ntmps80
 go_wp2_with (first | ((with_reducible refine gate_dst (N := 1) rfl ?_); refine bxe_ (N := 1) (cs := #[.int .i64 y, .slice l c.length c0_1, .slice m d.length c0_2, .slice z n.length c0_3, .slice A o.length c0_4, .slice B p.length c0_5, .int .i64 E, .slice F q.length c0_7]) (t := 32) ?_; intro b hg w3 hbox hb; replace s := a_ (vb_ (Kd.V_elderB (vV_ s.out) b (Nat.le_of_eq hg.symm)) hb); replace u := a_ (vb_ (Kd.V_elderB (vV_ u.out) b (Nat.le_of_eq hg.symm)) hb); have U := a_ (hbox); have ac := a_ (by rw [hg]; exact (bz_ bel_) : w.heap.size ≤ b); have an := ac; replace HB := hq_ hb; clear hb hbox hg; obtain ⟨_, _, _, _, _, _, _, _, _, _, _, _, _, _, _, _⟩ := cel8_ U.out) | ((with_reducible refine gate_dst (N := 7) rfl ?_); refine Kd.N_lit (Kd.slice 3 (Kd.int .i64)) _ 30 ?hg (N' := 7) ?hd (xs := ([c, d] : List (List Int))) (inner := [.slice l c.length c0_1, .slice m d.length c0_2]) (ok := (fun a => ((P0_1_ a ∨ P0_2_ a) ∨ w.heap.size ≤ a) ∧ a ≠ b)) (okp := (fun a => ((P0_1_ a ∨ P0_2_ a) ∨ w.heap.size ≤ a) ∧ a ≠ b)) ?hr ?hp (fun _ hk => hk) ((show ∀ a, w3.heap.size ≤ a → (fun a => ((P0_1_ a ∨ P0_2_ a) ∨ w.heap.size ≤ a) ∧ a ≠ b) a from fun a hk => ⟨(.inr (Nat.le_trans (bz_ bel_) hk)), Kd.freshB (bk_ U.out) a hk⟩) _ (lr_ _)) (Below.refl _ _) (lr_ _) (by simp) ?_; (case hd => rfl); (case hg => rfl); (case hr => first | (go_simp; done) | (go_simp; rfl)); (case hp => exact (Reps.one (show Kd.FK (Kd.slice 3 (Kd.int .i64)) _ _ c [.slice l c.length c0_1] from (Kd.FK_slice_mk (Kd.V_reads' (vm_ (ok' := (fun a => ((P0_1_ a ∨ P0_2_ a) ∨ w.heap.size ≤ a) ∧ a ≠ b)) (s.out) (fun a hk => ⟨hk.1, hk.2⟩))).2.1 (Kd.V_F (vm_ (ok' := (fun a => ((P0_1_ a ∨ P0_2_ a) ∨ w.heap.size ≤ a) ∧ a ≠ b)) (s.out) (fun a hk => ⟨hk.1, hk.2⟩))))) (Reps.one (show Kd.FK (Kd.slice 3 (Kd.int .i64)) _ _ d [.slice m d.length c0_2] from (Kd.FK_slice_mk (Kd.V_reads' (vm_ (ok' := (fun a => ((P0_1_ a ∨ P0_2_ a) ∨ w.heap.size ≤ a) ∧ a ≠ b)) (u.out) (fun a hk => ⟨hk.1, hk.2⟩))).2.1 (Kd.V_F (vm_ (ok' := (fun a => ((P0_1_ a ∨ P0_2_ a) ∨ w.heap.size ≤ a) ∧ a ≠ b)) (u.out) (fun a hk => ⟨hk.1, hk.2⟩))))) (Reps.none _ _)))); intro ap w5 x hb hg_ hnew_; clear hg_ hnew_; (first | rw [← Q.out] at x | (simp only [Int.reduceToNat] at x; rw [← Q.out] at x)); have v := a_ (Kd.N_lower x (bz_ bel_)); replace HB := hq_ hb; clear hb x; obtain ⟨ag, ah, ai⟩ := Kd.N_slice v.out; subst ai) | ((with_reducible refine gate_callee (f := 100) rfl ?_); refine goesL_ (some 8) rfl rfl Tryz.func100 kr_ rfl #[.slice ag G.length ah] rfl ar_ ?_; (with_reducible refine (slices_Concat_int_int.calls k _ _ G I _ ?_ ?_ A2.out).mono ?_); exact ca_ ((Kd.N_reads' v.out).2.2); exact (Kd.N_reads' v.out).2.1; rintro e w8 ⟨aq, rfl, af, hb⟩; refine ⟨_, rfl, ?_⟩; have ad := a_ (Kd.R_lower (Kd.R_newM (M := fun a => (w.heap.size ≤ a)) af (bz_ bel_) (fun a h_ => h_)) (bz_ bel_)); replace HB := hq_ hb; clear hb af))
 go_ret
 exact ⟨_, er_, by refine vR_ ?_; exact rm_ ad.out (fun _ hk => hk.1), bel_⟩

/-! ### model_Right_1: function 81 -/
def model_Right_1.f (b : Int) (a : Int) : Option (Bool) := if b < 0 then (some true) else (some (decide (b ≥ a)))
set_option maxHeartbeats 8000000 in
set_option maxRecDepth 100000 in
theorem model_Right_1.calls (a : Int) (B1 : Nat) (b : Int) (r : Bool) (w : World) (hbx1 : w.heap[B1]? = some (.cells #[.int .i64 b] 3 (0, 0))) (h : model_Right_1.f a b = some r) :
  Calls Tryz.prog 81 #[.int .i64 a, .pointer (some ⟨B1, 0, none⟩)] w fun e w' => e = .returned (.bool r) ∧ Drawn0 w w' := by
 have BKc1 := a_ hbx1
 clear hbx1
 unfold model_Right_1.f at h
 have H := h
 clear h
 replace H := ct_ H
 rcases H with ⟨c3b0, H⟩ | ⟨c3b0, H⟩
 ·
  obtain rfl := si_ H
  go_enter Tryz.func81, Tryz.ntmps81
  go_wp2
  go_ret
  exact ⟨by first | rfl | (simp; done) | (simp [*]; done), by repeat (first | exact d0_ _ | apply Drawn0.step)⟩
 obtain rfl := si_ H
 obtain ⟨_, _⟩ := cel1_ BKc1.out
 go_enter Tryz.func81, Tryz.ntmps81
 go_wp2
 go_ret
 exact ⟨by first | rfl | (simp; done) | (simp [*]; done), by repeat (first | exact d0_ _ | apply Drawn0.step)⟩

/-! ### model_bounded_1: function 110 -/
def model_bounded_1.f (b : Int) (a : Int) : Option (Bool) := if b < a then (some true) else (some (decide (b > 1000000)))
set_option maxHeartbeats 8000000 in
set_option maxRecDepth 100000 in
theorem model_bounded_1.calls (b : Int) (B1 : Nat) (a : Int) (r : Bool) (w : World) (hbx1 : w.heap[B1]? = some (.cells #[.int .i64 a] 3 (0, 0))) (h : model_bounded_1.f b a = some r) :
  Calls Tryz.prog 110 #[.int .i64 b, .pointer (some ⟨B1, 0, none⟩)] w fun e w' => e = .returned (.bool r) ∧ Drawn0 w w' := by
 have BKc1 := a_ hbx1
 clear hbx1
 unfold model_bounded_1.f at h
 have H := h
 clear h
 replace H := ct_ H
 rcases H with ⟨c3b0, H⟩ | ⟨c3b0, H⟩
 ·
  obtain rfl := si_ H
  obtain ⟨_, _⟩ := cel1_ BKc1.out
  go_enter Tryz.func110, Tryz.ntmps110
  go_wp2
  go_ret
  exact ⟨by first | rfl | (simp; done) | (simp [*]; done), by repeat (first | exact d0_ _ | apply Drawn0.step)⟩
 obtain rfl := si_ H
 obtain ⟨_, _⟩ := cel1_ BKc1.out
 go_enter Tryz.func110, Tryz.ntmps110
 go_wp2
 go_ret
 exact ⟨by first | rfl | (simp; done) | (simp [*]; done), by repeat (first | exact d0_ _ | apply Drawn0.step)⟩

/-! ### slices_IndexFunc_int_int_87_at_model_bounded_1: function 87 -/
def slices_IndexFunc_int_int_87_at_model_bounded_1.l0 : Nat → List Int → Int → Int → Int → Option (Int)
 | 0, _, _, _, _ => none
 | k + 1, c, e, b, a => if b < e then (if 0 ≤ b then (if b < (c.length : Int) then ((model_bounded_1.f (rd c b) a).bind fun d => (if d = true then (some b) else (slices_IndexFunc_int_int_87_at_model_bounded_1.l0 k c e (wrap64 (b + 1)) a))) else (none)) else (none)) else (some (-1))
def slices_IndexFunc_int_int_87_at_model_bounded_1.f (k : Nat) (b : List Int)  (a : Int) : Option (Int) := slices_IndexFunc_int_int_87_at_model_bounded_1.l0 k b (b.length : Int) 0 a
theorem slices_IndexFunc_int_int_87_at_model_bounded_1.mono_l : ∀ k, (∀ a b c d, LeO (slices_IndexFunc_int_int_87_at_model_bounded_1.l0 k a b c d) (slices_IndexFunc_int_int_87_at_model_bounded_1.l0 (k + 1) a b c d))
 | 0 => by intros; exact LeO.none _
 | k + 1 => by
  have ih0 := slices_IndexFunc_int_int_87_at_model_bounded_1.mono_l k
  intro a b c d
  unfold slices_IndexFunc_int_int_87_at_model_bounded_1.l0
  exact leo_
theorem slices_IndexFunc_int_int_87_at_model_bounded_1.mono : ∀ a b k, LeO (slices_IndexFunc_int_int_87_at_model_bounded_1.f k a b) (slices_IndexFunc_int_int_87_at_model_bounded_1.f (k + 1) a b) := by
 intro a b k
 have ih0 := slices_IndexFunc_int_int_87_at_model_bounded_1.mono_l k
 unfold slices_IndexFunc_int_int_87_at_model_bounded_1.f
 exact leo_
set_option maxHeartbeats 8000000 in
set_option maxRecDepth 100000 in
theorem slices_IndexFunc_int_int_87_at_model_bounded_1.calls (k : Nat) (t : Option Addr) (c0 : Nat) (b : List Int)  (B2 : Nat) (c : Int) (r : Int) (w : World) (n : Kd.C (Kd.int .i64) w t b.length b) (o : b.length ≤ c0) (hbx2 : w.heap[B2]? = some (.cells #[.int .i64 c] 3 (0, 0))) (h : slices_IndexFunc_int_int_87_at_model_bounded_1.f k b c = some r) :
  Calls Tryz.prog 87 #[.slice t b.length c0, .func (.func 110) #[] #[.pointer (some ⟨B2, 0, none⟩)]] w fun e w' => e = .returned (.int .i64 r) ∧ Drawn0 w w' := by
 have p := a_ n
 have x := a_ o
 clear n o
 have BKc2 := a_ hbx2
 clear hbx2
 unfold slices_IndexFunc_int_int_87_at_model_bounded_1.f at h
 have H := h
 clear h
 have H' := a_ H
 clear H
 go_enter Tryz.func87, Tryz.ntmps87
 go_wp2
 go_loopg [8] k (fun kq v w' => ∃ (a : Int), v = .int .i64 a ∧ Aside0 (slices_IndexFunc_int_int_87_at_model_bounded_1.l0 kq b (b.length : Int) a c = some r) ∧ Aside0 (kq ≤ k) ∧ Aside0 (w'.heap[B2]? = some (.cells #[.int .i64 c] 3 (0, 0))) ∧ Drawn0 w w')
 case atStart => exact ⟨(0), eq_, H', ⟨lr_ _⟩, ⟨bk_ BKc2.out⟩, by repeat (first | exact d0_ _ | apply Drawn0.step)⟩
 clear H'
 try clear c2
 try clear p2
 obtain ⟨a, rfl, HA, q, BKc2, ⟨m1, rfl⟩⟩ := hrel
 cases gk with
 | zero => exact absurd HA.out (by simp [slices_IndexFunc_int_int_87_at_model_bounded_1.l0])
 | succ k1 =>
  have H := HA.out
  clear HA
  simp only [slices_IndexFunc_int_int_87_at_model_bounded_1.l0] at H
  replace H := cf_ H
  rcases H with ⟨c4b0, H⟩ | ⟨c4b0, H⟩
  ·
   obtain rfl := si_ H
   go_wp2
   go_ret
   exact ⟨by first | rfl | (simp; done) | (simp [*]; done), by repeat (first | exact d0_ _ | apply Drawn0.step)⟩
  replace H := gu_ H
  obtain ⟨c5b0, H⟩ := H
  replace H := gu_ H
  obtain ⟨c6b0, H⟩ := H
  replace H := bo_ H
  obtain ⟨s, u, H⟩ := H
  try dsimp only at H
  replace H := ht_ H
  rcases H with ⟨rfl, H⟩ | ⟨rfl, H⟩
  ·
   obtain rfl := si_ H
   obtain ⟨m, g, l, p146, d⟩ := ak_ p a
   cases g
   go_wp2_with (first | (go_at_call 110; (with_reducible refine (model_bounded_1.calls (rd b a) B2 c true _ ?side1 u.out).mono ?_); (case side1 => exact bk_ BKc2.out); rintro e w' ⟨rfl, ⟨nd, rfl⟩⟩))
   go_ret
   exact ⟨by first | rfl | (simp; done) | (simp [*]; done), by repeat (first | exact d0_ _ | apply Drawn0.step)⟩
  have H' := a_ H
  clear H
  obtain ⟨m, g, l, p146, d⟩ := ak_ p a
  cases g
  go_wp2_with (first | (go_at_call 110; (with_reducible refine (model_bounded_1.calls (rd b a) B2 c false _ ?side1 u.out).mono ?_); (case side1 => exact bk_ BKc2.out); rintro e w' ⟨rfl, ⟨nd, rfl⟩⟩))
  go_roundg k1
  case measure => have := q.out; omega
  exact ⟨(wrap64 (a + 1)), eq_, H', ⟨by have := q.out; omega⟩, ⟨bk_ BKc2.out⟩, by repeat (first | exact d0_ _ | apply Drawn0.step)⟩

/-! ### slices_ContainsFunc_int_int_61_at_model_bounded_1: function 61 -/
def slices_ContainsFunc_int_int_61_at_model_bounded_1.f (k : Nat) (c : List Int)  (a : Int) : Option (Bool) := (slices_IndexFunc_int_int_87_at_model_bounded_1.f k c a).bind fun b => (some (decide (b ≥ 0)))
theorem slices_ContainsFunc_int_int_61_at_model_bounded_1.mono : ∀ a b k, LeO (slices_ContainsFunc_int_int_61_at_model_bounded_1.f k a b) (slices_ContainsFunc_int_int_61_at_model_bounded_1.f (k + 1) a b) := by
 intro a b k
 unfold slices_ContainsFunc_int_int_61_at_model_bounded_1.f
 have m0 := @slices_IndexFunc_int_int_87_at_model_bounded_1.mono
 exact leo_
set_option maxHeartbeats 8000000 in
set_option maxRecDepth 100000 in
theorem slices_ContainsFunc_int_int_61_at_model_bounded_1.calls (k : Nat) (g : Option Addr) (c0 : Nat) (a : List Int)  (B2 : Nat) (b : Int) (r : Bool) (w : World) (c : Kd.C (Kd.int .i64) w g a.length a) (d : a.length ≤ c0) (hbx2 : w.heap[B2]? = some (.cells #[.int .i64 b] 3 (0, 0))) (h : slices_ContainsFunc_int_int_61_at_model_bounded_1.f k a b = some r) :
  Calls Tryz.prog 61 #[.slice g a.length c0, .func (.func 110) #[] #[.pointer (some ⟨B2, 0, none⟩)]] w fun e w' => e = .returned (.bool r) ∧ Drawn0 w w' := by
 have m := a_ c
 have n := a_ d
 clear c d
 have BKc2 := a_ hbx2
 clear hbx2
 unfold slices_ContainsFunc_int_int_61_at_model_bounded_1.f at h
 have H := h
 clear h
 replace H := bo_ H
 obtain ⟨l, o, H⟩ := H
 try dsimp only at H
 obtain rfl := si_ H
 go_enter Tryz.func61, Tryz.ntmps61
 go_wp2_with (first | ((with_reducible refine gate_callee (f := 87) rfl ?_); refine goesL_ (some 7) rfl rfl Tryz.func87 kr_ rfl #[.slice g a.length c0, .func (.func 110) #[] #[.pointer (some ⟨B2, 0, none⟩)]] rfl ar_ ?_; (with_reducible refine (slices_IndexFunc_int_int_87_at_model_bounded_1.calls k _ _ a B2 b l _ ?side1 ?side2 ?side3 o.out).mono ?_); (case side1 => exact ca_ (m.out)); (case side2 => exact n.out); (case side3 => exact bk_ BKc2.out); rintro e w' ⟨rfl, ⟨nd, rfl⟩⟩; refine ⟨_, rfl, ?_⟩))
 go_ret
 exact ⟨by first | rfl | (simp; done) | (simp [*]; done), by repeat (first | exact d0_ _ | apply Drawn0.step)⟩

/-! ### model_bounded: function 101 -/
def model_bounded.f (k : Nat) (b : List Int) (c : Int) : Option (Bool) := (slices_ContainsFunc_int_int_61_at_model_bounded_1.f k b c).bind fun a => (some (!a))
theorem model_bounded.mono : ∀ a b k, LeO (model_bounded.f k a b) (model_bounded.f (k + 1) a b) := by
 intro a b k
 unfold model_bounded.f
 have m0 := @slices_ContainsFunc_int_int_61_at_model_bounded_1.mono
 exact leo_
set_option maxHeartbeats 8000000 in
set_option maxRecDepth 100000 in
theorem model_bounded.calls (k : Nat) (n : Option Addr) (c0 : Nat) (b : List Int) (c : Int) (r : Bool) (w : World) (l : Kd.C (Kd.int .i64) w n b.length b) (m : b.length ≤ c0) (h : model_bounded.f k b c = some r) :
  Calls Tryz.prog 101 #[.slice n b.length c0, .int .i64 c] w fun e w' => e = .returned (.bool r) ∧ Below w.heap.size w w' := by
 have p := a_ l
 have q := a_ m
 clear l m
 have HB := a_ (Below.refl w.heap.size w)
 unfold model_bounded.f at h
 have H := h
 clear h
 replace H := bo_ H
 obtain ⟨o, u, H⟩ := H
 try dsimp only at H
 obtain rfl := si_ H
 go_enter Tryz.func101, Tryz.ntmps101
 go_wp2_with (first | ((with_reducible refine gate_dst (N := 3) rfl ?_); refine bxe_ (N := 3) (cs := #[.int .i64 c]) (t := 3) ?_; intro a hg w4 hbox hb; have d := a_ (hbox); have g := a_ (by rw [hg]; exact (bz_ bel_) : w.heap.size ≤ a); have s := g; replace HB := hq_ hb; clear hb hbox hg) | ((with_reducible refine gate_callee (f := 61) rfl ?_); refine goesL_ (some 7) rfl rfl Tryz.func61 kr_ rfl #[.slice n b.length c0, .func (.func 110) #[] #[.pointer (some ⟨a, 0, none⟩)]] rfl ar_ ?_; (with_reducible refine (slices_ContainsFunc_int_int_61_at_model_bounded_1.calls k _ _ b a c o _ ?side1 ?side2 ?side3 u.out).mono ?_); (case side1 => exact ca_ ((cb_ p.out HB.out))); (case side2 => exact q.out); (case side3 => exact bk_ d.out); rintro e w' ⟨rfl, ⟨nd, rfl⟩⟩; refine ⟨_, rfl, ?_⟩))
 go_ret
 exact ⟨er_, bel_⟩

/-! ### model_numbers: function 82 -/
def model_numbers.l0 : Nat → Int → Int → Int → Int → Int → Int → List Int → List Int → List Int → List Int → List Int → Int → List (List Int) → Option (Bool)
 | 0, _, _, _, _, _, _, _, _, _, _, _, _, _ => none
 | k + 1, t, q, u, r, s, m, n, o, b, c, d, a, p => if s < r then (none) else ((model_bounded.f k b t).bind fun e => (if e = true then ((model_bounded.f k c q).bind fun g => (if g = true then ((model_bounded.f k d q).bind fun l => (if l = true then (if a ≥ u then (some (decide (a ≤ 9999999999))) else (none)) else (none))) else (none))) else (none)))
def model_numbers.f (k : Nat) (a : Int) (c : List Int) (d : List Int) (e : List Int) (g : List Int) (l : List Int) (m : Int) (b : List (List Int)) : Option (Bool) := if a = 19 then (none) else (if a = 21 then (model_numbers.l0 k (-1000000) 0 (-9999999999) (b.length : Int) 0 a c d e g l m b) else (none))
theorem model_numbers.mono_l : ∀ k, (∀ d e f g l m n o p q a b c, LeO (model_numbers.l0 k d e f g l m n o p q a b c) (model_numbers.l0 (k + 1) d e f g l m n o p q a b c))
 | 0 => by intros; exact LeO.none _
 | k + 1 => by
  have ih0 := model_numbers.mono_l k
  intro d e f g l m n o p q a b c
  unfold model_numbers.l0
  have m0 := @model_bounded.mono
  exact leo_
theorem model_numbers.mono : ∀ a b c d e g l m k, LeO (model_numbers.f k a b c d e g l m) (model_numbers.f (k + 1) a b c d e g l m) := by
 intro a b c d e g l m k
 have ih0 := model_numbers.mono_l k
 unfold model_numbers.f
 have m0 := @model_bounded.mono
 exact leo_
set_option maxHeartbeats 8000000 in
set_option maxRecDepth 100000 in
theorem model_numbers.calls (k : Nat) (b : Int) (s : Option Addr) (c0_1 : Nat) (m : List Int) (u : Option Addr) (c0_2 : Nat) (n : List Int) (q : Option Addr) (c0_3 : Nat) (d : List Int) (v : Option Addr) (c0_4 : Nat) (g : List Int) (x : Option Addr) (c0_5 : Nat) (l : List Int) (o : Int) (y : Option Addr) (c0_7 : Nat) (c : List (List Int)) (r : Bool) (w : World) (O : Kd.C (Kd.int .i64) w s m.length m) (z : m.length ≤ c0_1) (P : Kd.C (Kd.int .i64) w u n.length n) (A : n.length ≤ c0_2) (B : Kd.C (Kd.int .i64) w q d.length d) (E : d.length ≤ c0_3) (F : Kd.C (Kd.int .i64) w v g.length g) (G : g.length ≤ c0_4) (I : Kd.C (Kd.int .i64) w x l.length l) (J : l.length ≤ c0_5) (Q : Kd.C (Kd.slice 3 (Kd.int .i64)) w y c.length c) (K : c.length ≤ c0_7) (h : model_numbers.f k b m n d g l o c = some r) :
  Calls Tryz.prog 82 #[.agg #[.int .i64 b, .slice s m.length c0_1, .slice u n.length c0_2, .slice q d.length c0_3, .slice v g.length c0_4, .slice x l.length c0_5, .int .i64 o, .slice y c.length c0_7]] w fun e w' => e = .returned (.bool r) ∧ Below w.heap.size w w' := by
 have hu32 := Tryz.underlying32
 have ag := a_ z
 clear O z
 have ah := a_ A
 clear P A
 have U := a_ B
 have V := a_ E
 clear B E
 have W := a_ F
 have X := a_ G
 clear F G
 have Y := a_ I
 have Z := a_ J
 clear I J
 have ai := a_ K
 clear Q K
 have HB := a_ (Below.refl w.heap.size w)
 unfold model_numbers.f at h
 have H := h
 clear h
 replace H := gz_ H
 obtain ⟨c2, c2b0, c2b1, H⟩ := H
 replace H := gq_ H
 obtain ⟨c3b0, c3b1, H⟩ := H
 have H' := a_ H
 clear H
 go_enter Tryz.func82, Tryz.ntmps82
 go_wp2_with (first | ((with_reducible refine gate_dst (N := 1) rfl ?_); refine bxe_ (N := 1) (cs := #[.int .i64 b, .slice s m.length c0_1, .slice u n.length c0_2, .slice q d.length c0_3, .slice v g.length c0_4, .slice x l.length c0_5, .int .i64 o, .slice y c.length c0_7]) (t := 32) ?_; intro M hg w4 hbox hb; have a := a_ (hbox); have aa := a_ (by rw [hg]; exact (bz_ bel_) : w.heap.size ≤ M); have aj := aa; replace HB := hq_ hb; clear hb hbox hg; obtain ⟨_, _, _, _, _, _, _, _, _, _, _, _, _, _, _, _⟩ := cel8_ a.out))
 go_loopg [17] k (fun kq ae w' => ∃ (p : Int), ae = .int .i64 p ∧ Aside0 (model_numbers.l0 kq (-1000000) 0 (-9999999999) (c.length : Int) p b m n d g l o c = some r) ∧ Aside0 (kq ≤ k) ∧ Aside0 (w'.heap[M]? = some (.cells #[.int .i64 b, (.slice s m.length c0_1), (.slice u n.length c0_2), (.slice q d.length c0_3), (.slice v g.length c0_4), (.slice x l.length c0_5), .int .i64 o, (.slice y c.length c0_7)] 32 (0, 0))) ∧ Aside0 (Below w.heap.size w w'))
 case atStart => exact ⟨(0), eq_, H', ⟨lr_ _⟩, ⟨bk_ a.out⟩, ⟨bel_⟩⟩
 clear H'
 try clear c2
 try clear c2b0
 try clear c2b1
 try clear p2
 try clear c3
 try clear c3b0
 try clear c3b1
 obtain ⟨p, rfl, HA, am, a, HB⟩ := hrel
 cases gk with
 | zero => exact absurd HA.out (by simp [model_numbers.l0])
 | succ k1 =>
  have H := HA.out
  clear HA
  simp only [model_numbers.l0] at H
  replace H := gn_ H
  obtain ⟨c6, H⟩ := H
  have c6b0 : decide (p < (c.length : Int)) = false := df_ c6
  clear c6
  replace H := bo_ H
  obtain ⟨ab, A7, H⟩ := H
  try dsimp only at H
  replace H := gp_ H
  obtain ⟨rfl, H⟩ := H
  replace H := bo_ H
  obtain ⟨ac, A9, H⟩ := H
  try dsimp only at H
  replace H := gp_ H
  obtain ⟨rfl, H⟩ := H
  replace H := bo_ H
  obtain ⟨ad, af, H⟩ := H
  try dsimp only at H
  replace H := gp_ H
  obtain ⟨rfl, H⟩ := H
  replace H := gp_ H
  obtain ⟨c13, H⟩ := H
  have c13b0 : decide ((-9999999999) ≤ o) = true := dt_ c13
  clear c13
  obtain rfl := si_ H
  obtain ⟨_, _, _, _, _, _, _, _, _, _, _, _, _, _, _, _⟩ := cel8_ a.out
  go_wp2_with (first | ((with_reducible refine gate_callee (f := 101) rfl ?_); refine goesL_ (some 29) rfl rfl Tryz.func101 kr_ rfl #[.slice q d.length c0_3, .int .i64 (-1000000)] rfl ar_ ?_; (with_reducible refine (model_bounded.calls k1 _ _ d (-1000000) true _ ?_ ?_ A7.out).mono ?_); exact ca_ ((cb_ U.out HB.out)); exact V.out; rintro e w15 ⟨rfl, hb⟩; refine ⟨_, rfl, ?_⟩; replace a := a_ (bq_ a.out hb); replace HB := hq_ hb; clear hb; obtain ⟨_, _, _, _, _, _, _, _, _, _, _, _, _, _, _, _⟩ := cel8_ a.out) | (go_at_call 101; (with_reducible refine (model_bounded.calls k1 _ _ g 0 true _ ?_ ?_ A9.out).mono ?_); exact ca_ ((cb_ W.out HB.out)); exact X.out; rintro e w17 ⟨rfl, hb⟩; replace a := a_ (bq_ a.out hb); replace HB := hq_ hb; clear hb; obtain ⟨_, _, _, _, _, _, _, _, _, _, _, _, _, _, _, _⟩ := cel8_ a.out) | (go_at_call 101; (with_reducible refine (model_bounded.calls k1 _ _ l 0 true _ ?_ ?_ af.out).mono ?_); exact ca_ ((cb_ Y.out HB.out)); exact Z.out; rintro e w19 ⟨rfl, hb⟩; replace a := a_ (bq_ a.out hb); replace HB := hq_ hb; clear hb; obtain ⟨_, _, _, _, _, _, _, _, _, _, _, _, _, _, _, _⟩ := cel8_ a.out))
  go_ret
  exact ⟨er_, bel_⟩

/-! ### slices_Sorted: function 102 -/
def slices_Sorted.f (a : List Int) : Option (List Int) := if 1 ≤ a.length ∧ a.length < 1000000 then some (Srt.isrt a) else none
theorem ints_of {w : World} {A : Option Addr} {l : List Int} {c : Nat} (h : Kd.C (Kd.int .i64) w A l.length l) : Srt.Ints w.heap.size w (.slice A l.length c) l ∨ l = [] := by
 rcases Nat.eq_zero_or_pos l.length with h0 | h0
 · exact .inr (List.eq_nil_of_length_eq_zero h0)
 obtain ⟨ad, e, hc⟩ := ai_ h 0 (by omega) (by omega)
 subst e
 have hs : ad.spot = none := by simpa [Addr.add] using World.cell?_spot hc
 obtain ⟨b, off, sp⟩ := ad
 simp only at hs
 subst hs
 have hb : b < w.heap.size := by simpa [Addr.add] using wl_ w _ hc
 refine .inl (.inr ⟨b, off, c, rfl, hb, fun j hj => ?_⟩)
 obtain ⟨ad', e', hc'⟩ := ai_ h (j : Int) (by omega) (by omega)
 obtain rfl := si_ e'
 have e1 : (j : Int).toNat = j := by omega
 rw [e1] at hc'
 have e2 : rd l (j : Int) = l[j]?.getD 0 := by unfold rd; rw [e1, List.getD_eq_getElem?_getD]
 rw [e2] at hc'
 by_cases e0 : j = 0
 · subst e0; simpa [Addr.add] using hc'
 simpa [Addr.add, e0] using hc'
theorem own_ints {w : World} {base : Nat} {v : Value} {l : List Int} (h : w.ownsRow base 3 1 v l.length (l.map encZ)) : Kd.R (Kd.int .i64) 3 w base (fun _ => True) v l := by
 refine ⟨fun _ _ => trivial, l.map encZ, h, ⟨by show (l.map encZ).length = l.length * 1; simp, fun j p hp => ?_⟩⟩
 have hj : j < l.length := (List.getElem?_eq_some_iff.1 hp).1
 obtain rfl : l[j] = p := (List.getElem?_eq_some_iff.1 hp).2
 have : (List.drop (j * 1) (l.map encZ)).take 1 = [encZ l[j]] := by
  rw [Nat.mul_one, List.drop_eq_getElem_cons (by simpa using hj)]
  simp
 show Kd.M (Kd.int .i64) _ _ _ _ ((List.drop (j * 1) (l.map encZ)).take 1)
 rw [this]
 rfl
/-- slices.Values: the list's row in a box. -/
theorem slices_Values.calls (b : Option Addr) (n c0 : Nat) (w : World) :
  Calls Tryz.prog 103 #[.slice b n c0] w fun e w' => ∃ B, e = .returned (.func (.func 113) #[] #[.pointer (some ⟨B, 0, none⟩)]) ∧ B < w'.heap.size ∧ w'.cell? ⟨B, 0, none⟩ = some (.slice b n c0) ∧ Below w.heap.size w w' := by
 go_enter Tryz.func103, Tryz.ntmps103
 go_wp2
 go_ret
 exact ⟨_, rfl, by simp, (Boxed.new w 30 (.slice b n c0)).cell, (Below.refl _ _).alloc (lr_ _) _⟩
theorem slices_Sorted.calls (c : Option Addr) (c0 : Nat) (a : List Int) (r : List Int) (w : World) (B : Nat) (hB : B < w.heap.size) (hcv : w.cell? ⟨B, 0, none⟩ = some (.slice c a.length c0)) (d : Kd.C (Kd.int .i64) w c a.length a) (h : slices_Sorted.f a = some r) :
  Calls Tryz.prog 102 #[.func (.func 113) #[] #[.pointer (some ⟨B, 0, none⟩)]] w fun e w' => ∃ b : Value, e = .returned (b) ∧ Kd.R (Kd.int .i64) 3 w' w.heap.size (fun _ => True) b r ∧ Below w.heap.size w w' := by
 unfold slices_Sorted.f at h
 by_cases hb : 1 ≤ a.length ∧ a.length < 1000000
 rotate_left
 · rw [ig_ hb] at h; cases h
 rw [ip_ hb] at h
 obtain rfl := si_ h
 have hI : Srt.Ints w.heap.size w (.slice c a.length c0) a := (ints_of d).elim id (fun e => by rw [e] at hb; simp at hb)
 refine (Srt.sorted B _ a (by omega) hb.1 w hB hcv hI).mono ?_
 rintro e w' ⟨g, cap, rfl, hrow, hbel⟩
 have hl : (Srt.isrt a).length = a.length := (Srt.isrt_perm a).length_eq
 rw [Srt.srt_isrt, ← hl] at hrow
 exact ⟨_, rfl, own_ints (by rw [← hl]; exact hrow), hbel⟩

end Go.Proofs.YtijjhobjmehhoaaGreatDoor.XGccAll
