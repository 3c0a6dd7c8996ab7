-- by xprint.py, a program of this session, over the kit's print
import Derived.Test.YtckfbfdnlpnllaaGreatDoorXAFxx0
import Derived.Test.YtckfbfdnlpnllaaGreatDoorXAFxx1
import Derived.Test.YtckfbfdnlpnllaaGreatDoorXAFxx2
import Derived.Test.YtckfbfdnlpnllaaGreatDoorSq
namespace Go.Proofs.YtckfbfdnlpnllaaGreatDoor.XAllDiffFixed
open Go.RowKit Go.Proofs.YtckfbfdnlpnllaaGreatDoor.Sq Go.Proofs.YtckfbfdnlpnllaaGreatDoorW.PrintWords Go.Proofs.YtckfbfdnlpnllaaGreatDoorW.PrintLast Go.Proofs.YtckfbfdnlpnllaaGreatDoorW.PrintMore
attribute [local go_sem] max2_int min2_int max_two min_two max_three min_three max_four min_four   -- for this text's walks alone
set_option linter.unusedVariables false
set_option linter.unusedSimpArgs false

/-! ### model_numbers: function 80 -/
def model_numbers.l0 : Nat → Int → Int → Int → Int → Int → Int → List Int → List Int → List Int → List Int → List Int → Int → List (List Int) → Option (Bool)
 | 0, _, _, _, _, _, _, _, _, _, _, _, _, _ => none
 | k + 1, t, q, u, r, s, m, n, o, b, c, d, a, p => if s < r then (none) else ((model_bounded.f k b t).bind fun e => (if e = true then ((model_bounded.f k c q).bind fun g => (if g = true then ((model_bounded.f k d q).bind fun l => (if l = true then (if a ≥ u then (some (decide (a ≤ 9999999999))) else (none)) else (none))) else (none))) else (none)))
def model_numbers.f (k : Nat) (a : Int) (c : List Int) (d : List Int) (e : List Int) (g : List Int) (l : List Int) (m : Int) (b : List (List Int)) : Option (Bool) := if a = 19 then (none) else (if a = 21 then (none) else (model_numbers.l0 k (-1000000) (-1000000) (-9999999999) (b.length : Int) 0 a c d e g l m b))
theorem model_numbers.mono_l : ∀ k, (∀ d e f g l m n o p q a b c, LeO (model_numbers.l0 k d e f g l m n o p q a b c) (model_numbers.l0 (k + 1) d e f g l m n o p q a b c))
 | 0 => by intros; exact LeO.none _
 | k + 1 => by
  have ih0 := model_numbers.mono_l k
  intro d e f g l m n o p q a b c
  unfold model_numbers.l0
  have m0 := @model_bounded.mono
  exact leo_
theorem model_numbers.mono : ∀ a b c d e g l m k, LeO (model_numbers.f k a b c d e g l m) (model_numbers.f (k + 1) a b c d e g l m) := by
 intro a b c d e g l m k
 have ih0 := model_numbers.mono_l k
 unfold model_numbers.f
 have m0 := @model_bounded.mono
 exact leo_
set_option maxHeartbeats 8000000 in
set_option maxRecDepth 100000 in
theorem model_numbers.calls (k : Nat) (b : Int) (s : Option Addr) (c0_1 : Nat) (m : List Int) (u : Option Addr) (c0_2 : Nat) (n : List Int) (q : Option Addr) (c0_3 : Nat) (d : List Int) (v : Option Addr) (c0_4 : Nat) (g : List Int) (x : Option Addr) (c0_5 : Nat) (l : List Int) (o : Int) (y : Option Addr) (c0_7 : Nat) (c : List (List Int)) (r : Bool) (w : World) (O : Kd.C (Kd.int .i64) w s m.length m) (z : m.length ≤ c0_1) (P : Kd.C (Kd.int .i64) w u n.length n) (A : n.length ≤ c0_2) (B : Kd.C (Kd.int .i64) w q d.length d) (E : d.length ≤ c0_3) (F : Kd.C (Kd.int .i64) w v g.length g) (G : g.length ≤ c0_4) (I : Kd.C (Kd.int .i64) w x l.length l) (J : l.length ≤ c0_5) (Q : Kd.C (Kd.slice 3 (Kd.int .i64)) w y c.length c) (K : c.length ≤ c0_7) (h : model_numbers.f k b m n d g l o c = some r) :
  Calls Tryz.prog 80 #[.agg #[.int .i64 b, .slice s m.length c0_1, .slice u n.length c0_2, .slice q d.length c0_3, .slice v g.length c0_4, .slice x l.length c0_5, .int .i64 o, .slice y c.length c0_7]] w fun e w' => e = .returned (.bool r) ∧ Below w.heap.size w w' := by
 have hu32 := Tryz.underlying32
 have ag := a_ z
 clear O z
 have ah := a_ A
 clear P A
 have U := a_ B
 have V := a_ E
 clear B E
 have W := a_ F
 have X := a_ G
 clear F G
 have Y := a_ I
 have Z := a_ J
 clear I J
 have ai := a_ K
 clear Q K
 have HB := a_ (Below.refl w.heap.size w)
 unfold model_numbers.f at h
 have H := h
 clear h
 by_cases c2 : b = 19
 ·
  rw [ip_ c2] at H
  exact ab_ H
 rw [ig_ c2] at H
 have c2b0 : (b == 19) = false := be_.mpr c2
 have c2b1 : (b != 19) = true := ni_.mpr c2
 by_cases c3 : b = 21
 ·
  rw [ip_ c3] at H
  exact ab_ H
 rw [ig_ c3] at H
 have c3b0 : (b == 21) = false := be_.mpr c3
 have c3b1 : (b != 21) = true := ni_.mpr c3
 have H' := a_ H
 clear H
 go_enter Tryz.func80, Tryz.ntmps80
 go_wp2_with (first | ((with_reducible refine gate_dst (N := 1) rfl ?_); refine bxe_ (N := 1) (cs := #[.int .i64 b, .slice s m.length c0_1, .slice u n.length c0_2, .slice q d.length c0_3, .slice v g.length c0_4, .slice x l.length c0_5, .int .i64 o, .slice y c.length c0_7]) (t := 32) ?_; intro M hg w4 hbox hb; have a := a_ (hbox); have aa := a_ (by rw [hg]; exact (bz_ bel_) : w.heap.size ≤ M); have aj := aa; replace HB := hq_ hb; clear hb hbox hg; obtain ⟨_, _, _, _, _, _, _, _, _, _, _, _, _, _, _, _⟩ := cel8_ a.out))
 go_loopg [17] k (fun kq ae w' => ∃ (p : Int), ae = .int .i64 p ∧ Aside0 (model_numbers.l0 kq (-1000000) (-1000000) (-9999999999) (c.length : Int) p b m n d g l o c = some r) ∧ Aside0 (kq ≤ k) ∧ Aside0 (w'.heap[M]? = some (.cells #[.int .i64 b, (.slice s m.length c0_1), (.slice u n.length c0_2), (.slice q d.length c0_3), (.slice v g.length c0_4), (.slice x l.length c0_5), .int .i64 o, (.slice y c.length c0_7)] 32 (0, 0))) ∧ Aside0 (Below w.heap.size w w'))
 case atStart => exact ⟨(0), eq_, H', ⟨lr_ _⟩, ⟨bk_ a.out⟩, ⟨bel_⟩⟩
 clear H'
 try clear c2
 try clear c2b0
 try clear c2b1
 try clear p2
 try clear c3
 try clear c3b0
 try clear c3b1
 obtain ⟨p, rfl, HA, am, a, HB⟩ := hrel
 cases gk with
 | zero => exact absurd HA.out (by simp [model_numbers.l0])
 | succ k1 =>
  have H := HA.out
  clear HA
  simp only [model_numbers.l0] at H
  by_cases c6 : p < (c.length : Int)
  ·
   rw [ip_ c6] at H
   exact ab_ H
  rw [ig_ c6] at H
  have c6b0 : decide (p < (c.length : Int)) = false := df_ c6
  clear c6
  replace H := bo_ H
  obtain ⟨ab, A7, H⟩ := H
  try dsimp only at H
  by_cases c8 : ab = true
  rotate_left
  ·
   replace c8 := bf_.mpr c8
   subst c8
   have H1 : (none) = some r := by rw [ig_ (show ¬ (false = true) by decide)] at H; exact H
   clear H
   have H := H1
   clear H1
   exact ab_ H
  subst c8
  rw [ip_ rfl] at H
  replace H := bo_ H
  obtain ⟨ac, A9, H⟩ := H
  try dsimp only at H
  by_cases c10 : ac = true
  rotate_left
  ·
   replace c10 := bf_.mpr c10
   subst c10
   have H1 : (none) = some r := by rw [ig_ (show ¬ (false = true) by decide)] at H; exact H
   clear H
   have H := H1
   clear H1
   exact ab_ H
  subst c10
  rw [ip_ rfl] at H
  replace H := bo_ H
  obtain ⟨ad, af, H⟩ := H
  try dsimp only at H
  by_cases c12 : ad = true
  rotate_left
  ·
   replace c12 := bf_.mpr c12
   subst c12
   have H1 : (none) = some r := by rw [ig_ (show ¬ (false = true) by decide)] at H; exact H
   clear H
   have H := H1
   clear H1
   exact ab_ H
  subst c12
  rw [ip_ rfl] at H
  by_cases c13 : o ≥ (-9999999999)
  rotate_left
  ·
   rw [ig_ c13] at H
   exact ab_ H
  rw [ip_ c13] at H
  have c13b0 : decide ((-9999999999) ≤ o) = true := dt_ c13
  clear c13
  obtain rfl := si_ H
  obtain ⟨_, _, _, _, _, _, _, _, _, _, _, _, _, _, _, _⟩ := cel8_ a.out
  go_wp2_with (first | ((with_reducible refine gate_callee (f := 95) rfl ?_); refine goesL_ (some 29) rfl rfl Tryz.func95 kr_ rfl #[.slice q d.length c0_3, .int .i64 (-1000000)] rfl ar_ ?_; (with_reducible refine (model_bounded.calls k1 _ _ d (-1000000) true _ ?_ ?_ A7.out).mono ?_); exact ca_ ((cb_ U.out HB.out)); exact V.out; rintro e w15 ⟨rfl, hb⟩; refine ⟨_, rfl, ?_⟩; replace a := a_ (bq_ a.out hb); replace HB := hq_ hb; clear hb; obtain ⟨_, _, _, _, _, _, _, _, _, _, _, _, _, _, _, _⟩ := cel8_ a.out) | (go_at_call 95; (with_reducible refine (model_bounded.calls k1 _ _ g (-1000000) true _ ?_ ?_ A9.out).mono ?_); exact ca_ ((cb_ W.out HB.out)); exact X.out; rintro e w17 ⟨rfl, hb⟩; replace a := a_ (bq_ a.out hb); replace HB := hq_ hb; clear hb; obtain ⟨_, _, _, _, _, _, _, _, _, _, _, _, _, _, _, _⟩ := cel8_ a.out) | (go_at_call 95; (with_reducible refine (model_bounded.calls k1 _ _ l (-1000000) true _ ?_ ?_ af.out).mono ?_); exact ca_ ((cb_ Y.out HB.out)); exact Z.out; rintro e w19 ⟨rfl, hb⟩; replace a := a_ (bq_ a.out hb); replace HB := hq_ hb; clear hb; obtain ⟨_, _, _, _, _, _, _, _, _, _, _, _, _, _, _, _⟩ := cel8_ a.out))
  go_ret
  exact ⟨er_, bel_⟩

/-! ### model_counts: function 81 -/
def model_counts.f (a : Int) (b : List Int) (c : List Int) (d : List Int) (e : List Int) (g : List Int) (l : Int) (m : List (List Int)) : Option (Bool) := if a = 21 then (none) else (some true)
set_option maxHeartbeats 8000000 in
set_option maxRecDepth 100000 in
theorem model_counts.calls (a : Int) (q : Option Addr) (c0_1 : Nat) (b : List Int) (s : Option Addr) (c0_2 : Nat) (c : List Int) (u : Option Addr) (c0_3 : Nat) (d : List Int) (v : Option Addr) (c0_4 : Nat) (g : List Int) (x : Option Addr) (c0_5 : Nat) (l : List Int) (y : Int) (z : Option Addr) (c0_7 : Nat) (m : List (List Int)) (r : Bool) (w : World) (K : Kd.C (Kd.int .i64) w q b.length b) (A : b.length ≤ c0_1) (M : Kd.C (Kd.int .i64) w s c.length c) (B : c.length ≤ c0_2) (O : Kd.C (Kd.int .i64) w u d.length d) (E : d.length ≤ c0_3) (P : Kd.C (Kd.int .i64) w v g.length g) (F : g.length ≤ c0_4) (Q : Kd.C (Kd.int .i64) w x l.length l) (G : l.length ≤ c0_5) (U : Kd.C (Kd.slice 3 (Kd.int .i64)) w z m.length m) (I : m.length ≤ c0_7) (h : model_counts.f a b c d g l y m = some r) :
  Calls Tryz.prog 81 #[.agg #[.int .i64 a, .slice q b.length c0_1, .slice s c.length c0_2, .slice u d.length c0_3, .slice v g.length c0_4, .slice x l.length c0_5, .int .i64 y, .slice z m.length c0_7]] w fun e w' => e = .returned (.bool r) ∧ Below w.heap.size w w' := by
 have hu32 := Tryz.underlying32
 have V := a_ A
 clear K A
 have W := a_ B
 clear M B
 have X := a_ E
 clear O E
 have Y := a_ F
 clear P F
 have Z := a_ G
 clear Q G
 have aa := a_ I
 clear U I
 have HB := a_ (Below.refl w.heap.size w)
 unfold model_counts.f at h
 have H := h
 clear h
 by_cases c2 : a = 21
 ·
  rw [ip_ c2] at H
  exact ab_ H
 rw [ig_ c2] at H
 have c2b0 : (a == 21) = false := be_.mpr c2
 have c2b1 : (a != 21) = true := ni_.mpr c2
 obtain rfl := si_ H
 go_enter Tryz.func81, Tryz.ntmps81
 go_wp2_with (first | ((with_reducible refine gate_dst (N := 1) rfl ?_); refine bxe_ (N := 1) (cs := #[.int .i64 a, .slice q b.length c0_1, .slice s c.length c0_2, .slice u d.length c0_3, .slice v g.length c0_4, .slice x l.length c0_5, .int .i64 y, .slice z m.length c0_7]) (t := 32) ?_; intro n hg w3 hbox hb; have o := a_ (hbox); have p := a_ (by rw [hg]; exact (bz_ bel_) : w.heap.size ≤ n); have J := p; replace HB := hq_ hb; clear hb hbox hg; obtain ⟨_, _, _, _, _, _, _, _, _, _, _, _, _, _, _, _⟩ := cel8_ o.out))
 repeat (go_quiet (first | ((with_reducible refine gate_dst (N := 1) rfl ?_); refine bxe_ (N := 1) (cs := #[.int .i64 a, .slice q b.length c0_1, .slice s c.length c0_2, .slice u d.length c0_3, .slice v g.length c0_4, .slice x l.length c0_5, .int .i64 y, .slice z m.length c0_7]) (t := 32) ?_; intro n hg w3 hbox hb; have o := a_ (hbox); have p := a_ (by rw [hg]; exact (bz_ bel_) : w.heap.size ≤ n); have J := p; replace HB := hq_ hb; clear hb hbox hg; obtain ⟨_, _, _, _, _, _, _, _, _, _, _, _, _, _, _, _⟩ := cel8_ o.out)); try go_wp2_with (first | ((with_reducible refine gate_dst (N := 1) rfl ?_); refine bxe_ (N := 1) (cs := #[.int .i64 a, .slice q b.length c0_1, .slice s c.length c0_2, .slice u d.length c0_3, .slice v g.length c0_4, .slice x l.length c0_5, .int .i64 y, .slice z m.length c0_7]) (t := 32) ?_; intro n hg w3 hbox hb; have o := a_ (hbox); have p := a_ (by rw [hg]; exact (bz_ bel_) : w.heap.size ≤ n); have J := p; replace HB := hq_ hb; clear hb hbox hg; obtain ⟨_, _, _, _, _, _, _, _, _, _, _, _, _, _, _, _⟩ := cel8_ o.out)))
 go_ret
 exact ⟨er_, bel_⟩

/-! ### slices_IndexFunc_int_int_83_at_model_Right_1: function 83 -/
def slices_IndexFunc_int_int_83_at_model_Right_1.l0 : Nat → List Int → Int → Int → Int → Option (Int)
 | 0, _, _, _, _ => none
 | k + 1, c, e, b, a => if b < e then (if 0 ≤ b then (if b < (c.length : Int) then ((model_Right_1.f (rd c b) a).bind fun d => (if d = true then (some b) else (slices_IndexFunc_int_int_83_at_model_Right_1.l0 k c e (wrap64 (b + 1)) a))) else (none)) else (none)) else (some (-1))
def slices_IndexFunc_int_int_83_at_model_Right_1.f (k : Nat) (b : List Int)  (a : Int) : Option (Int) := slices_IndexFunc_int_int_83_at_model_Right_1.l0 k b (b.length : Int) 0 a
theorem slices_IndexFunc_int_int_83_at_model_Right_1.mono_l : ∀ k, (∀ a b c d, LeO (slices_IndexFunc_int_int_83_at_model_Right_1.l0 k a b c d) (slices_IndexFunc_int_int_83_at_model_Right_1.l0 (k + 1) a b c d))
 | 0 => by intros; exact LeO.none _
 | k + 1 => by
  have ih0 := slices_IndexFunc_int_int_83_at_model_Right_1.mono_l k
  intro a b c d
  unfold slices_IndexFunc_int_int_83_at_model_Right_1.l0
  exact leo_
theorem slices_IndexFunc_int_int_83_at_model_Right_1.mono : ∀ a b k, LeO (slices_IndexFunc_int_int_83_at_model_Right_1.f k a b) (slices_IndexFunc_int_int_83_at_model_Right_1.f (k + 1) a b) := by
 intro a b k
 have ih0 := slices_IndexFunc_int_int_83_at_model_Right_1.mono_l k
 unfold slices_IndexFunc_int_int_83_at_model_Right_1.f
 exact leo_
set_option maxHeartbeats 8000000 in
set_option maxRecDepth 100000 in
theorem slices_IndexFunc_int_int_83_at_model_Right_1.calls (k : Nat) (t : Option Addr) (c0 : Nat) (b : List Int)  (B2 : Nat) (c : Int) (r : Int) (w : World) (n : Kd.C (Kd.int .i64) w t b.length b) (o : b.length ≤ c0) (hbx2 : w.heap[B2]? = some (.cells #[.int .i64 c] 3 (0, 0))) (h : slices_IndexFunc_int_int_83_at_model_Right_1.f k b c = some r) :
  Calls Tryz.prog 83 #[.slice t b.length c0, .func (.func 79) #[] #[.pointer (some ⟨B2, 0, none⟩)]] w fun e w' => e = .returned (.int .i64 r) ∧ Drawn0 w w' := by
 have p := a_ n
 have x := a_ o
 clear n o
 have BKc2 := a_ hbx2
 clear hbx2
 unfold slices_IndexFunc_int_int_83_at_model_Right_1.f at h
 have H := h
 clear h
 have H' := a_ H
 clear H
 go_enter Tryz.func83, Tryz.ntmps83
 go_wp2
 go_loopg [8] k (fun kq v w' => ∃ (a : Int), v = .int .i64 a ∧ Aside0 (slices_IndexFunc_int_int_83_at_model_Right_1.l0 kq b (b.length : Int) a c = some r) ∧ Aside0 (kq ≤ k) ∧ Aside0 (w'.heap[B2]? = some (.cells #[.int .i64 c] 3 (0, 0))) ∧ Drawn0 w w')
 case atStart => exact ⟨(0), eq_, H', ⟨lr_ _⟩, ⟨bk_ BKc2.out⟩, by repeat (first | exact d0_ _ | apply Drawn0.step)⟩
 clear H'
 try clear c2
 try clear p2
 obtain ⟨a, rfl, HA, q, BKc2, ⟨m1, rfl⟩⟩ := hrel
 cases gk with
 | zero => exact absurd HA.out (by simp [slices_IndexFunc_int_int_83_at_model_Right_1.l0])
 | succ k1 =>
  have H := HA.out
  clear HA
  simp only [slices_IndexFunc_int_int_83_at_model_Right_1.l0] at H
  by_cases c4 : a < (b.length : Int)
  rotate_left
  ·
   rw [ig_ c4] at H
   have c4b0 : decide (a < (b.length : Int)) = false := df_ c4
   clear c4
   obtain rfl := si_ H
   go_wp2
   go_ret
   exact ⟨by first | rfl | (simp; done) | (simp [*]; done), by repeat (first | exact d0_ _ | apply Drawn0.step)⟩
  rw [ip_ c4] at H
  have c4b0 : decide (a < (b.length : Int)) = true := dt_ c4
  clear c4
  by_cases c5 : 0 ≤ a
  rotate_left
  ·
   rw [ig_ c5] at H
   exact ab_ H
  rw [ip_ c5] at H
  have c5b0 : decide (0 ≤ a) = true := dt_ c5
  clear c5
  by_cases c6 : a < (b.length : Int)
  rotate_left
  ·
   rw [ig_ c6] at H
   exact ab_ H
  rw [ip_ c6] at H
  have c6b0 : decide (a < (b.length : Int)) = true := dt_ c6
  clear c6
  replace H := bo_ H
  obtain ⟨s, u, H⟩ := H
  try dsimp only at H
  by_cases c8 : s = true
  ·
   subst c8
   rw [ip_ rfl] at H
   obtain rfl := si_ H
   have p162 : 0 ≤ (a : Int) := dq_
   have d : a < (b.length : Int) := dq_
   obtain ⟨m, g, l⟩ := ai_ p.out a p162 d
   cases g
   replace p162 := et_ p162
   replace d := et_ d
   go_wp2_with (first | (go_at_call 79; (with_reducible refine (model_Right_1.calls (rd b a) B2 c true _ ?side1 u.out).mono ?_); (case side1 => exact bk_ BKc2.out); rintro e w' ⟨rfl, ⟨nd, rfl⟩⟩))
   go_ret
   exact ⟨by first | rfl | (simp; done) | (simp [*]; done), by repeat (first | exact d0_ _ | apply Drawn0.step)⟩
  replace c8 := bf_.mpr c8
  subst c8
  have H1 : (slices_IndexFunc_int_int_83_at_model_Right_1.l0 k1 b (b.length : Int) (wrap64 (a + 1)) c) = some r := by rw [ig_ (show ¬ (false = true) by decide)] at H; exact H
  clear H
  have H := H1
  clear H1
  have H' := a_ H
  clear H
  have p162 : 0 ≤ (a : Int) := dq_
  have d : a < (b.length : Int) := dq_
  obtain ⟨m, g, l⟩ := ai_ p.out a p162 d
  cases g
  replace p162 := et_ p162
  replace d := et_ d
  go_wp2_with (first | (go_at_call 79; (with_reducible refine (model_Right_1.calls (rd b a) B2 c false _ ?side1 u.out).mono ?_); (case side1 => exact bk_ BKc2.out); rintro e w' ⟨rfl, ⟨nd, rfl⟩⟩))
  go_roundg k1
  case measure => have := q.out; omega
  exact ⟨(wrap64 (a + 1)), eq_, H', ⟨by have := q.out; omega⟩, ⟨bk_ BKc2.out⟩, by repeat (first | exact d0_ _ | apply Drawn0.step)⟩

/-! ### slices_ContainsFunc_int_int_60_at_model_Right_1: function 60 -/
def slices_ContainsFunc_int_int_60_at_model_Right_1.f (k : Nat) (c : List Int)  (a : Int) : Option (Bool) := (slices_IndexFunc_int_int_83_at_model_Right_1.f k c a).bind fun b => (some (decide (b ≥ 0)))
theorem slices_ContainsFunc_int_int_60_at_model_Right_1.mono : ∀ a b k, LeO (slices_ContainsFunc_int_int_60_at_model_Right_1.f k a b) (slices_ContainsFunc_int_int_60_at_model_Right_1.f (k + 1) a b) := by
 intro a b k
 unfold slices_ContainsFunc_int_int_60_at_model_Right_1.f
 have m0 := @slices_IndexFunc_int_int_83_at_model_Right_1.mono
 exact leo_
set_option maxHeartbeats 8000000 in
set_option maxRecDepth 100000 in
theorem slices_ContainsFunc_int_int_60_at_model_Right_1.calls (k : Nat) (g : Option Addr) (c0 : Nat) (a : List Int)  (B2 : Nat) (b : Int) (r : Bool) (w : World) (c : Kd.C (Kd.int .i64) w g a.length a) (d : a.length ≤ c0) (hbx2 : w.heap[B2]? = some (.cells #[.int .i64 b] 3 (0, 0))) (h : slices_ContainsFunc_int_int_60_at_model_Right_1.f k a b = some r) :
  Calls Tryz.prog 60 #[.slice g a.length c0, .func (.func 79) #[] #[.pointer (some ⟨B2, 0, none⟩)]] w fun e w' => e = .returned (.bool r) ∧ Drawn0 w w' := by
 have m := a_ c
 have n := a_ d
 clear c d
 have BKc2 := a_ hbx2
 clear hbx2
 unfold slices_ContainsFunc_int_int_60_at_model_Right_1.f at h
 have H := h
 clear h
 replace H := bo_ H
 obtain ⟨l, o, H⟩ := H
 try dsimp only at H
 obtain rfl := si_ H
 go_enter Tryz.func60, Tryz.ntmps60
 go_wp2_with (first | ((with_reducible refine gate_callee (f := 83) rfl ?_); refine goesL_ (some 7) rfl rfl Tryz.func83 kr_ rfl #[.slice g a.length c0, .func (.func 79) #[] #[.pointer (some ⟨B2, 0, none⟩)]] rfl ar_ ?_; (with_reducible refine (slices_IndexFunc_int_int_83_at_model_Right_1.calls k _ _ a B2 b l _ ?side1 ?side2 ?side3 o.out).mono ?_); (case side1 => exact ca_ (m.out)); (case side2 => exact n.out); (case side3 => exact bk_ BKc2.out); rintro e w' ⟨rfl, ⟨nd, rfl⟩⟩; refine ⟨_, rfl, ?_⟩))
 go_ret
 exact ⟨by first | rfl | (simp; done) | (simp [*]; done), by repeat (first | exact d0_ _ | apply Drawn0.step)⟩

/-! ### model_Right: function 57 -/
def model_Right.f (k : Nat) (a : Int) (c : List Int) (d : List Int) (e : List Int) (g : List Int) (l : List Int) (b : Int) (m : List (List Int)) (u : Int) : Option (Int) := (model_Shape.f a).bind fun n => (if n.toList = ([] : List UInt8) then (none) else ((model_counted.f a c d e g l b m n).bind fun o => (if o = true then ((model_alike.f a c d e g l b m).bind fun p => (if p = true then (if b = 0 then ((model_Vars.f k a c d e g l b m).bind fun q => ((slices_ContainsFunc_int_int_60_at_model_Right_1.f k q u).bind fun r => (if r = true then (none) else ((model_numbers.f k a c d e g l b m).bind fun s => (if s = true then ((model_counts.f a c d e g l b m).bind fun t => (if t = true then (some 0) else (none))) else (none)))))) else (none)) else (none))) else (none))))
theorem model_Right.mono : ∀ a b c d e g l m n k, LeO (model_Right.f k a b c d e g l m n) (model_Right.f (k + 1) a b c d e g l m n) := by
 intro a b c d e g l m n k
 unfold model_Right.f
 have m0 := @model_Vars.mono
 have m1 := @model_numbers.mono
 have m2 := @slices_ContainsFunc_int_int_60_at_model_Right_1.mono
 exact leo_
set_option maxHeartbeats 8000000 in
set_option maxRecDepth 100000 in
theorem model_Right.calls (k : Nat) (o : Int) (J : Option Addr) (c0_1 : Nat) (b : List Int) (K : Option Addr) (c0_2 : Nat) (c : List Int) (M : Option Addr) (c0_3 : Nat) (d : List Int) (O : Option Addr) (c0_4 : Nat) (g : List Int) (P : Option Addr) (c0_5 : Nat) (l : List Int) (m : Int) (Q : Option Addr) (c0_7 : Nat) (n : List (List Int)) (a1 : Int) (r : Int) (w : World) (ac : Kd.C (Kd.int .i64) w J b.length b) (ad : b.length ≤ c0_1) (ae : Kd.C (Kd.int .i64) w K c.length c) (af : c.length ≤ c0_2) (ag : Kd.C (Kd.int .i64) w M d.length d) (ah : d.length ≤ c0_3) (ai : Kd.C (Kd.int .i64) w O g.length g) (aj : g.length ≤ c0_4) (ak : Kd.C (Kd.int .i64) w P l.length l) (al : l.length ≤ c0_5) (am : Kd.C (Kd.slice 3 (Kd.int .i64)) w Q n.length n) (an : n.length ≤ c0_7) (h : model_Right.f k o b c d g l m n a1 = some r) :
  Calls Tryz.prog 57 #[.agg #[.int .i64 o, .slice J b.length c0_1, .slice K c.length c0_2, .slice M d.length c0_3, .slice O g.length c0_4, .slice P l.length c0_5, .int .i64 m, .slice Q n.length c0_7], .int .i64 a1] w fun e w' => e = .returned (.int .i64 r) ∧ Below w.heap.size w w' := by
 have hu32 := Tryz.underlying32
 have q := a_ ac
 have s := a_ ad
 clear ac ad
 have u := a_ ae
 have v := a_ af
 clear ae af
 have x := a_ ag
 have y := a_ ah
 clear ag ah
 have z := a_ ai
 have A := a_ aj
 clear ai aj
 have B := a_ ak
 have E := a_ al
 clear ak al
 have F := a_ am
 have G := a_ an
 clear am an
 have HB := a_ (Below.refl w.heap.size w)
 unfold model_Right.f at h
 have H := h
 clear h
 replace H := bo_ H
 obtain ⟨U, A3, H⟩ := H
 try dsimp only at H
 by_cases c4 : U.toList = ([] : List UInt8)
 ·
  rw [ip_ c4] at H
  exact ab_ H
 rw [ig_ c4] at H
 have c4b0 : (U.toList == ([] : List UInt8)) = false := be_.mpr c4
 have c4b1 : (U.toList != ([] : List UInt8)) = true := ni_.mpr c4
 replace H := bo_ H
 obtain ⟨av, A5, H⟩ := H
 try dsimp only at H
 by_cases c6 : av = true
 rotate_left
 ·
  replace c6 := bf_.mpr c6
  subst c6
  have H1 : (none) = some r := by rw [ig_ (show ¬ (false = true) by decide)] at H; exact H
  clear H
  have H := H1
  clear H1
  exact ab_ H
 subst c6
 rw [ip_ rfl] at H
 replace H := bo_ H
 obtain ⟨aw, A7, H⟩ := H
 try dsimp only at H
 by_cases c8 : aw = true
 rotate_left
 ·
  replace c8 := bf_.mpr c8
  subst c8
  have H1 : (none) = some r := by rw [ig_ (show ¬ (false = true) by decide)] at H; exact H
  clear H
  have H := H1
  clear H1
  exact ab_ H
 subst c8
 rw [ip_ rfl] at H
 by_cases c9 : m = 0
 rotate_left
 ·
  rw [ig_ c9] at H
  exact ab_ H
 rw [ip_ c9] at H
 have c9b0 : (m == 0) = true := beq_iff_eq.mpr c9
 have c9b1 : (m != 0) = false := bn_.mpr c9
 clear c9
 replace H := bo_ H
 obtain ⟨Z, aB, H⟩ := H
 try dsimp only at H
 replace H := bo_ H
 obtain ⟨ax, aC, H⟩ := H
 try dsimp only at H
 by_cases c12 : ax = true
 ·
  subst c12
  rw [ip_ rfl] at H
  exact ab_ H
 replace c12 := bf_.mpr c12
 subst c12
 have H1 : ((model_numbers.f k o b c d g l m n).bind fun aa => (if aa = true then ((model_counts.f o b c d g l m n).bind fun ab => (if ab = true then (some 0) else (none))) else (none))) = some r := by rw [ig_ (show ¬ (false = true) by decide)] at H; exact H
 clear H
 have H := H1
 clear H1
 replace H := bo_ H
 obtain ⟨aa, aD, H⟩ := H
 try dsimp only at H
 by_cases c14 : aa = true
 rotate_left
 ·
  replace c14 := bf_.mpr c14
  subst c14
  have H1 : (none) = some r := by rw [ig_ (show ¬ (false = true) by decide)] at H; exact H
  clear H
  have H := H1
  clear H1
  exact ab_ H
 subst c14
 rw [ip_ rfl] at H
 replace H := bo_ H
 obtain ⟨ab, aE, H⟩ := H
 try dsimp only at H
 by_cases c16 : ab = true
 rotate_left
 ·
  replace c16 := bf_.mpr c16
  subst c16
  have H1 : (none) = some r := by rw [ig_ (show ¬ (false = true) by decide)] at H; exact H
  clear H
  have H := H1
  clear H1
  exact ab_ H
 subst c16
 rw [ip_ rfl] at H
 obtain rfl := si_ H
 go_enter Tryz.func57, Tryz.ntmps57
 go_wp2_with (first | ((with_reducible refine gate_dst (N := 2) rfl ?_); refine bxe_ (N := 2) (cs := #[.int .i64 o, .slice J b.length c0_1, .slice K c.length c0_2, .slice M d.length c0_3, .slice O g.length c0_4, .slice P l.length c0_5, .int .i64 m, .slice Q n.length c0_7]) (t := 32) ?_; intro V hg w17 hbox hb; have a := a_ (hbox); have ap := a_ (by rw [hg]; exact (bz_ bel_) : w.heap.size ≤ V); have aF := ap; replace HB := hq_ hb; clear hb hbox hg) | ((with_reducible refine gate_dst (N := 3) rfl ?_); refine bxe_ (N := 3) (cs := #[.int .i64 a1]) (t := 3) ?_; intro I hg w18 hbox hb; have p := a_ (hbox); have aq := a_ (by rw [hg]; exact (bz_ bel_) : w.heap.size ≤ I); have aG := aq; replace HB := hq_ hb; have X := a_ ((by rw [hg]; exact Nat.ne_of_lt (blk_lt (bk_ a.out)) : V ≠ I)); have Y := a_ ((by rw [hg]; exact Nat.ne_of_gt (blk_lt (bk_ a.out)) : I ≠ V)); replace a := a_ (bq_ a.out hb); clear hb hbox hg; have aH := X.out; have aI := Y.out; obtain ⟨_, _, _, _, _, _, _, _, _, _, _, _, _, _, _, _⟩ := cel8_ a.out) | ((with_reducible refine gate_callee (f := 74) rfl ?_); refine goesL_ (some 8) rfl rfl Tryz.func74 kr_ rfl #[.int .i64 o] rfl ar_ ?_; (with_reducible refine (model_Shape.calls o U _ A3.out).mono ?_); rintro e w21 ⟨rfl, hb⟩; refine ⟨_, rfl, ?_⟩; replace a := a_ (bq_ a.out hb); replace p := a_ (bq_ p.out hb); replace HB := hq_ hb; clear hb; obtain ⟨_, _, _, _, _, _, _, _, _, _, _, _, _, _, _, _⟩ := cel8_ a.out) | ((with_reducible refine gate_callee (f := 75) rfl ?_); refine goesL_ (some 15) rfl rfl Tryz.func75 kr_ rfl #[.agg #[.int .i64 o, .slice J b.length c0_1, .slice K c.length c0_2, .slice M d.length c0_3, .slice O g.length c0_4, .slice P l.length c0_5, .int .i64 m, .slice Q n.length c0_7], .string U] rfl ar_ ?_; (with_reducible refine (model_counted.calls o _ _ b _ _ c _ _ d _ _ g _ _ l m _ _ n U true _ ?_ ?_ ?_ ?_ ?_ ?_ ?_ ?_ ?_ ?_ ?_ ?_ A5.out).mono ?_); exact ca_ ((cb_ q.out HB.out)); exact s.out; exact ca_ ((cb_ u.out HB.out)); exact v.out; exact ca_ ((cb_ x.out HB.out)); exact y.out; exact ca_ ((cb_ z.out HB.out)); exact A.out; exact ca_ ((cb_ B.out HB.out)); exact E.out; exact ca_ ((cb_ F.out HB.out)); exact G.out; rintro e w23 ⟨rfl, hb⟩; refine ⟨_, rfl, ?_⟩; replace a := a_ (bq_ a.out hb); replace p := a_ (bq_ p.out hb); replace HB := hq_ hb; clear hb; obtain ⟨_, _, _, _, _, _, _, _, _, _, _, _, _, _, _, _⟩ := cel8_ a.out) | (go_at_call 76; (with_reducible refine (model_alike.calls o _ _ b _ _ c _ _ d _ _ g _ _ l m _ _ n true _ ?_ ?_ ?_ ?_ ?_ ?_ ?_ ?_ ?_ ?_ ?_ ?_ A7.out).mono ?_); exact ca_ ((cb_ q.out HB.out)); exact s.out; exact ca_ ((cb_ u.out HB.out)); exact v.out; exact ca_ ((cb_ x.out HB.out)); exact y.out; exact ca_ ((cb_ z.out HB.out)); exact A.out; exact ca_ ((cb_ B.out HB.out)); exact E.out; exact ca_ ((cb_ F.out HB.out)); exact G.out; rintro e w25 ⟨rfl, hb⟩; replace a := a_ (bq_ a.out hb); replace p := a_ (bq_ p.out hb); replace HB := hq_ hb; clear hb; obtain ⟨_, _, _, _, _, _, _, _, _, _, _, _, _, _, _, _⟩ := cel8_ a.out) | ((with_reducible refine gate_callee (f := 78) rfl ?_); refine goesL_ (some 34) rfl rfl Tryz.func78 kr_ rfl #[.agg #[.int .i64 o, .slice J b.length c0_1, .slice K c.length c0_2, .slice M d.length c0_3, .slice O g.length c0_4, .slice P l.length c0_5, .int .i64 m, .slice Q n.length c0_7]] rfl ar_ ?_; (with_reducible refine (model_Vars.calls k o (fun k_ => k_ < w.heap.size) _ _ b (fun k_ => k_ < w.heap.size) _ _ c _ _ d _ _ g _ _ l m _ _ n Z _ ?_ ?_ ?_ ?_ ?_ ?_ ?_ ?_ ?_ ?_ aB.out).mono ?_); exact Kd.V_mk s.out (Kd.F_below (Kd.C_F (Kd.heap_int .i64) q.out) bel_); exact Kd.V_mk v.out (Kd.F_below (Kd.C_F (Kd.heap_int .i64) u.out) bel_); exact ca_ ((cb_ x.out HB.out)); exact y.out; exact ca_ ((cb_ z.out HB.out)); exact A.out; exact ca_ ((cb_ B.out HB.out)); exact E.out; exact ca_ ((cb_ F.out HB.out)); exact G.out; rintro e w27 ⟨aM, rfl, au, hb⟩; refine ⟨_, rfl, ?_⟩; have W := a_ (Kd.R_lower (Kd.R_newB (rm_ (ok' := fun k_ => True) au (fun _ hk_ => trivial)) (bk_ p.out)) (bz_ bel_)); replace a := a_ (bq_ a.out hb); replace p := a_ (bq_ p.out hb); replace HB := hq_ hb; clear hb au; obtain ⟨ay, az, aA⟩ := Kd.R_slice W.out; subst aA) | ((with_reducible refine gate_callee (f := 60) rfl ?_); refine goesL_ (some 36) rfl rfl Tryz.func60 kr_ rfl #[.slice ay Z.length az, .func (.func 79) #[] #[.pointer (some ⟨I, 0, none⟩)]] rfl ar_ ?_; (with_reducible refine (slices_ContainsFunc_int_int_60_at_model_Right_1.calls k _ _ Z I a1 false _ ?side1 ?side2 ?side3 aC.out).mono ?_); (case side1 => exact ca_ ((rr_ W.out).2.2)); (case side2 => exact (rr_ W.out).2.1); (case side3 => exact bk_ p.out); rintro e w' ⟨rfl, ⟨nd, rfl⟩⟩; refine ⟨_, rfl, ?_⟩; obtain ⟨_, _, _, _, _, _, _, _, _, _, _, _, _, _, _, _⟩ := cel8_ a.out) | ((with_reducible refine gate_callee (f := 80) rfl ?_); refine goesL_ (some 39) rfl rfl Tryz.func80 kr_ rfl #[.agg #[.int .i64 o, .slice J b.length c0_1, .slice K c.length c0_2, .slice M d.length c0_3, .slice O g.length c0_4, .slice P l.length c0_5, .int .i64 m, .slice Q n.length c0_7]] rfl ar_ ?_; (with_reducible refine (model_numbers.calls k o _ _ b _ _ c _ _ d _ _ g _ _ l m _ _ n true _ ?side1 ?side2 ?side3 ?side4 ?side5 ?side6 ?side7 ?side8 ?side9 ?side10 ?side11 ?side12 aD.out).mono ?_); (case side1 => repeat (first | exact (cb_ q.out bel_) | (with_reducible refine Kd.C_alloc ?_ _) | (with_reducible refine Kd.C_drewN ?_ _) | (with_reducible refine Kd.C_drew ?_))); (case side2 => exact s.out); (case side3 => repeat (first | exact (cb_ u.out bel_) | (with_reducible refine Kd.C_alloc ?_ _) | (with_reducible refine Kd.C_drewN ?_ _) | (with_reducible refine Kd.C_drew ?_))); (case side4 => exact v.out); (case side5 => repeat (first | exact (cb_ x.out bel_) | (with_reducible refine Kd.C_alloc ?_ _) | (with_reducible refine Kd.C_drewN ?_ _) | (with_reducible refine Kd.C_drew ?_))); (case side6 => exact y.out); (case side7 => repeat (first | exact (cb_ z.out bel_) | (with_reducible refine Kd.C_alloc ?_ _) | (with_reducible refine Kd.C_drewN ?_ _) | (with_reducible refine Kd.C_drew ?_))); (case side8 => exact A.out); (case side9 => repeat (first | exact (cb_ B.out bel_) | (with_reducible refine Kd.C_alloc ?_ _) | (with_reducible refine Kd.C_drewN ?_ _) | (with_reducible refine Kd.C_drew ?_))); (case side10 => exact E.out); (case side11 => repeat (first | exact (cb_ F.out bel_) | (with_reducible refine Kd.C_alloc ?_ _) | (with_reducible refine Kd.C_drewN ?_ _) | (with_reducible refine Kd.C_drew ?_))); (case side12 => exact G.out); rintro e w30 ⟨rfl, hb⟩; refine ⟨_, rfl, ?_⟩; replace a := a_ (bq_ a.out hb); replace HB := hq_ hb; clear hb; obtain ⟨_, _, _, _, _, _, _, _, _, _, _, _, _, _, _, _⟩ := cel8_ a.out) | (go_at_call 81; (with_reducible refine (model_counts.calls o _ _ b _ _ c _ _ d _ _ g _ _ l m _ _ n true _ ?_ ?_ ?_ ?_ ?_ ?_ ?_ ?_ ?_ ?_ ?_ ?_ aE.out).mono ?_); exact ca_ ((cb_ q.out HB.out)); exact s.out; exact ca_ ((cb_ u.out HB.out)); exact v.out; exact ca_ ((cb_ x.out HB.out)); exact y.out; exact ca_ ((cb_ z.out HB.out)); exact A.out; exact ca_ ((cb_ B.out HB.out)); exact E.out; exact ca_ ((cb_ F.out HB.out)); exact G.out; rintro e w32 ⟨rfl, hb⟩; replace HB := hq_ hb; clear hb))
 go_ret
 exact ⟨er_, bel_⟩

/-! ### dom_Dom_73_at_prop_Fits_1: function 73 -/
def dom_Dom_73_at_prop_Fits_1.l0 : Nat → List (S57) → Int → Int → Option (Int)
 | 0, _, _, _ => none
 | k + 1, b, d, a => if a < d then (if 0 ≤ a then (if a < (b.length : Int) then ((prop_Fits_1.f ((rd_T57 b a).f0) ((rd_T57 b a).f1) ((rd_T57 b a).f2) ((rd_T57 b a).f3) ((rd_T57 b a).f4)).bind fun c => (if c = true then (some a) else (dom_Dom_73_at_prop_Fits_1.l0 k b d (wrap64 (a + 1))))) else (none)) else (none)) else (some (-1))
def dom_Dom_73_at_prop_Fits_1.f (k : Nat) (a : List (S57))  : Option (Int) := dom_Dom_73_at_prop_Fits_1.l0 k a (a.length : Int) 0
theorem dom_Dom_73_at_prop_Fits_1.mono_l : ∀ k, (∀ a b c, LeO (dom_Dom_73_at_prop_Fits_1.l0 k a b c) (dom_Dom_73_at_prop_Fits_1.l0 (k + 1) a b c))
 | 0 => by intros; exact LeO.none _
 | k + 1 => by
  have ih0 := dom_Dom_73_at_prop_Fits_1.mono_l k
  intro a b c
  unfold dom_Dom_73_at_prop_Fits_1.l0
  exact leo_
theorem dom_Dom_73_at_prop_Fits_1.mono : ∀ a k, LeO (dom_Dom_73_at_prop_Fits_1.f k a) (dom_Dom_73_at_prop_Fits_1.f (k + 1) a) := by
 intro a k
 have ih0 := dom_Dom_73_at_prop_Fits_1.mono_l k
 unfold dom_Dom_73_at_prop_Fits_1.f
 exact leo_
set_option maxHeartbeats 8000000 in
set_option maxRecDepth 100000 in
theorem dom_Dom_73_at_prop_Fits_1.calls (k : Nat) (E : Option Addr) (c0 : Nat) (m : List (S57))  (r : Int) (w : World) (x : Kd.C k57 w E m.length m) (y : m.length ≤ c0) (h : dom_Dom_73_at_prop_Fits_1.f k m = some r) :
  Calls Tryz.prog 73 #[.slice E m.length c0, .func (.func 56) #[] #[]] w fun e w' => e = .returned (.int .i64 r) ∧ Below w.heap.size w w' := by
 have hu57 := Tryz.underlying57
 have z := a_ x
 have I := a_ y
 clear x y
 have HB := a_ (Below.refl w.heap.size w)
 unfold dom_Dom_73_at_prop_Fits_1.f at h
 have H := h
 clear h
 have H' := a_ H
 clear H
 go_enter Tryz.func73, Tryz.ntmps73
 go_wp2
 go_loopg [8] k (fun kq G w' => ∃ (a : Int), G = .int .i64 a ∧ Aside0 (dom_Dom_73_at_prop_Fits_1.l0 kq m (m.length : Int) a = some r) ∧ Aside0 (kq ≤ k) ∧ Aside0 (Below w.heap.size w w'))
 case atStart => exact ⟨(0), eq_, H', ⟨lr_ _⟩, ⟨bel_⟩⟩
 clear H'
 try clear p2
 obtain ⟨a, rfl, HA, A, HB⟩ := hrel
 cases gk with
 | zero => exact absurd HA.out (by simp [dom_Dom_73_at_prop_Fits_1.l0])
 | succ k1 =>
  have H := HA.out
  clear HA
  simp only [dom_Dom_73_at_prop_Fits_1.l0] at H
  by_cases c3 : a < (m.length : Int)
  rotate_left
  ·
   rw [ig_ c3] at H
   have c3b0 : decide (a < (m.length : Int)) = false := df_ c3
   clear c3
   obtain rfl := si_ H
   go_wp2
   go_ret
   exact ⟨er_, bel_⟩
  rw [ip_ c3] at H
  have c3b0 : decide (a < (m.length : Int)) = true := dt_ c3
  clear c3
  by_cases c4 : 0 ≤ a
  rotate_left
  ·
   rw [ig_ c4] at H
   exact ab_ H
  rw [ip_ c4] at H
  have c4b0 : decide (0 ≤ a) = true := dt_ c4
  clear c4
  by_cases c5 : a < (m.length : Int)
  rotate_left
  ·
   rw [ig_ c5] at H
   exact ab_ H
  rw [ip_ c5] at H
  have c5b0 : decide (a < (m.length : Int)) = true := dt_ c5
  clear c5
  replace H := bo_ H
  obtain ⟨B, F, H⟩ := H
  try dsimp only at H
  by_cases c7 : B = true
  ·
   subst c7
   rw [ip_ rfl] at H
   obtain rfl := si_ H
   have p176 : 0 ≤ (a : Int) := dq_
   have p : a < (m.length : Int) := dq_
   obtain ⟨v, u, c176_1, t, b, c, d, g, l, n, o⟩ := at_T57 z.out a p176 p
   cases t
   replace b := hx_ HB b
   replace c := hx_ HB c
   replace d := hx_ HB d
   replace g := hx_ HB g
   replace l := hx_ HB l
   have q := a_ o
   have s := a_ n
   clear o n
   replace p176 := et_ p176
   replace p := et_ p
   go_wp2_with (first | (go_at_call 56; (with_reducible refine (prop_Fits_1.calls ((rd_T57 m a).f0) _ _ ((rd_T57 m a).f1) ((rd_T57 m a).f2) ((rd_T57 m a).f3) ((rd_T57 m a).f4) true _ ?_ ?_ F.out).mono ?_); exact ca_ ((cb_ q.out HB.out)); exact s.out; rintro e w8 ⟨rfl, hb⟩; replace HB := hq_ hb; clear hb))
   go_ret
   exact ⟨er_, bel_⟩
  replace c7 := bf_.mpr c7
  subst c7
  have H1 : (dom_Dom_73_at_prop_Fits_1.l0 k1 m (m.length : Int) (wrap64 (a + 1))) = some r := by rw [ig_ (show ¬ (false = true) by decide)] at H; exact H
  clear H
  have H := H1
  clear H1
  have H' := a_ H
  clear H
  have p176 : 0 ≤ (a : Int) := dq_
  have p : a < (m.length : Int) := dq_
  obtain ⟨v, u, c176_1, t, b, c, d, g, l, n, o⟩ := at_T57 z.out a p176 p
  cases t
  replace b := hx_ HB b
  replace c := hx_ HB c
  replace d := hx_ HB d
  replace g := hx_ HB g
  replace l := hx_ HB l
  have q := a_ o
  have s := a_ n
  clear o n
  replace p176 := et_ p176
  replace p := et_ p
  go_wp2_with (first | (go_at_call 56; (with_reducible refine (prop_Fits_1.calls ((rd_T57 m a).f0) _ _ ((rd_T57 m a).f1) ((rd_T57 m a).f2) ((rd_T57 m a).f3) ((rd_T57 m a).f4) false _ ?_ ?_ F.out).mono ?_); exact ca_ ((cb_ q.out HB.out)); exact s.out; rintro e w9 ⟨rfl, hb⟩; replace HB := hq_ hb; clear hb))
  go_roundg k1
  case measure => have := A.out; omega
  exact ⟨(wrap64 (a + 1)), eq_, H', ⟨by have := A.out; omega⟩, ⟨bel_⟩⟩

/-! ### dom_Dom_55_at_prop_Fits_1: function 55 -/
def dom_Dom_55_at_prop_Fits_1.f (k : Nat) (b : List (S57))  : Option (Bool) := (dom_Dom_73_at_prop_Fits_1.f k b).bind fun a => (some (decide (a ≥ 0)))
theorem dom_Dom_55_at_prop_Fits_1.mono : ∀ a k, LeO (dom_Dom_55_at_prop_Fits_1.f k a) (dom_Dom_55_at_prop_Fits_1.f (k + 1) a) := by
 intro a k
 unfold dom_Dom_55_at_prop_Fits_1.f
 have m0 := @dom_Dom_73_at_prop_Fits_1.mono
 exact leo_
set_option maxHeartbeats 8000000 in
set_option maxRecDepth 100000 in
theorem dom_Dom_55_at_prop_Fits_1.calls (k : Nat) (d : Option Addr) (c0 : Nat) (a : List (S57))  (r : Bool) (w : World) (b : Kd.C k57 w d a.length a) (c : a.length ≤ c0) (h : dom_Dom_55_at_prop_Fits_1.f k a = some r) :
  Calls Tryz.prog 55 #[.slice d a.length c0, .func (.func 56) #[] #[]] w fun e w' => e = .returned (.bool r) ∧ Below w.heap.size w w' := by
 have l := a_ b
 have m := a_ c
 clear b c
 have HB := a_ (Below.refl w.heap.size w)
 unfold dom_Dom_55_at_prop_Fits_1.f at h
 have H := h
 clear h
 replace H := bo_ H
 obtain ⟨g, n, H⟩ := H
 try dsimp only at H
 obtain rfl := si_ H
 go_enter Tryz.func55, Tryz.ntmps55
 go_wp2_with (first | ((with_reducible refine gate_callee (f := 73) rfl ?_); refine goesL_ (some 7) rfl rfl Tryz.func73 kr_ rfl #[.slice d a.length c0, .func (.func 56) #[] #[]] rfl ar_ ?_; (with_reducible refine (dom_Dom_73_at_prop_Fits_1.calls k _ _ a g _ ?_ ?_ n.out).mono ?_); exact ca_ (l.out); exact m.out; rintro e w4 ⟨rfl, hb⟩; refine ⟨_, rfl, ?_⟩; replace HB := hq_ hb; clear hb))
 go_ret
 exact ⟨er_, bel_⟩

end Go.Proofs.YtckfbfdnlpnllaaGreatDoor.XAllDiffFixed
