-- by xprint.py, a program of this session, over the kit's print
import Derived.Test.YtckfbfdnlpnllaaGreatDoorXAFxx0
import Derived.Test.YtckfbfdnlpnllaaGreatDoorXAFxx1
import Derived.Test.YtckfbfdnlpnllaaGreatDoorSq
namespace Go.Proofs.YtckfbfdnlpnllaaGreatDoor.XAllDiffFixed
open Go.RowKit Go.Proofs.YtckfbfdnlpnllaaGreatDoor.Sq Go.Proofs.YtckfbfdnlpnllaaGreatDoorW.PrintWords Go.Proofs.YtckfbfdnlpnllaaGreatDoorW.PrintLast Go.Proofs.YtckfbfdnlpnllaaGreatDoorW.PrintMore
attribute [local go_sem] max2_int min2_int max_two min_two max_three min_three max_four min_four   -- for this text's walks alone
set_option linter.unusedVariables false
set_option linter.unusedSimpArgs false

/-! ### model_counted: function 75 -/
def model_counted.f (b : Int) (c : List Int) (d : List Int) (e : List Int) (g : List Int) (l : List Int) (t : Int) (m : List (List Int)) (a : ByteArray) : Option (Bool) := if b = 12 then (none) else ((strings_Contains.f a (⟨#[114]⟩ : ByteArray)).bind fun n => (if n = true then (none) else (if (m.length : Int) = 0 then ((model_named.f (c.length : Int) a (⟨#[118]⟩ : ByteArray) (⟨#[86]⟩ : ByteArray)).bind fun o => (if o = true then ((model_named.f (d.length : Int) a (⟨#[119]⟩ : ByteArray) (⟨#[87]⟩ : ByteArray)).bind fun p => (if p = true then ((model_named.f (e.length : Int) a (⟨#[45]⟩ : ByteArray) (⟨#[99]⟩ : ByteArray)).bind fun q => (if q = true then ((model_named.f (g.length : Int) a (⟨#[45]⟩ : ByteArray) (⟨#[100]⟩ : ByteArray)).bind fun r => (if r = true then ((model_named.f (l.length : Int) a (⟨#[45]⟩ : ByteArray) (⟨#[101]⟩ : ByteArray)).bind fun s => (some s)) else (none))) else (none))) else (none))) else (none))) else (none))))
set_option maxHeartbeats 8000000 in
set_option maxRecDepth 100000 in
theorem model_counted.calls (n : Int) (o : Option Addr) (c0_1 : Nat) (b : List Int) (p : Option Addr) (c0_2 : Nat) (c : List Int) (q : Option Addr) (c0_3 : Nat) (d : List Int) (s : Option Addr) (c0_4 : Nat) (g : List Int) (u : Option Addr) (c0_5 : Nat) (l : List Int) (v : Int) (x : Option Addr) (c0_7 : Nat) (a : List (List Int)) (m : ByteArray) (r : Bool) (w : World) (O : Kd.C (Kd.int .i64) w o b.length b) (F : b.length ≤ c0_1) (P : Kd.C (Kd.int .i64) w p c.length c) (G : c.length ≤ c0_2) (Q : Kd.C (Kd.int .i64) w q d.length d) (I : d.length ≤ c0_3) (U : Kd.C (Kd.int .i64) w s g.length g) (J : g.length ≤ c0_4) (V : Kd.C (Kd.int .i64) w u l.length l) (K : l.length ≤ c0_5) (W : Kd.C (Kd.slice 3 (Kd.int .i64)) w x a.length a) (M : a.length ≤ c0_7) (h : model_counted.f n b c d g l v a m = some r) :
  Calls Tryz.prog 75 #[.agg #[.int .i64 n, .slice o b.length c0_1, .slice p c.length c0_2, .slice q d.length c0_3, .slice s g.length c0_4, .slice u l.length c0_5, .int .i64 v, .slice x a.length c0_7], .string m] w fun e w' => e = .returned (.bool r) ∧ Below w.heap.size w w' := by
 have hu32 := Tryz.underlying32
 have ae := a_ F
 clear O F
 have af := a_ G
 clear P G
 have ag := a_ I
 clear Q I
 have ah := a_ J
 clear U J
 have ai := a_ K
 clear V K
 have aj := a_ M
 clear W M
 have HB := a_ (Below.refl w.heap.size w)
 unfold model_counted.f at h
 have H := h
 clear h
 by_cases c3 : n = 12
 ·
  rw [ip_ c3] at H
  exact ab_ H
 rw [ig_ c3] at H
 have c3b0 : (n == 12) = false := be_.mpr c3
 have c3b1 : (n != 12) = true := ni_.mpr c3
 replace H := bo_ H
 obtain ⟨aa, A4, H⟩ := H
 try dsimp only at H
 by_cases c5 : aa = true
 ·
  subst c5
  rw [ip_ rfl] at H
  exact ab_ H
 replace c5 := bf_.mpr c5
 subst c5
 have H1 : (if (a.length : Int) = 0 then ((model_named.f (b.length : Int) m (⟨#[118]⟩ : ByteArray) (⟨#[86]⟩ : ByteArray)).bind fun y => (if y = true then ((model_named.f (c.length : Int) m (⟨#[119]⟩ : ByteArray) (⟨#[87]⟩ : ByteArray)).bind fun z => (if z = true then ((model_named.f (d.length : Int) m (⟨#[45]⟩ : ByteArray) (⟨#[99]⟩ : ByteArray)).bind fun A => (if A = true then ((model_named.f (g.length : Int) m (⟨#[45]⟩ : ByteArray) (⟨#[100]⟩ : ByteArray)).bind fun B => (if B = true then ((model_named.f (l.length : Int) m (⟨#[45]⟩ : ByteArray) (⟨#[101]⟩ : ByteArray)).bind fun E => (some E)) else (none))) else (none))) else (none))) else (none))) else (none)) = some r := by rw [ig_ (show ¬ (false = true) by decide)] at H; exact H
 clear H
 have H := H1
 clear H1
 by_cases c6 : (a.length : Int) = 0
 rotate_left
 ·
  rw [ig_ c6] at H
  exact ab_ H
 rw [ip_ c6] at H
 have c6b0 : ((a.length : Int) == 0) = true := beq_iff_eq.mpr c6
 have c6b1 : ((a.length : Int) != 0) = false := bn_.mpr c6
 clear c6
 replace H := bo_ H
 obtain ⟨y, A7, H⟩ := H
 try dsimp only at H
 by_cases c8 : y = true
 rotate_left
 ·
  replace c8 := bf_.mpr c8
  subst c8
  have H1 : (none) = some r := by rw [ig_ (show ¬ (false = true) by decide)] at H; exact H
  clear H
  have H := H1
  clear H1
  exact ab_ H
 subst c8
 rw [ip_ rfl] at H
 replace H := bo_ H
 obtain ⟨z, A9, H⟩ := H
 try dsimp only at H
 by_cases c10 : z = true
 rotate_left
 ·
  replace c10 := bf_.mpr c10
  subst c10
  have H1 : (none) = some r := by rw [ig_ (show ¬ (false = true) by decide)] at H; exact H
  clear H
  have H := H1
  clear H1
  exact ab_ H
 subst c10
 rw [ip_ rfl] at H
 replace H := bo_ H
 obtain ⟨A, ab, H⟩ := H
 try dsimp only at H
 by_cases c12 : A = true
 rotate_left
 ·
  replace c12 := bf_.mpr c12
  subst c12
  have H1 : (none) = some r := by rw [ig_ (show ¬ (false = true) by decide)] at H; exact H
  clear H
  have H := H1
  clear H1
  exact ab_ H
 subst c12
 rw [ip_ rfl] at H
 replace H := bo_ H
 obtain ⟨B, ac, H⟩ := H
 try dsimp only at H
 by_cases c14 : B = true
 rotate_left
 ·
  replace c14 := bf_.mpr c14
  subst c14
  have H1 : (none) = some r := by rw [ig_ (show ¬ (false = true) by decide)] at H; exact H
  clear H
  have H := H1
  clear H1
  exact ab_ H
 subst c14
 rw [ip_ rfl] at H
 replace H := bo_ H
 obtain ⟨E, ad, H⟩ := H
 try dsimp only at H
 obtain rfl := si_ H
 go_enter Tryz.func75, Tryz.ntmps75
 go_wp2_with (first | ((with_reducible refine gate_dst (N := 2) rfl ?_); (try (refine gate_guard (by rfl) ?_; dsimp only)); refine bxe_ (N := 2) (cs := #[.int .i64 n, .slice o b.length c0_1, .slice p c.length c0_2, .slice q d.length c0_3, .slice s g.length c0_4, .slice u l.length c0_5, .int .i64 v, .slice x a.length c0_7]) (t := 32) ?_; intro X hg w16 hbox hb; have Y := a_ (hbox); have Z := a_ (by rw [hg]; exact (bz_ bel_) : w.heap.size ≤ X); have ak := Z; replace HB := hq_ hb; clear hb hbox hg; obtain ⟨_, _, _, _, _, _, _, _, _, _, _, _, _, _, _, _⟩ := cel8_ Y.out) | ((with_reducible refine gate_callee (f := 77) rfl ?_); refine goesL_ (some 50) rfl rfl Tryz.func77 kr_ rfl #[.string m, .string (⟨#[114]⟩ : ByteArray)] rfl ar_ ?_; (with_reducible refine (strings_Contains.calls m (⟨#[114]⟩ : ByteArray) false _ A4.out).mono ?_); rintro e w' ⟨rfl, ⟨nd, rfl⟩⟩; refine ⟨_, rfl, ?_⟩) | (go_at_call 90; (with_reducible refine (model_named.calls (b.length : Int) m (⟨#[118]⟩ : ByteArray) (⟨#[86]⟩ : ByteArray) true _ A7.out).mono ?_); rintro e w' ⟨rfl, ⟨nd, rfl⟩⟩) | (go_at_call 90; (with_reducible refine (model_named.calls (c.length : Int) m (⟨#[119]⟩ : ByteArray) (⟨#[87]⟩ : ByteArray) true _ A9.out).mono ?_); rintro e w' ⟨rfl, ⟨nd, rfl⟩⟩) | (go_at_call 90; (with_reducible refine (model_named.calls (d.length : Int) m (⟨#[45]⟩ : ByteArray) (⟨#[99]⟩ : ByteArray) true _ ab.out).mono ?_); rintro e w' ⟨rfl, ⟨nd, rfl⟩⟩) | (go_at_call 90; (with_reducible refine (model_named.calls (g.length : Int) m (⟨#[45]⟩ : ByteArray) (⟨#[100]⟩ : ByteArray) true _ ac.out).mono ?_); rintro e w' ⟨rfl, ⟨nd, rfl⟩⟩) | (go_at_call 90; (with_reducible refine (model_named.calls (l.length : Int) m (⟨#[45]⟩ : ByteArray) (⟨#[101]⟩ : ByteArray) E _ ad.out).mono ?_); rintro e w' ⟨rfl, ⟨nd, rfl⟩⟩))
 go_ret
 exact ⟨er_, bel_⟩

/-! ### model_alike: function 76 -/
def model_alike.f (a : Int) (b : List Int) (c : List Int) (d : List Int) (e : List Int) (g : List Int) (l : Int) (m : List (List Int)) : Option (Bool) := if a = 1 then (none) else (if a = 2 then (none) else (if a = 3 then (none) else (if a = 4 then (none) else (if a = 19 then (none) else (if a = 21 then (none) else (if a = 22 then (none) else (if a = 23 then (none) else (if a = 18 then (none) else (some true)))))))))
set_option maxHeartbeats 8000000 in
set_option maxRecDepth 100000 in
theorem model_alike.calls (a : Int) (n : Option Addr) (c0_1 : Nat) (b : List Int) (o : Option Addr) (c0_2 : Nat) (c : List Int) (p : Option Addr) (c0_3 : Nat) (d : List Int) (q : Option Addr) (c0_4 : Nat) (g : List Int) (s : Option Addr) (c0_5 : Nat) (l : List Int) (u : Int) (v : Option Addr) (c0_7 : Nat) (m : List (List Int)) (r : Bool) (w : World) (F : Kd.C (Kd.int .i64) w n b.length b) (x : b.length ≤ c0_1) (G : Kd.C (Kd.int .i64) w o c.length c) (y : c.length ≤ c0_2) (I : Kd.C (Kd.int .i64) w p d.length d) (z : d.length ≤ c0_3) (J : Kd.C (Kd.int .i64) w q g.length g) (A : g.length ≤ c0_4) (K : Kd.C (Kd.int .i64) w s l.length l) (B : l.length ≤ c0_5) (M : Kd.C (Kd.slice 3 (Kd.int .i64)) w v m.length m) (E : m.length ≤ c0_7) (h : model_alike.f a b c d g l u m = some r) :
  Calls Tryz.prog 76 #[.agg #[.int .i64 a, .slice n b.length c0_1, .slice o c.length c0_2, .slice p d.length c0_3, .slice q g.length c0_4, .slice s l.length c0_5, .int .i64 u, .slice v m.length c0_7]] w fun e w' => e = .returned (.bool r) ∧ Below w.heap.size w w' := by
 have hu32 := Tryz.underlying32
 have U := a_ x
 clear F x
 have V := a_ y
 clear G y
 have W := a_ z
 clear I z
 have X := a_ A
 clear J A
 have Y := a_ B
 clear K B
 have Z := a_ E
 clear M E
 have HB := a_ (Below.refl w.heap.size w)
 unfold model_alike.f at h
 have H := h
 clear h
 by_cases c2 : a = 1
 ·
  rw [ip_ c2] at H
  exact ab_ H
 rw [ig_ c2] at H
 have c2b0 : (a == 1) = false := be_.mpr c2
 have c2b1 : (a != 1) = true := ni_.mpr c2
 by_cases c3 : a = 2
 ·
  rw [ip_ c3] at H
  exact ab_ H
 rw [ig_ c3] at H
 have c3b0 : (a == 2) = false := be_.mpr c3
 have c3b1 : (a != 2) = true := ni_.mpr c3
 by_cases c4 : a = 3
 ·
  rw [ip_ c4] at H
  exact ab_ H
 rw [ig_ c4] at H
 have c4b0 : (a == 3) = false := be_.mpr c4
 have c4b1 : (a != 3) = true := ni_.mpr c4
 by_cases c5 : a = 4
 ·
  rw [ip_ c5] at H
  exact ab_ H
 rw [ig_ c5] at H
 have c5b0 : (a == 4) = false := be_.mpr c5
 have c5b1 : (a != 4) = true := ni_.mpr c5
 by_cases c6 : a = 19
 ·
  rw [ip_ c6] at H
  exact ab_ H
 rw [ig_ c6] at H
 have c6b0 : (a == 19) = false := be_.mpr c6
 have c6b1 : (a != 19) = true := ni_.mpr c6
 by_cases c7 : a = 21
 ·
  rw [ip_ c7] at H
  exact ab_ H
 rw [ig_ c7] at H
 have c7b0 : (a == 21) = false := be_.mpr c7
 have c7b1 : (a != 21) = true := ni_.mpr c7
 by_cases c8 : a = 22
 ·
  rw [ip_ c8] at H
  exact ab_ H
 rw [ig_ c8] at H
 have c8b0 : (a == 22) = false := be_.mpr c8
 have c8b1 : (a != 22) = true := ni_.mpr c8
 by_cases c9 : a = 23
 ·
  rw [ip_ c9] at H
  exact ab_ H
 rw [ig_ c9] at H
 have c9b0 : (a == 23) = false := be_.mpr c9
 have c9b1 : (a != 23) = true := ni_.mpr c9
 by_cases c10 : a = 18
 ·
  rw [ip_ c10] at H
  exact ab_ H
 rw [ig_ c10] at H
 have c10b0 : (a == 18) = false := be_.mpr c10
 have c10b1 : (a != 18) = true := ni_.mpr c10
 obtain rfl := si_ H
 go_enter Tryz.func76, Tryz.ntmps76
 go_wp2_with (first | ((with_reducible refine gate_dst (N := 1) rfl ?_); (try (refine gate_guard (by rfl) ?_; dsimp only)); refine bxe_ (N := 1) (cs := #[.int .i64 a, .slice n b.length c0_1, .slice o c.length c0_2, .slice p d.length c0_3, .slice q g.length c0_4, .slice s l.length c0_5, .int .i64 u, .slice v m.length c0_7]) (t := 32) ?_; intro O hg w11 hbox hb; have P := a_ (hbox); have Q := a_ (by rw [hg]; exact (bz_ bel_) : w.heap.size ≤ O); have aa := Q; replace HB := hq_ hb; clear hb hbox hg; obtain ⟨_, _, _, _, _, _, _, _, _, _, _, _, _, _, _, _⟩ := cel8_ P.out))
 go_ret
 exact ⟨er_, bel_⟩

/-! ### slices_GrowNil: function 104 -/
def slices_GrowNil.f (a : Int) : Option (List Int) := if 0 ≤ a ∧ a ≤ 17592186044415 then some [] else none
theorem infoGrow : (Tryz.prog.info? 3).map (fun i => (i.zero, i.size, i.bytes)) = some (some (.int .i64 0), 1, 8) := by kernel_rfl
theorem slices_GrowNil.calls (a : Int) (r : List Int) (w : World) (h : slices_GrowNil.f a = some r) :
  Calls Tryz.prog 104 #[.slice none 0 0, .int .i64 a] w fun e w' => ∃ v_ : Value, e = .returned v_ ∧ Kd.R (Kd.int .i64) 3 w' w.heap.size (fun _ => True) v_ r ∧ Below w.heap.size w w' := by
 unfold slices_GrowNil.f at h
 by_cases hb : 0 ≤ a ∧ a ≤ 17592186044415
 rotate_left
 · rw [if_neg hb] at h; cases h
 rw [if_pos hb] at h
 obtain rfl := Option.some.inj h
 obtain ⟨h0, h1⟩ := hb
 have d1 : decide (a < 0) = false := decide_eq_false (by omega)
 by_cases hz : a = 0
 ·
  subst hz
  go_enter Tryz.func104, Tryz.ntmps104
  go_wp2
  go_ret
  exact ⟨_, rfl, Kd.R_nil _ _ _ _ _, Below.refl _ _⟩
 have d2 : decide (0 < a) = true := decide_eq_true (by omega)
 have hn : a.toNat * 8 ≤ 140737488355328 := by omega
 clear h
 go_enter Tryz.func104, Tryz.ntmps104
 go_wp2_with ((with_reducible refine gate_builtin (b := .append) (xs := #[.tmp 20, .tmp 21]) rfl ?_); at_builtin; refine Kd.R_append_zeros (Kd.int .i64) (w0 := w) w.heap.size rfl (.tmp 20) (.tmp 21) 30 3 3 (.int .i64 0) 8 rfl Tryz.underlying30 Tryz.underlying3 infoGrow rfl (by decide) (by omega) (.slice none 0 0) [] (0 : Int) a (fun _ => True) rfl rfl rfl (fun _ _ => trivial) (Kd.R_nil _ _ _ _ _) h0 (Below.refl _ _) (Nat.le_refl _) (by simp only [List.length_nil]; omega) ?_; intro c w1 hR hB hG hat; (obtain ⟨d, c1, rfl⟩ := Kd.R_slice hR); have HR := Aside0.mk hR; have HB := Aside0.mk hB; clear hR hB hG hat)
 go_ret
 exact ⟨_, rfl, Kd.R_take HR.out (Nat.zero_le _), HB.out⟩

/-! ### slices_Concat_int_int: function 94 -/
mutual
def slices_Concat_int_int.l0 : Nat → List (List Int) → Int → List (List Int) → Int → Int → Option (List Int)
 | 0, _, _, _, _, _ => none
 | k + 1, d, e, b, c, a => if a < c then (if 0 ≤ a then (if a < (b.length : Int) then (if (wrap64 (e + ((rd_L3 b a).length : Int))) < 0 then (none) else (slices_Concat_int_int.l0 k d (wrap64 (e + ((rd_L3 b a).length : Int))) b c (wrap64 (a + 1)))) else (none)) else (none)) else ((slices_GrowNil.f e).bind fun g => (slices_Concat_int_int.l1 k g d (d.length : Int) 0))
def slices_Concat_int_int.l1 : Nat → List Int → List (List Int) → Int → Int → Option (List Int)
 | 0, _, _, _, _ => none
 | k + 1, d, b, c, a => if a < c then (if 0 ≤ a then (if a < (b.length : Int) then (if d.length + (rd_L3 b a).length < 17592186044416 then (slices_Concat_int_int.l1 k (d ++ (rd_L3 b a)) b c (wrap64 (a + 1))) else (none)) else (none)) else (none)) else (some d)
end
def slices_Concat_int_int.f (k : Nat) (a : List (List Int)) : Option (List Int) := slices_Concat_int_int.l0 k a 0 a (a.length : Int) 0
theorem slices_Concat_int_int.mono_l : ∀ k, (∀ a b c d e, LeO (slices_Concat_int_int.l0 k a b c d e) (slices_Concat_int_int.l0 (k + 1) a b c d e)) ∧ (∀ a b c d, LeO (slices_Concat_int_int.l1 k a b c d) (slices_Concat_int_int.l1 (k + 1) a b c d))
 | 0 => by refine ⟨?_, ?_⟩ <;> (intros; exact LeO.none _)
 | k + 1 => by
  obtain ⟨ih0, ih1⟩ := slices_Concat_int_int.mono_l k
  refine ⟨?_, ?_⟩ <;> intros
  all_goals first | unfold slices_Concat_int_int.l0 | unfold slices_Concat_int_int.l1
  all_goals exact leo_
theorem slices_Concat_int_int.mono : ∀ a k, LeO (slices_Concat_int_int.f k a) (slices_Concat_int_int.f (k + 1) a) := by
 intro a k
 obtain ⟨ih0, ih1⟩ := slices_Concat_int_int.mono_l k
 unfold slices_Concat_int_int.f
 exact leo_
set_option maxHeartbeats 8000000 in
set_option maxRecDepth 100000 in
theorem slices_Concat_int_int.calls (k : Nat) (V : Option Addr) (c0 : Nat) (d : List (List Int)) (r : List Int) (w : World) (G : Kd.C (Kd.slice 3 (Kd.int .i64)) w V d.length d) (I : d.length ≤ c0) (h : slices_Concat_int_int.f k d = some r) :
  Calls Tryz.prog 94 #[.slice V d.length c0] w fun e w' => ∃ J : Value, e = .returned (J) ∧ Kd.R (Kd.int .i64) 3 w' w.heap.size (fun _ => True) J r ∧ Below w.heap.size w w' := by
 have K := a_ G
 have ah := a_ I
 clear G I
 have HB := a_ (Below.refl w.heap.size w)
 unfold slices_Concat_int_int.f at h
 have H := h
 clear h
 have H' := a_ H
 clear H
 go_enter Tryz.func94, Tryz.ntmps94
 go_wp2
 go_loopg [3, 11] k (fun kq v3 W w' => ∃ (g : Int) (c : Int), v3 = .int .i64 g ∧ W = .int .i64 c ∧ Aside0 (slices_Concat_int_int.l0 kq d g d (d.length : Int) c = some r) ∧ Aside0 (kq ≤ k) ∧ Aside0 (Below w.heap.size w w'))
 case atStart => exact ⟨(0), (0), eq_, eq_, H', ⟨lr_ _⟩, ⟨bel_⟩⟩
 clear H'
 obtain ⟨g, c, rfl, rfl, HA, v, HB⟩ := hrel
 cases gk with
 | zero => exact absurd HA.out (by simp [slices_Concat_int_int.l0])
 | succ k1 =>
  have H := HA.out
  clear HA
  simp only [slices_Concat_int_int.l0] at H
  by_cases c2 : c < (d.length : Int)
  ·
   rw [ip_ c2] at H
   have c2b0 : decide (c < (d.length : Int)) = true := dt_ c2
   clear c2
   by_cases c3 : 0 ≤ c
   rotate_left
   ·
    rw [ig_ c3] at H
    exact ab_ H
   rw [ip_ c3] at H
   have c3b0 : decide (0 ≤ c) = true := dt_ c3
   clear c3
   by_cases c4 : c < (d.length : Int)
   rotate_left
   ·
    rw [ig_ c4] at H
    exact ab_ H
   rw [ip_ c4] at H
   have c4b0 : decide (c < (d.length : Int)) = true := dt_ c4
   clear c4
   by_cases c5 : (wrap64 (g + ((rd_L3 d c).length : Int))) < 0
   ·
    rw [ip_ c5] at H
    exact ab_ H
   rw [ig_ c5] at H
   have c5b0 : decide ((wrap64 (g + ((rd_L3 d c).length : Int))) < 0) = false := df_ c5
   clear c5
   have H' := a_ H
   clear H
   have p137 : 0 ≤ (c : Int) := dq_
   have t : c < (d.length : Int) := dq_
   obtain ⟨aa, X, c137_0, O, l, p, x⟩ := at_L3 K.out c p137 t
   cases O
   replace l := hx_ HB l
   have Q := a_ p
   clear x p
   replace p137 := et_ p137
   replace t := et_ t
   go_wp2
   go_roundg k1
   case measure => have := v.out; omega
   exact ⟨(wrap64 (g + ((rd_L3 d c).length : Int))), (wrap64 (c + 1)), eq_, eq_, H', ⟨by have := v.out; omega⟩, ⟨bel_⟩⟩
  rw [ig_ c2] at H
  have c2b0 : decide (c < (d.length : Int)) = false := df_ c2
  clear c2
  replace H := bo_ H
  obtain ⟨z, A6, H⟩ := H
  try dsimp only at H
  have H' := a_ H
  clear H
  go_wp2_with (first | ((with_reducible refine gate_callee (f := 104) rfl ?_); refine goesL_ (some 24) rfl rfl Tryz.func104 kr_ rfl #[.slice none 0 0, .int .i64 g] rfl ar_ ?_; (with_reducible refine (slices_GrowNil.calls g z _ A6.out).mono ?_); rintro e w7 ⟨ae, rfl, M, hb⟩; refine ⟨_, rfl, ?_⟩; have B := a_ (Kd.R_lower M (bz_ bel_)); replace HB := hq_ hb; clear hb M))
  go_loopg [6, 27] k1 (fun kq v6 Y w' => ∃ (n : List Int) (a : Int), Y = .int .i64 a ∧ Aside0 (slices_Concat_int_int.l1 kq n d (d.length : Int) a = some r) ∧ Aside0 (kq ≤ k1) ∧ Aside0 (Kd.R (Kd.int .i64) 3 w' w.heap.size (fun _ => True) v6 n) ∧ Aside0 (Below w.heap.size w w'))
  case atStart => exact ⟨(z), (0), eq_, H', ⟨lr_ _⟩, ⟨vR_ B.out⟩, ⟨bel_⟩⟩
  clear H'
  try clear c1
  try clear p1
  try clear q1
  try clear ai
  try clear c2
  try clear c2b0
  try clear p2
  try clear c3
  try clear c3b0
  try clear c4
  try clear c4b0
  try clear c5
  try clear c5b0
  try clear p6
  try clear l
  try clear p137
  try clear t
  obtain ⟨n, a, rfl, HA, N, HO_6, HB⟩ := hrel
  cases gk with
  | zero => exact absurd HA.out (by simp [slices_Concat_int_int.l1])
  | succ k2 =>
   have H := HA.out
   clear HA
   simp only [slices_Concat_int_int.l1] at H
   by_cases c8 : a < (d.length : Int)
   rotate_left
   ·
    rw [ig_ c8] at H
    have c8b0 : decide (a < (d.length : Int)) = false := df_ c8
    clear c8
    obtain rfl := si_ H
    go_wp2
    go_ret
    exact ⟨_, er_, vR_ HO_6.out, bel_⟩
   rw [ip_ c8] at H
   have c8b0 : decide (a < (d.length : Int)) = true := dt_ c8
   clear c8
   by_cases c9 : 0 ≤ a
   rotate_left
   ·
    rw [ig_ c9] at H
    exact ab_ H
   rw [ip_ c9] at H
   have c9b0 : decide (0 ≤ a) = true := dt_ c9
   clear c9
   by_cases c10 : a < (d.length : Int)
   rotate_left
   ·
    rw [ig_ c10] at H
    exact ab_ H
   rw [ip_ c10] at H
   have c10b0 : decide (a < (d.length : Int)) = true := dt_ c10
   clear c10
   by_cases c11 : n.length + (rd_L3 d a).length < 17592186044416
   rotate_left
   ·
    rw [ig_ c11] at H
    exact ab_ H
   rw [ip_ c11] at H
   have LMc11 := a_ c11
   clear c11
   obtain ⟨A, m⟩ : ∃ y_ : List Int, y_ = (n ++ (rd_L3 d a)) := ⟨_, rfl⟩
   replace H : (slices_Concat_int_int.l1 k2 A d (d.length : Int) (wrap64 (a + 1))) = some r := h2_ H m
   have E := a_ m
   clear m
   have H' := a_ H
   clear H
   have p141 : 0 ≤ (a : Int) := dq_
   have u : a < (d.length : Int) := dq_
   obtain ⟨ab, Z, c141_0, P, o, q, s⟩ := at_L3 K.out a p141 u
   cases P
   replace o := hx_ HB o
   have y := a_ s
   have U := a_ q
   clear s q
   replace p141 := et_ p141
   replace u := et_ u
   go_wp2_with (first | ((with_reducible refine gate_builtin (b := .append) (xs := #[.tmp 31, .tmp 32]) rfl ?_); at_builtin; refine Kd.R_append_rows (Kd.int .i64) (w0 := w) w.heap.size rfl (.tmp 31) (.tmp 32) 30 3 (.int .i64 0) 8 rfl Tryz.underlying30 info3 rfl (by decide) (by omega) u6 n (rd_L3 d a) _ _ _ (fun _ => True) (fun _ => False) rfl rfl ?aO ?aR (fun _ _ h => h) (fun _ h => h.elim) ?aF ?aB ?aS ?aL ?_; (case aR => repeat (first | exact (cb_ y.out HB.out) | (with_reducible refine Kd.C_alloc ?_ _) | (with_reducible refine Kd.C_drewN ?_ _) | (with_reducible refine Kd.C_drew ?_))); (case aB => exact bel_); (case aF => exact (fun _ _ => trivial)); (case aO => exact (vR_ HO_6.out)); (case aS => exact (bz_ bel_)); (case aL => have := LMc11.out; omega); intro ag w12 ho hb hg hat; rw [← E.out] at ho; replace HB := a_ (hb); have F := a_ (ho); clear HO_6; clear ho hb hg hat))
   go_roundg k2
   case measure => have := v.out; have := N.out; omega
   exact ⟨(A), (wrap64 (a + 1)), eq_, H', ⟨by have := v.out; have := N.out; omega⟩, ⟨vR_ F.out⟩, ⟨bel_⟩⟩

/-! ### model_Vars: function 78 -/
def model_Vars.f (k : Nat) (d : Int) (a : List Int) (b : List Int) (e : List Int) (g : List Int) (l : List Int) (m : Int) (n : List (List Int)) : Option (List Int) := (slices_Concat_int_int.f k (([a, b] : List (List Int)))).bind fun c => (some c)
theorem model_Vars.mono : ∀ a b c d e g l m k, LeO (model_Vars.f k a b c d e g l m) (model_Vars.f (k + 1) a b c d e g l m) := by
 intro a b c d e g l m k
 unfold model_Vars.f
 have m0 := @slices_Concat_int_int.mono
 exact leo_
set_option maxHeartbeats 8000000 in
set_option maxRecDepth 100000 in
theorem model_Vars.calls (k : Nat) (y : Int) (P0_1_ : Nat → Prop) (l : Option Addr) (c0_1 : Nat) (c : List Int) (P0_2_ : Nat → Prop) (m : Option Addr) (c0_2 : Nat) (d : List Int) (z : Option Addr) (c0_3 : Nat) (n : List Int) (A : Option Addr) (c0_4 : Nat) (o : List Int) (B : Option Addr) (c0_5 : Nat) (p : List Int) (E : Int) (F : Option Addr) (c0_7 : Nat) (q : List (List Int)) (r : List Int) (w : World) (W : Kd.V (Kd.int .i64) 3 w w.heap.size (fun a => P0_1_ a) (.slice l c.length c0_1) c) (X : Kd.V (Kd.int .i64) 3 w w.heap.size (fun a => P0_2_ a) (.slice m d.length c0_2) d) (Y : Kd.C (Kd.int .i64) w z n.length n) (J : n.length ≤ c0_3) (Z : Kd.C (Kd.int .i64) w A o.length o) (K : o.length ≤ c0_4) (aa : Kd.C (Kd.int .i64) w B p.length p) (O : p.length ≤ c0_5) (ab : Kd.C (Kd.slice 3 (Kd.int .i64)) w F q.length q) (P : q.length ≤ c0_7) (h : model_Vars.f k y c d n o p E q = some r) :
  Calls Tryz.prog 78 #[.agg #[.int .i64 y, .slice l c.length c0_1, .slice m d.length c0_2, .slice z n.length c0_3, .slice A o.length c0_4, .slice B p.length c0_5, .int .i64 E, .slice F q.length c0_7]] w fun e w' => ∃ ae : Value, e = .returned (ae) ∧ Kd.R (Kd.int .i64) 3 w' w.heap.size (fun a => (w.heap.size ≤ a)) ae r ∧ Below w.heap.size w w' := by
 have hu32 := Tryz.underlying32
 have s := a_ (show Kd.V (Kd.int .i64) 3 w w.heap.size (fun a => ((P0_1_ a ∨ P0_2_ a) ∨ w.heap.size ≤ a)) (.slice l c.length c0_1) c from vm_ W (fun a hk => .inl (.inl hk)))
 have u := a_ (show Kd.V (Kd.int .i64) 3 w w.heap.size (fun a => ((P0_1_ a ∨ P0_2_ a) ∨ w.heap.size ≤ a)) (.slice m d.length c0_2) d from vm_ X (fun a hk => .inl (.inr hk)))
 have aj := a_ J
 clear Y J
 have ak := a_ K
 clear Z K
 have al := a_ O
 clear aa O
 have am := a_ P
 clear ab P
 have HB := a_ (Below.refl w.heap.size w)
 unfold model_Vars.f at h
 have H := h
 clear h
 obtain ⟨G, g⟩ : ∃ y_ : List (List Int), y_ = (([c, d] : List (List Int))) := ⟨_, rfl⟩
 replace H : ((slices_Concat_int_int.f k G).bind fun I => (some I)) = some r := h2_ H g
 have Q := a_ g
 clear g
 replace H := bo_ H
 obtain ⟨I, A2, H⟩ := H
 try dsimp only at H
 obtain rfl := si_ H
 go_enter Tryz.func78, Tryz.ntmps78
 go_wp2_with (first | ((with_reducible refine gate_dst (N := 1) rfl ?_); refine bxe_ (N := 1) (cs := #[.int .i64 y, .slice l c.length c0_1, .slice m d.length c0_2, .slice z n.length c0_3, .slice A o.length c0_4, .slice B p.length c0_5, .int .i64 E, .slice F q.length c0_7]) (t := 32) ?_; intro b hg w3 hbox hb; replace s := a_ (vb_ (Kd.V_elderB (vV_ s.out) b (Nat.le_of_eq hg.symm)) hb); replace u := a_ (vb_ (Kd.V_elderB (vV_ u.out) b (Nat.le_of_eq hg.symm)) hb); have U := a_ (hbox); have ac := a_ (by rw [hg]; exact (bz_ bel_) : w.heap.size ≤ b); have an := ac; replace HB := hq_ hb; clear hb hbox hg; obtain ⟨_, _, _, _, _, _, _, _, _, _, _, _, _, _, _, _⟩ := cel8_ U.out) | ((with_reducible refine gate_dst (N := 7) rfl ?_); refine Kd.N_lit (Kd.slice 3 (Kd.int .i64)) _ 30 ?hg (N' := 7) ?hd (xs := ([c, d] : List (List Int))) (inner := [.slice l c.length c0_1, .slice m d.length c0_2]) (ok := (fun a => ((P0_1_ a ∨ P0_2_ a) ∨ w.heap.size ≤ a) ∧ a ≠ b)) (okp := (fun a => ((P0_1_ a ∨ P0_2_ a) ∨ w.heap.size ≤ a) ∧ a ≠ b)) ?hr ?hp (fun _ hk => hk) ((show ∀ a, w3.heap.size ≤ a → (fun a => ((P0_1_ a ∨ P0_2_ a) ∨ w.heap.size ≤ a) ∧ a ≠ b) a from fun a hk => ⟨(.inr (Nat.le_trans (bz_ bel_) hk)), Kd.freshB (bk_ U.out) a hk⟩) _ (lr_ _)) (Below.refl _ _) (lr_ _) (by simp) ?_; (case hd => rfl); (case hg => rfl); (case hr => first | (go_simp; done) | (go_simp; rfl)); (case hp => exact (Reps.one (show Kd.FK (Kd.slice 3 (Kd.int .i64)) _ _ c [.slice l c.length c0_1] from (Kd.FK_slice_mk (Kd.V_reads' (vm_ (ok' := (fun a => ((P0_1_ a ∨ P0_2_ a) ∨ w.heap.size ≤ a) ∧ a ≠ b)) (s.out) (fun a hk => ⟨hk.1, hk.2⟩))).2.1 (Kd.V_F (vm_ (ok' := (fun a => ((P0_1_ a ∨ P0_2_ a) ∨ w.heap.size ≤ a) ∧ a ≠ b)) (s.out) (fun a hk => ⟨hk.1, hk.2⟩))))) (Reps.one (show Kd.FK (Kd.slice 3 (Kd.int .i64)) _ _ d [.slice m d.length c0_2] from (Kd.FK_slice_mk (Kd.V_reads' (vm_ (ok' := (fun a => ((P0_1_ a ∨ P0_2_ a) ∨ w.heap.size ≤ a) ∧ a ≠ b)) (u.out) (fun a hk => ⟨hk.1, hk.2⟩))).2.1 (Kd.V_F (vm_ (ok' := (fun a => ((P0_1_ a ∨ P0_2_ a) ∨ w.heap.size ≤ a) ∧ a ≠ b)) (u.out) (fun a hk => ⟨hk.1, hk.2⟩))))) (Reps.none _ _)))); intro ap w5 x hb hg_ hnew_; clear hg_ hnew_; (first | rw [← Q.out] at x | (simp only [Int.reduceToNat] at x; rw [← Q.out] at x)); have v := a_ (Kd.N_lower x (bz_ bel_)); replace HB := hq_ hb; clear hb x; obtain ⟨ag, ah, ai⟩ := Kd.N_slice v.out; subst ai) | ((with_reducible refine gate_callee (f := 94) rfl ?_); refine goesL_ (some 8) rfl rfl Tryz.func94 kr_ rfl #[.slice ag G.length ah] rfl ar_ ?_; (with_reducible refine (slices_Concat_int_int.calls k _ _ G I _ ?_ ?_ A2.out).mono ?_); exact ca_ ((Kd.N_reads' v.out).2.2); exact (Kd.N_reads' v.out).2.1; rintro e w8 ⟨aq, rfl, af, hb⟩; refine ⟨_, rfl, ?_⟩; have ad := a_ (Kd.R_lower (Kd.R_newM (M := fun a => (w.heap.size ≤ a)) af (bz_ bel_) (fun a h_ => h_)) (bz_ bel_)); replace HB := hq_ hb; clear hb af))
 go_ret
 exact ⟨_, er_, by refine vR_ ?_; exact rm_ ad.out (fun _ hk => hk.1), bel_⟩

/-! ### model_Right_1: function 79 -/
def model_Right_1.f (b : Int) (a : Int) : Option (Bool) := if b < 0 then (some true) else (some (decide (b ≥ a)))
set_option maxHeartbeats 8000000 in
set_option maxRecDepth 100000 in
theorem model_Right_1.calls (a : Int) (B1 : Nat) (b : Int) (r : Bool) (w : World) (hbx1 : w.heap[B1]? = some (.cells #[.int .i64 b] 3 (0, 0))) (h : model_Right_1.f a b = some r) :
  Calls Tryz.prog 79 #[.int .i64 a, .pointer (some ⟨B1, 0, none⟩)] w fun e w' => e = .returned (.bool r) ∧ Drawn0 w w' := by
 have BKc1 := a_ hbx1
 clear hbx1
 unfold model_Right_1.f at h
 have H := h
 clear h
 by_cases c3 : a < 0
 ·
  rw [ip_ c3] at H
  have c3b0 : decide (a < 0) = true := dt_ c3
  clear c3
  obtain rfl := si_ H
  go_enter Tryz.func79, Tryz.ntmps79
  go_wp2
  go_ret
  exact ⟨by first | rfl | (simp; done) | (simp [*]; done), by repeat (first | exact d0_ _ | apply Drawn0.step)⟩
 rw [ig_ c3] at H
 have c3b0 : decide (a < 0) = false := df_ c3
 clear c3
 obtain rfl := si_ H
 obtain ⟨_, _⟩ := cel1_ BKc1.out
 go_enter Tryz.func79, Tryz.ntmps79
 go_wp2
 go_ret
 exact ⟨by first | rfl | (simp; done) | (simp [*]; done), by repeat (first | exact d0_ _ | apply Drawn0.step)⟩

/-! ### model_bounded_1: function 105 -/
def model_bounded_1.f (b : Int) (a : Int) : Option (Bool) := if b < a then (some true) else (some (decide (b > 1000000)))
set_option maxHeartbeats 8000000 in
set_option maxRecDepth 100000 in
theorem model_bounded_1.calls (b : Int) (B1 : Nat) (a : Int) (r : Bool) (w : World) (hbx1 : w.heap[B1]? = some (.cells #[.int .i64 a] 3 (0, 0))) (h : model_bounded_1.f b a = some r) :
  Calls Tryz.prog 105 #[.int .i64 b, .pointer (some ⟨B1, 0, none⟩)] w fun e w' => e = .returned (.bool r) ∧ Drawn0 w w' := by
 have BKc1 := a_ hbx1
 clear hbx1
 unfold model_bounded_1.f at h
 have H := h
 clear h
 by_cases c3 : b < a
 ·
  rw [ip_ c3] at H
  have c3b0 : decide (b < a) = true := dt_ c3
  clear c3
  obtain rfl := si_ H
  obtain ⟨_, _⟩ := cel1_ BKc1.out
  go_enter Tryz.func105, Tryz.ntmps105
  go_wp2
  go_ret
  exact ⟨by first | rfl | (simp; done) | (simp [*]; done), by repeat (first | exact d0_ _ | apply Drawn0.step)⟩
 rw [ig_ c3] at H
 have c3b0 : decide (b < a) = false := df_ c3
 clear c3
 obtain rfl := si_ H
 obtain ⟨_, _⟩ := cel1_ BKc1.out
 go_enter Tryz.func105, Tryz.ntmps105
 go_wp2
 go_ret
 exact ⟨by first | rfl | (simp; done) | (simp [*]; done), by repeat (first | exact d0_ _ | apply Drawn0.step)⟩

/-! ### slices_IndexFunc_int_int_83_at_model_bounded_1: function 83 -/
def slices_IndexFunc_int_int_83_at_model_bounded_1.l0 : Nat → List Int → Int → Int → Int → Option (Int)
 | 0, _, _, _, _ => none
 | k + 1, c, e, b, a => if b < e then (if 0 ≤ b then (if b < (c.length : Int) then ((model_bounded_1.f (rd c b) a).bind fun d => (if d = true then (some b) else (slices_IndexFunc_int_int_83_at_model_bounded_1.l0 k c e (wrap64 (b + 1)) a))) else (none)) else (none)) else (some (-1))
def slices_IndexFunc_int_int_83_at_model_bounded_1.f (k : Nat) (b : List Int)  (a : Int) : Option (Int) := slices_IndexFunc_int_int_83_at_model_bounded_1.l0 k b (b.length : Int) 0 a
theorem slices_IndexFunc_int_int_83_at_model_bounded_1.mono_l : ∀ k, (∀ a b c d, LeO (slices_IndexFunc_int_int_83_at_model_bounded_1.l0 k a b c d) (slices_IndexFunc_int_int_83_at_model_bounded_1.l0 (k + 1) a b c d))
 | 0 => by intros; exact LeO.none _
 | k + 1 => by
  have ih0 := slices_IndexFunc_int_int_83_at_model_bounded_1.mono_l k
  intro a b c d
  unfold slices_IndexFunc_int_int_83_at_model_bounded_1.l0
  exact leo_
theorem slices_IndexFunc_int_int_83_at_model_bounded_1.mono : ∀ a b k, LeO (slices_IndexFunc_int_int_83_at_model_bounded_1.f k a b) (slices_IndexFunc_int_int_83_at_model_bounded_1.f (k + 1) a b) := by
 intro a b k
 have ih0 := slices_IndexFunc_int_int_83_at_model_bounded_1.mono_l k
 unfold slices_IndexFunc_int_int_83_at_model_bounded_1.f
 exact leo_
set_option maxHeartbeats 8000000 in
set_option maxRecDepth 100000 in
theorem slices_IndexFunc_int_int_83_at_model_bounded_1.calls (k : Nat) (t : Option Addr) (c0 : Nat) (b : List Int)  (B2 : Nat) (c : Int) (r : Int) (w : World) (n : Kd.C (Kd.int .i64) w t b.length b) (o : b.length ≤ c0) (hbx2 : w.heap[B2]? = some (.cells #[.int .i64 c] 3 (0, 0))) (h : slices_IndexFunc_int_int_83_at_model_bounded_1.f k b c = some r) :
  Calls Tryz.prog 83 #[.slice t b.length c0, .func (.func 105) #[] #[.pointer (some ⟨B2, 0, none⟩)]] w fun e w' => e = .returned (.int .i64 r) ∧ Drawn0 w w' := by
 have p := a_ n
 have x := a_ o
 clear n o
 have BKc2 := a_ hbx2
 clear hbx2
 unfold slices_IndexFunc_int_int_83_at_model_bounded_1.f at h
 have H := h
 clear h
 have H' := a_ H
 clear H
 go_enter Tryz.func83, Tryz.ntmps83
 go_wp2
 go_loopg [8] k (fun kq v w' => ∃ (a : Int), v = .int .i64 a ∧ Aside0 (slices_IndexFunc_int_int_83_at_model_bounded_1.l0 kq b (b.length : Int) a c = some r) ∧ Aside0 (kq ≤ k) ∧ Aside0 (w'.heap[B2]? = some (.cells #[.int .i64 c] 3 (0, 0))) ∧ Drawn0 w w')
 case atStart => exact ⟨(0), eq_, H', ⟨lr_ _⟩, ⟨bk_ BKc2.out⟩, by repeat (first | exact d0_ _ | apply Drawn0.step)⟩
 clear H'
 try clear c2
 try clear p2
 obtain ⟨a, rfl, HA, q, BKc2, ⟨m1, rfl⟩⟩ := hrel
 cases gk with
 | zero => exact absurd HA.out (by simp [slices_IndexFunc_int_int_83_at_model_bounded_1.l0])
 | succ k1 =>
  have H := HA.out
  clear HA
  simp only [slices_IndexFunc_int_int_83_at_model_bounded_1.l0] at H
  by_cases c4 : a < (b.length : Int)
  rotate_left
  ·
   rw [ig_ c4] at H
   have c4b0 : decide (a < (b.length : Int)) = false := df_ c4
   clear c4
   obtain rfl := si_ H
   go_wp2
   go_ret
   exact ⟨by first | rfl | (simp; done) | (simp [*]; done), by repeat (first | exact d0_ _ | apply Drawn0.step)⟩
  rw [ip_ c4] at H
  have c4b0 : decide (a < (b.length : Int)) = true := dt_ c4
  clear c4
  by_cases c5 : 0 ≤ a
  rotate_left
  ·
   rw [ig_ c5] at H
   exact ab_ H
  rw [ip_ c5] at H
  have c5b0 : decide (0 ≤ a) = true := dt_ c5
  clear c5
  by_cases c6 : a < (b.length : Int)
  rotate_left
  ·
   rw [ig_ c6] at H
   exact ab_ H
  rw [ip_ c6] at H
  have c6b0 : decide (a < (b.length : Int)) = true := dt_ c6
  clear c6
  replace H := bo_ H
  obtain ⟨s, u, H⟩ := H
  try dsimp only at H
  by_cases c8 : s = true
  ·
   subst c8
   rw [ip_ rfl] at H
   obtain rfl := si_ H
   have p152 : 0 ≤ (a : Int) := dq_
   have d : a < (b.length : Int) := dq_
   obtain ⟨m, g, l⟩ := ai_ p.out a p152 d
   cases g
   replace p152 := et_ p152
   replace d := et_ d
   go_wp2_with (first | (go_at_call 105; (with_reducible refine (model_bounded_1.calls (rd b a) B2 c true _ ?side1 u.out).mono ?_); (case side1 => exact bk_ BKc2.out); rintro e w' ⟨rfl, ⟨nd, rfl⟩⟩))
   go_ret
   exact ⟨by first | rfl | (simp; done) | (simp [*]; done), by repeat (first | exact d0_ _ | apply Drawn0.step)⟩
  replace c8 := bf_.mpr c8
  subst c8
  have H1 : (slices_IndexFunc_int_int_83_at_model_bounded_1.l0 k1 b (b.length : Int) (wrap64 (a + 1)) c) = some r := by rw [ig_ (show ¬ (false = true) by decide)] at H; exact H
  clear H
  have H := H1
  clear H1
  have H' := a_ H
  clear H
  have p152 : 0 ≤ (a : Int) := dq_
  have d : a < (b.length : Int) := dq_
  obtain ⟨m, g, l⟩ := ai_ p.out a p152 d
  cases g
  replace p152 := et_ p152
  replace d := et_ d
  go_wp2_with (first | (go_at_call 105; (with_reducible refine (model_bounded_1.calls (rd b a) B2 c false _ ?side1 u.out).mono ?_); (case side1 => exact bk_ BKc2.out); rintro e w' ⟨rfl, ⟨nd, rfl⟩⟩))
  go_roundg k1
  case measure => have := q.out; omega
  exact ⟨(wrap64 (a + 1)), eq_, H', ⟨by have := q.out; omega⟩, ⟨bk_ BKc2.out⟩, by repeat (first | exact d0_ _ | apply Drawn0.step)⟩

/-! ### slices_ContainsFunc_int_int_60_at_model_bounded_1: function 60 -/
def slices_ContainsFunc_int_int_60_at_model_bounded_1.f (k : Nat) (c : List Int)  (a : Int) : Option (Bool) := (slices_IndexFunc_int_int_83_at_model_bounded_1.f k c a).bind fun b => (some (decide (b ≥ 0)))
theorem slices_ContainsFunc_int_int_60_at_model_bounded_1.mono : ∀ a b k, LeO (slices_ContainsFunc_int_int_60_at_model_bounded_1.f k a b) (slices_ContainsFunc_int_int_60_at_model_bounded_1.f (k + 1) a b) := by
 intro a b k
 unfold slices_ContainsFunc_int_int_60_at_model_bounded_1.f
 have m0 := @slices_IndexFunc_int_int_83_at_model_bounded_1.mono
 exact leo_
set_option maxHeartbeats 8000000 in
set_option maxRecDepth 100000 in
theorem slices_ContainsFunc_int_int_60_at_model_bounded_1.calls (k : Nat) (g : Option Addr) (c0 : Nat) (a : List Int)  (B2 : Nat) (b : Int) (r : Bool) (w : World) (c : Kd.C (Kd.int .i64) w g a.length a) (d : a.length ≤ c0) (hbx2 : w.heap[B2]? = some (.cells #[.int .i64 b] 3 (0, 0))) (h : slices_ContainsFunc_int_int_60_at_model_bounded_1.f k a b = some r) :
  Calls Tryz.prog 60 #[.slice g a.length c0, .func (.func 105) #[] #[.pointer (some ⟨B2, 0, none⟩)]] w fun e w' => e = .returned (.bool r) ∧ Drawn0 w w' := by
 have m := a_ c
 have n := a_ d
 clear c d
 have BKc2 := a_ hbx2
 clear hbx2
 unfold slices_ContainsFunc_int_int_60_at_model_bounded_1.f at h
 have H := h
 clear h
 replace H := bo_ H
 obtain ⟨l, o, H⟩ := H
 try dsimp only at H
 obtain rfl := si_ H
 go_enter Tryz.func60, Tryz.ntmps60
 go_wp2_with (first | ((with_reducible refine gate_callee (f := 83) rfl ?_); refine goesL_ (some 7) rfl rfl Tryz.func83 kr_ rfl #[.slice g a.length c0, .func (.func 105) #[] #[.pointer (some ⟨B2, 0, none⟩)]] rfl ar_ ?_; (with_reducible refine (slices_IndexFunc_int_int_83_at_model_bounded_1.calls k _ _ a B2 b l _ ?side1 ?side2 ?side3 o.out).mono ?_); (case side1 => exact ca_ (m.out)); (case side2 => exact n.out); (case side3 => exact bk_ BKc2.out); rintro e w' ⟨rfl, ⟨nd, rfl⟩⟩; refine ⟨_, rfl, ?_⟩))
 go_ret
 exact ⟨by first | rfl | (simp; done) | (simp [*]; done), by repeat (first | exact d0_ _ | apply Drawn0.step)⟩

/-! ### model_bounded: function 95 -/
def model_bounded.f (k : Nat) (b : List Int) (c : Int) : Option (Bool) := (slices_ContainsFunc_int_int_60_at_model_bounded_1.f k b c).bind fun a => (some (!a))
theorem model_bounded.mono : ∀ a b k, LeO (model_bounded.f k a b) (model_bounded.f (k + 1) a b) := by
 intro a b k
 unfold model_bounded.f
 have m0 := @slices_ContainsFunc_int_int_60_at_model_bounded_1.mono
 exact leo_
set_option maxHeartbeats 8000000 in
set_option maxRecDepth 100000 in
theorem model_bounded.calls (k : Nat) (n : Option Addr) (c0 : Nat) (b : List Int) (c : Int) (r : Bool) (w : World) (l : Kd.C (Kd.int .i64) w n b.length b) (m : b.length ≤ c0) (h : model_bounded.f k b c = some r) :
  Calls Tryz.prog 95 #[.slice n b.length c0, .int .i64 c] w fun e w' => e = .returned (.bool r) ∧ Below w.heap.size w w' := by
 have p := a_ l
 have q := a_ m
 clear l m
 have HB := a_ (Below.refl w.heap.size w)
 unfold model_bounded.f at h
 have H := h
 clear h
 replace H := bo_ H
 obtain ⟨o, u, H⟩ := H
 try dsimp only at H
 obtain rfl := si_ H
 go_enter Tryz.func95, Tryz.ntmps95
 go_wp2_with (first | ((with_reducible refine gate_dst (N := 3) rfl ?_); refine bxe_ (N := 3) (cs := #[.int .i64 c]) (t := 3) ?_; intro a hg w4 hbox hb; have d := a_ (hbox); have g := a_ (by rw [hg]; exact (bz_ bel_) : w.heap.size ≤ a); have s := g; replace HB := hq_ hb; clear hb hbox hg) | ((with_reducible refine gate_callee (f := 60) rfl ?_); refine goesL_ (some 7) rfl rfl Tryz.func60 kr_ rfl #[.slice n b.length c0, .func (.func 105) #[] #[.pointer (some ⟨a, 0, none⟩)]] rfl ar_ ?_; (with_reducible refine (slices_ContainsFunc_int_int_60_at_model_bounded_1.calls k _ _ b a c o _ ?side1 ?side2 ?side3 u.out).mono ?_); (case side1 => exact ca_ ((cb_ p.out HB.out))); (case side2 => exact q.out); (case side3 => exact bk_ d.out); rintro e w' ⟨rfl, ⟨nd, rfl⟩⟩; refine ⟨_, rfl, ?_⟩))
 go_ret
 exact ⟨er_, bel_⟩

end Go.Proofs.YtckfbfdnlpnllaaGreatDoor.XAllDiffFixed
