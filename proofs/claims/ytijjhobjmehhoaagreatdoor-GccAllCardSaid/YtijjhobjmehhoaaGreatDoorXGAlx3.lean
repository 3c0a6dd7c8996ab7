-- by xprint.py, a program of this session, over the kit's print
import Derived.Test.YtijjhobjmehhoaaGreatDoorXGAlx0
import Derived.Test.YtijjhobjmehhoaaGreatDoorXGAlx1
import Derived.Test.YtijjhobjmehhoaaGreatDoorXGAlx2
import Derived.Test.YtijjhobjmehhoaaGreatDoorSq
namespace Go.Proofs.YtijjhobjmehhoaaGreatDoor.XGccAll
open Go.RowKit Go.Proofs.YtijjhobjmehhoaaGreatDoor.Sq Go.Proofs.YtijjhobjmehhoaaGreatDoorW.PrintWords Go.Proofs.YtijjhobjmehhoaaGreatDoorW.PrintLast Go.Proofs.YtijjhobjmehhoaaGreatDoorW.PrintMore
attribute [local go_sem] max2_int min2_int max_two min_two max_three min_three max_four min_four   -- for this text's walks alone
set_option linter.unusedVariables false
set_option linter.unusedSimpArgs false

/-! ### model_counts: function 83 -/
def model_counts.l0 : Nat → List Int → Int → Int → Int → List Int → List Int → List Int → List Int → List Int → Int → List (List Int) → Option (Bool)
 | 0, _, _, _, _, _, _, _, _, _, _, _ => none
 | k + 1, n, o, a, d, e, f, g, b, c, l, m => if a < o then (if 0 ≤ a then (if a < (b.length : Int) then (if a < (c.length : Int) then (if (rd b a) > (rd c a) then (some false) else (if a > 0 then (if a < (n.length : Int) then (if 0 ≤ (wrap64 (a - 1)) then (if (wrap64 (a - 1)) < (n.length : Int) then (if (rd n a) = (rd n (wrap64 (a - 1))) then (some false) else (model_counts.l0 k n o (wrap64 (a + 1)) d e f g b c l m)) else (none)) else (none)) else (none)) else (model_counts.l0 k n o (wrap64 (a + 1)) d e f g b c l m))) else (none)) else (none)) else (none)) else (some true)
def model_counts.f (k : Nat) (b : Int) (c : List Int) (d : List Int) (a : List Int) (e : List Int) (g : List Int) (l : Int) (m : List (List Int)) : Option (Bool) := if b = 21 then ((slices_Sorted.f a).bind fun n => (model_counts.l0 k n (a.length : Int) 0 b c d a e g l m)) else (none)
theorem model_counts.mono_l : ∀ k, (∀ b c d e f g l m n o a, LeO (model_counts.l0 k b c d e f g l m n o a) (model_counts.l0 (k + 1) b c d e f g l m n o a))
 | 0 => by intros; exact LeO.none _
 | k + 1 => by
  have ih0 := model_counts.mono_l k
  intro b c d e f g l m n o a
  unfold model_counts.l0
  exact leo_
theorem model_counts.mono : ∀ a b c d e g l m k, LeO (model_counts.f k a b c d e g l m) (model_counts.f (k + 1) a b c d e g l m) := by
 intro a b c d e g l m k
 have ih0 := model_counts.mono_l k
 unfold model_counts.f
 exact leo_
set_option maxHeartbeats 8000000 in
set_option maxRecDepth 100000 in
theorem model_counts.calls (k : Nat) (s : Int) (I : Option Addr) (c0_1 : Nat) (u : List Int) (J : Option Addr) (c0_2 : Nat) (v : List Int) (K : Option Addr) (c0_3 : Nat) (n : List Int) (M : Option Addr) (c0_4 : Nat) (l : List Int) (O : Option Addr) (c0_5 : Nat) (m : List Int) (y : Int) (P : Option Addr) (c0_7 : Nat) (x : List (List Int)) (r : Bool) (w : World) (av : Kd.C (Kd.int .i64) w I u.length u) (ag : u.length ≤ c0_1) (aw : Kd.C (Kd.int .i64) w J v.length v) (ah : v.length ≤ c0_2) (ai : Kd.C (Kd.int .i64) w K n.length n) (aj : n.length ≤ c0_3) (ak : Kd.C (Kd.int .i64) w M l.length l) (al : l.length ≤ c0_4) (am : Kd.C (Kd.int .i64) w O m.length m) (an : m.length ≤ c0_5) (ax : Kd.C (Kd.slice 3 (Kd.int .i64)) w P x.length x) (ao : x.length ≤ c0_7) (h : model_counts.f k s u v n l m y x = some r) :
  Calls Tryz.prog 83 #[.agg #[.int .i64 s, .slice I u.length c0_1, .slice J v.length c0_2, .slice K n.length c0_3, .slice M l.length c0_4, .slice O m.length c0_5, .int .i64 y, .slice P x.length c0_7]] w fun e w' => e = .returned (.bool r) ∧ Below w.heap.size w w' := by
 have hu32 := Tryz.underlying32
 have aC := a_ ag
 clear av ag
 have aD := a_ ah
 clear aw ah
 have X := a_ ai
 have aE := a_ aj
 clear ai aj
 have U := a_ ak
 have aF := a_ al
 clear ak al
 have V := a_ am
 have aG := a_ an
 clear am an
 have aH := a_ ao
 clear ax ao
 have HB := a_ (Below.refl w.heap.size w)
 unfold model_counts.f at h
 have H := h
 clear h
 replace H := gq_ H
 obtain ⟨c2b0, c2b1, H⟩ := H
 replace H := bo_ H
 obtain ⟨c, A3, H⟩ := H
 try dsimp only at H
 have H' := a_ H
 clear H
 go_enter Tryz.func83, Tryz.ntmps83
 go_wp2_with (first | ((with_reducible refine gate_dst (N := 1) rfl ?_); refine bxe_ (N := 1) (cs := #[.int .i64 s, .slice I u.length c0_1, .slice J v.length c0_2, .slice K n.length c0_3, .slice M l.length c0_4, .slice O m.length c0_5, .int .i64 y, .slice P x.length c0_7]) (t := 32) ?_; intro z hg w4 hbox hb; have b := a_ (hbox); have G := a_ (by rw [hg]; exact (bz_ bel_) : w.heap.size ≤ z); have ap := G; replace HB := hq_ hb; clear hb hbox hg; obtain ⟨_, _, _, _, _, _, _, _, _, _, _, _, _, _, _, _⟩ := cel8_ b.out) | (go_at_call 103; (with_reducible refine (slices_Values.calls _ _ _ _).mono ?_); rintro e wv ⟨Bv, rfl, hBv, hcv, hb⟩; have n1_ := a_ (bq_ b.out hb); have n2_ := a_ (bp_ bel_ hb); clear b; clear HB; have b := n1_; have HB := n2_; clear n1_ n2_; clear hb; have HBv := a_ hBv; have HCv := a_ hcv; clear hBv hcv) | (go_at_call 102; (with_reducible refine (slices_Sorted.calls _ _ n c _ _ HBv.out HCv.out ?_ A3.out).mono ?_); exact ca_ ((cb_ X.out HB.out)); rintro e w6 ⟨ad, rfl, Q, hb⟩; have Y := a_ (Kd.R_lower Q (bz_ bel_)); replace b := a_ (bq_ b.out hb); replace HB := hq_ hb; clear hb Q; obtain ⟨_, _, _, _, _, _, _, _, _, _, _, _, _, _, _, _⟩ := cel8_ b.out))
 repeat (go_quiet (first | ((with_reducible refine gate_dst (N := 1) rfl ?_); refine bxe_ (N := 1) (cs := #[.int .i64 s, .slice I u.length c0_1, .slice J v.length c0_2, .slice K n.length c0_3, .slice M l.length c0_4, .slice O m.length c0_5, .int .i64 y, .slice P x.length c0_7]) (t := 32) ?_; intro z hg w4 hbox hb; have b := a_ (hbox); have G := a_ (by rw [hg]; exact (bz_ bel_) : w.heap.size ≤ z); have ap := G; replace HB := hq_ hb; clear hb hbox hg; obtain ⟨_, _, _, _, _, _, _, _, _, _, _, _, _, _, _, _⟩ := cel8_ b.out) | (go_at_call 103; (with_reducible refine (slices_Values.calls _ _ _ _).mono ?_); rintro e wv ⟨Bv, rfl, hBv, hcv, hb⟩; have n1_ := a_ (bq_ b.out hb); have n2_ := a_ (bp_ bel_ hb); clear b; clear HB; have b := n1_; have HB := n2_; clear n1_ n2_; clear hb; have HBv := a_ hBv; have HCv := a_ hcv; clear hBv hcv) | (go_at_call 102; (with_reducible refine (slices_Sorted.calls _ _ n c _ _ HBv.out HCv.out ?_ A3.out).mono ?_); exact ca_ ((cb_ X.out HB.out)); rintro e w6 ⟨ad, rfl, Q, hb⟩; have Y := a_ (Kd.R_lower Q (bz_ bel_)); replace b := a_ (bq_ b.out hb); replace HB := hq_ hb; clear hb Q; obtain ⟨_, _, _, _, _, _, _, _, _, _, _, _, _, _, _, _⟩ := cel8_ b.out)); try go_wp2_with (first | ((with_reducible refine gate_dst (N := 1) rfl ?_); refine bxe_ (N := 1) (cs := #[.int .i64 s, .slice I u.length c0_1, .slice J v.length c0_2, .slice K n.length c0_3, .slice M l.length c0_4, .slice O m.length c0_5, .int .i64 y, .slice P x.length c0_7]) (t := 32) ?_; intro z hg w4 hbox hb; have b := a_ (hbox); have G := a_ (by rw [hg]; exact (bz_ bel_) : w.heap.size ≤ z); have ap := G; replace HB := hq_ hb; clear hb hbox hg; obtain ⟨_, _, _, _, _, _, _, _, _, _, _, _, _, _, _, _⟩ := cel8_ b.out) | (go_at_call 103; (with_reducible refine (slices_Values.calls _ _ _ _).mono ?_); rintro e wv ⟨Bv, rfl, hBv, hcv, hb⟩; have n1_ := a_ (bq_ b.out hb); have n2_ := a_ (bp_ bel_ hb); clear b; clear HB; have b := n1_; have HB := n2_; clear n1_ n2_; clear hb; have HBv := a_ hBv; have HCv := a_ hcv; clear hBv hcv) | (go_at_call 102; (with_reducible refine (slices_Sorted.calls _ _ n c _ _ HBv.out HCv.out ?_ A3.out).mono ?_); exact ca_ ((cb_ X.out HB.out)); rintro e w6 ⟨ad, rfl, Q, hb⟩; have Y := a_ (Kd.R_lower Q (bz_ bel_)); replace b := a_ (bq_ b.out hb); replace HB := hq_ hb; clear hb Q; obtain ⟨_, _, _, _, _, _, _, _, _, _, _, _, _, _, _, _⟩ := cel8_ b.out)))
 go_loopg [15] k (fun kq aB w' => ∃ (a : Int), aB = .int .i64 a ∧ Aside0 (model_counts.l0 kq c (n.length : Int) a s u v n l m y x = some r) ∧ Aside0 (kq ≤ k) ∧ Aside0 (Kd.R (Kd.int .i64) 3 w' w.heap.size (fun _ => True) ad c) ∧ Aside0 (w'.heap[z]? = some (.cells #[.int .i64 s, (.slice I u.length c0_1), (.slice J v.length c0_2), (.slice K n.length c0_3), (.slice M l.length c0_4), (.slice O m.length c0_5), .int .i64 y, (.slice P x.length c0_7)] 32 (0, 0))) ∧ Aside0 (Below w.heap.size w w'))
 case atStart => exact ⟨(0), eq_, H', ⟨lr_ _⟩, ⟨vR_ Y.out⟩, ⟨bk_ b.out⟩, ⟨bel_⟩⟩
 clear H'
 try clear c2
 try clear c2b0
 try clear c2b1
 try clear p2
 obtain ⟨a, rfl, HA, aq, HO_3, b, HB⟩ := hrel
 cases gk with
 | zero => exact absurd HA.out (by simp [model_counts.l0])
 | succ k1 =>
  have H := HA.out
  clear HA
  simp only [model_counts.l0] at H
  replace H := cf_ H
  rcases H with ⟨c8b0, H⟩ | ⟨c8b0, H⟩
  ·
   obtain rfl := si_ H
   go_wp2
   repeat (go_quiet (fail); try go_wp2)
   go_ret
   exact ⟨er_, bel_⟩
  replace H := gu_ H
  obtain ⟨c9b0, H⟩ := H
  replace H := gu_ H
  obtain ⟨c10b0, H⟩ := H
  replace H := gu_ H
  obtain ⟨c11b0, H⟩ := H
  by_cases c12 : (rd l a) > (rd m a)
  ·
   rw [ip_ c12] at H
   have c12b0 : decide ((rd m a) < (rd l a)) = true := dt_ c12
   clear c12
   obtain rfl := si_ H
   obtain ⟨_, _, _, _, _, _, _, _, _, _, _, _, _, _, _, _⟩ := cel8_ b.out
   obtain ⟨Z, A, d, p159, p⟩ := aj_ U HB a
   cases A
   obtain ⟨aa, B, g, p160, q⟩ := aj_ V HB a
   cases B
   go_wp2
   repeat (go_quiet (fail); try go_wp2)
   go_ret
   exact ⟨er_, bel_⟩
  rw [ig_ c12] at H
  have c12b0 : decide ((rd m a) < (rd l a)) = false := df_ c12
  clear c12
  by_cases c14 : a > 0
  rotate_left
  ·
   rw [ig_ c14] at H
   have c14b0 : decide (0 < a) = false := df_ c14
   clear c14
   have H' := a_ H
   clear H
   obtain ⟨_, _, _, _, _, _, _, _, _, _, _, _, _, _, _, _⟩ := cel8_ b.out
   obtain ⟨Z, A, d, p159, p⟩ := aj_ U HB a
   cases A
   obtain ⟨aa, B, g, p160, q⟩ := aj_ V HB a
   cases B
   go_wp2
   repeat (go_quiet (fail); try go_wp2)
   go_roundg k1
   case measure => have := aq.out; omega
   exact ⟨(wrap64 (a + 1)), eq_, H', ⟨by have := aq.out; omega⟩, ⟨vR_ HO_3.out⟩, ⟨bk_ b.out⟩, ⟨bel_⟩⟩
  rw [ip_ c14] at H
  have c14b0 : decide (0 < a) = true := dt_ c14
  clear c14
  replace H := gu_ H
  obtain ⟨c15b0, H⟩ := H
  obtain ⟨o, W⟩ : ∃ j_ : Int, (wrap64 (a - 1)) = j_ := ⟨_, rfl⟩
  replace H : (if 0 ≤ (o) then (if (o) < (c.length : Int) then (if (rd c a) = (rd c (o)) then (some false) else (model_counts.l0 k1 c (n.length : Int) (wrap64 (a + 1)) s u v n l m y x)) else (none)) else (none)) = some r := by first | (rw [W] at H; exact H) | (simp only [W] at H ⊢; exact H)
  have hji16w : (IntKind.i64.wrap (a - 1)) = o := (i64_w _).trans W
  replace H := gu_ H
  obtain ⟨c17b0, H⟩ := H
  replace H := gu_ H
  obtain ⟨c18b0, H⟩ := H
  replace H := ef_ H
  rcases H with ⟨c19, c19b0, c19b1, H⟩ | ⟨-, c19b0, c19b1, H⟩
  ·
   have H' := a_ H
   clear H
   obtain ⟨_, _, _, _, _, _, _, _, _, _, _, _, _, _, _, _⟩ := cel8_ b.out
   obtain ⟨Z, A, d, p159, p⟩ := aj_ U HB a
   cases A
   obtain ⟨aa, B, g, p160, q⟩ := aj_ V HB a
   cases B
   obtain ⟨aK, aL, aA⟩ := Kd.R_slice HO_3.out
   subst aA
   have p161 : 0 ≤ (a : Int) := dq_
   have E : a < (c.length : Int) := dq_
   obtain ⟨ab, ae, ar⟩ := ai_ (rr_ HO_3.out).2.2 a p161 E
   cases ae
   replace p161 := et_ p161
   replace E := et_ E
   have p162 : 0 ≤ ((o) : Int) := dq_
   have F : (o) < (c.length : Int) := dq_
   obtain ⟨ac, af, au⟩ := ai_ (rr_ HO_3.out).2.2 (o) p162 F
   obtain rfl : ab = ac := (by injection af)
   replace p162 := et_ p162
   replace F := et_ F
   go_wp2
   repeat (go_quiet (fail); try go_wp2)
   go_roundg k1
   case measure => have := aq.out; omega
   exact ⟨(wrap64 (a + 1)), eq_, H', ⟨by have := aq.out; omega⟩, ⟨vR_ HO_3.out⟩, ⟨bk_ b.out⟩, ⟨bel_⟩⟩
  obtain rfl := si_ H
  obtain ⟨_, _, _, _, _, _, _, _, _, _, _, _, _, _, _, _⟩ := cel8_ b.out
  obtain ⟨Z, A, d, p159, p⟩ := aj_ U HB a
  cases A
  obtain ⟨aa, B, g, p160, q⟩ := aj_ V HB a
  cases B
  obtain ⟨aI, aJ, az⟩ := Kd.R_slice HO_3.out
  subst az
  have p161 : 0 ≤ (a : Int) := dq_
  have E : a < (c.length : Int) := dq_
  obtain ⟨ab, ae, ar⟩ := ai_ (rr_ HO_3.out).2.2 a p161 E
  cases ae
  replace p161 := et_ p161
  replace E := et_ E
  have p162 : 0 ≤ ((o) : Int) := dq_
  have F : (o) < (c.length : Int) := dq_
  obtain ⟨ac, af, au⟩ := ai_ (rr_ HO_3.out).2.2 (o) p162 F
  obtain rfl : ab = ac := (by injection af)
  replace p162 := et_ p162
  replace F := et_ F
  go_wp2
  repeat (go_quiet (fail); try go_wp2)
  go_ret
  exact ⟨by first | rfl | (simp [errW_none, errW_some] <;> rfl) | (simp only [← W]; first | rfl | (simp [errW_none, errW_some] <;> rfl)) | (simp [*, errW_none, errW_some] <;> rfl), bel_⟩

/-! ### slices_IndexFunc_int_int_87_at_model_Right_1: function 87 -/
def slices_IndexFunc_int_int_87_at_model_Right_1.l0 : Nat → List Int → Int → Int → Int → Option (Int)
 | 0, _, _, _, _ => none
 | k + 1, c, e, b, a => if b < e then (if 0 ≤ b then (if b < (c.length : Int) then ((model_Right_1.f (rd c b) a).bind fun d => (if d = true then (some b) else (slices_IndexFunc_int_int_87_at_model_Right_1.l0 k c e (wrap64 (b + 1)) a))) else (none)) else (none)) else (some (-1))
def slices_IndexFunc_int_int_87_at_model_Right_1.f (k : Nat) (b : List Int)  (a : Int) : Option (Int) := slices_IndexFunc_int_int_87_at_model_Right_1.l0 k b (b.length : Int) 0 a
theorem slices_IndexFunc_int_int_87_at_model_Right_1.mono_l : ∀ k, (∀ a b c d, LeO (slices_IndexFunc_int_int_87_at_model_Right_1.l0 k a b c d) (slices_IndexFunc_int_int_87_at_model_Right_1.l0 (k + 1) a b c d))
 | 0 => by intros; exact LeO.none _
 | k + 1 => by
  have ih0 := slices_IndexFunc_int_int_87_at_model_Right_1.mono_l k
  intro a b c d
  unfold slices_IndexFunc_int_int_87_at_model_Right_1.l0
  exact leo_
theorem slices_IndexFunc_int_int_87_at_model_Right_1.mono : ∀ a b k, LeO (slices_IndexFunc_int_int_87_at_model_Right_1.f k a b) (slices_IndexFunc_int_int_87_at_model_Right_1.f (k + 1) a b) := by
 intro a b k
 have ih0 := slices_IndexFunc_int_int_87_at_model_Right_1.mono_l k
 unfold slices_IndexFunc_int_int_87_at_model_Right_1.f
 exact leo_
set_option maxHeartbeats 8000000 in
set_option maxRecDepth 100000 in
theorem slices_IndexFunc_int_int_87_at_model_Right_1.calls (k : Nat) (t : Option Addr) (c0 : Nat) (b : List Int)  (B2 : Nat) (c : Int) (r : Int) (w : World) (n : Kd.C (Kd.int .i64) w t b.length b) (o : b.length ≤ c0) (hbx2 : w.heap[B2]? = some (.cells #[.int .i64 c] 3 (0, 0))) (h : slices_IndexFunc_int_int_87_at_model_Right_1.f k b c = some r) :
  Calls Tryz.prog 87 #[.slice t b.length c0, .func (.func 81) #[] #[.pointer (some ⟨B2, 0, none⟩)]] w fun e w' => e = .returned (.int .i64 r) ∧ Drawn0 w w' := by
 have p := a_ n
 have x := a_ o
 clear n o
 have BKc2 := a_ hbx2
 clear hbx2
 unfold slices_IndexFunc_int_int_87_at_model_Right_1.f at h
 have H := h
 clear h
 have H' := a_ H
 clear H
 go_enter Tryz.func87, Tryz.ntmps87
 go_wp2
 go_loopg [8] k (fun kq v w' => ∃ (a : Int), v = .int .i64 a ∧ Aside0 (slices_IndexFunc_int_int_87_at_model_Right_1.l0 kq b (b.length : Int) a c = some r) ∧ Aside0 (kq ≤ k) ∧ Aside0 (w'.heap[B2]? = some (.cells #[.int .i64 c] 3 (0, 0))) ∧ Drawn0 w w')
 case atStart => exact ⟨(0), eq_, H', ⟨lr_ _⟩, ⟨bk_ BKc2.out⟩, by repeat (first | exact d0_ _ | apply Drawn0.step)⟩
 clear H'
 try clear c2
 try clear p2
 obtain ⟨a, rfl, HA, q, BKc2, ⟨m1, rfl⟩⟩ := hrel
 cases gk with
 | zero => exact absurd HA.out (by simp [slices_IndexFunc_int_int_87_at_model_Right_1.l0])
 | succ k1 =>
  have H := HA.out
  clear HA
  simp only [slices_IndexFunc_int_int_87_at_model_Right_1.l0] at H
  replace H := cf_ H
  rcases H with ⟨c4b0, H⟩ | ⟨c4b0, H⟩
  ·
   obtain rfl := si_ H
   go_wp2
   go_ret
   exact ⟨by first | rfl | (simp; done) | (simp [*]; done), by repeat (first | exact d0_ _ | apply Drawn0.step)⟩
  replace H := gu_ H
  obtain ⟨c5b0, H⟩ := H
  replace H := gu_ H
  obtain ⟨c6b0, H⟩ := H
  replace H := bo_ H
  obtain ⟨s, u, H⟩ := H
  try dsimp only at H
  replace H := ht_ H
  rcases H with ⟨rfl, H⟩ | ⟨rfl, H⟩
  ·
   obtain rfl := si_ H
   obtain ⟨m, g, l, p163, d⟩ := ak_ p a
   cases g
   go_wp2_with (first | (go_at_call 81; (with_reducible refine (model_Right_1.calls (rd b a) B2 c true _ ?side1 u.out).mono ?_); (case side1 => exact bk_ BKc2.out); rintro e w' ⟨rfl, ⟨nd, rfl⟩⟩))
   go_ret
   exact ⟨by first | rfl | (simp; done) | (simp [*]; done), by repeat (first | exact d0_ _ | apply Drawn0.step)⟩
  have H' := a_ H
  clear H
  obtain ⟨m, g, l, p163, d⟩ := ak_ p a
  cases g
  go_wp2_with (first | (go_at_call 81; (with_reducible refine (model_Right_1.calls (rd b a) B2 c false _ ?side1 u.out).mono ?_); (case side1 => exact bk_ BKc2.out); rintro e w' ⟨rfl, ⟨nd, rfl⟩⟩))
  go_roundg k1
  case measure => have := q.out; omega
  exact ⟨(wrap64 (a + 1)), eq_, H', ⟨by have := q.out; omega⟩, ⟨bk_ BKc2.out⟩, by repeat (first | exact d0_ _ | apply Drawn0.step)⟩

/-! ### slices_ContainsFunc_int_int_61_at_model_Right_1: function 61 -/
def slices_ContainsFunc_int_int_61_at_model_Right_1.f (k : Nat) (c : List Int)  (a : Int) : Option (Bool) := (slices_IndexFunc_int_int_87_at_model_Right_1.f k c a).bind fun b => (some (decide (b ≥ 0)))
theorem slices_ContainsFunc_int_int_61_at_model_Right_1.mono : ∀ a b k, LeO (slices_ContainsFunc_int_int_61_at_model_Right_1.f k a b) (slices_ContainsFunc_int_int_61_at_model_Right_1.f (k + 1) a b) := by
 intro a b k
 unfold slices_ContainsFunc_int_int_61_at_model_Right_1.f
 have m0 := @slices_IndexFunc_int_int_87_at_model_Right_1.mono
 exact leo_
set_option maxHeartbeats 8000000 in
set_option maxRecDepth 100000 in
theorem slices_ContainsFunc_int_int_61_at_model_Right_1.calls (k : Nat) (g : Option Addr) (c0 : Nat) (a : List Int)  (B2 : Nat) (b : Int) (r : Bool) (w : World) (c : Kd.C (Kd.int .i64) w g a.length a) (d : a.length ≤ c0) (hbx2 : w.heap[B2]? = some (.cells #[.int .i64 b] 3 (0, 0))) (h : slices_ContainsFunc_int_int_61_at_model_Right_1.f k a b = some r) :
  Calls Tryz.prog 61 #[.slice g a.length c0, .func (.func 81) #[] #[.pointer (some ⟨B2, 0, none⟩)]] w fun e w' => e = .returned (.bool r) ∧ Drawn0 w w' := by
 have m := a_ c
 have n := a_ d
 clear c d
 have BKc2 := a_ hbx2
 clear hbx2
 unfold slices_ContainsFunc_int_int_61_at_model_Right_1.f at h
 have H := h
 clear h
 replace H := bo_ H
 obtain ⟨l, o, H⟩ := H
 try dsimp only at H
 obtain rfl := si_ H
 go_enter Tryz.func61, Tryz.ntmps61
 go_wp2_with (first | ((with_reducible refine gate_callee (f := 87) rfl ?_); refine goesL_ (some 7) rfl rfl Tryz.func87 kr_ rfl #[.slice g a.length c0, .func (.func 81) #[] #[.pointer (some ⟨B2, 0, none⟩)]] rfl ar_ ?_; (with_reducible refine (slices_IndexFunc_int_int_87_at_model_Right_1.calls k _ _ a B2 b l _ ?side1 ?side2 ?side3 o.out).mono ?_); (case side1 => exact ca_ (m.out)); (case side2 => exact n.out); (case side3 => exact bk_ BKc2.out); rintro e w' ⟨rfl, ⟨nd, rfl⟩⟩; refine ⟨_, rfl, ?_⟩))
 go_ret
 exact ⟨by first | rfl | (simp; done) | (simp [*]; done), by repeat (first | exact d0_ _ | apply Drawn0.step)⟩

/-! ### model_Right: function 57 -/
def model_Right.f (k : Nat) (a : Int) (c : List Int) (d : List Int) (e : List Int) (g : List Int) (l : List Int) (b : Int) (m : List (List Int)) (u : Int) : Option (Int) := (model_Shape.f a).bind fun n => (if n.toList = ([] : List UInt8) then (none) else ((model_counted.f a c d e g l b m n).bind fun o => (if o = true then ((model_alike.f a c d e g l b m).bind fun p => (if p = true then (if b = 0 then ((model_Vars.f k a c d e g l b m).bind fun q => ((slices_ContainsFunc_int_int_61_at_model_Right_1.f k q u).bind fun r => (if r = true then (none) else ((model_numbers.f k a c d e g l b m).bind fun s => (if s = true then ((model_counts.f k a c d e g l b m).bind fun t => (if t = true then (some 0) else (none))) else (none)))))) else (none)) else (none))) else (none))))
theorem model_Right.mono : ∀ a b c d e g l m n k, LeO (model_Right.f k a b c d e g l m n) (model_Right.f (k + 1) a b c d e g l m n) := by
 intro a b c d e g l m n k
 unfold model_Right.f
 have m0 := @model_Vars.mono
 have m1 := @model_counts.mono
 have m2 := @model_numbers.mono
 have m3 := @slices_ContainsFunc_int_int_61_at_model_Right_1.mono
 exact leo_
set_option maxHeartbeats 8000000 in
set_option maxRecDepth 100000 in
theorem model_Right.calls (k : Nat) (o : Int) (J : Option Addr) (c0_1 : Nat) (b : List Int) (K : Option Addr) (c0_2 : Nat) (c : List Int) (M : Option Addr) (c0_3 : Nat) (d : List Int) (O : Option Addr) (c0_4 : Nat) (g : List Int) (P : Option Addr) (c0_5 : Nat) (l : List Int) (m : Int) (Q : Option Addr) (c0_7 : Nat) (n : List (List Int)) (a1 : Int) (r : Int) (w : World) (ac : Kd.C (Kd.int .i64) w J b.length b) (ad : b.length ≤ c0_1) (ae : Kd.C (Kd.int .i64) w K c.length c) (af : c.length ≤ c0_2) (ag : Kd.C (Kd.int .i64) w M d.length d) (ah : d.length ≤ c0_3) (ai : Kd.C (Kd.int .i64) w O g.length g) (aj : g.length ≤ c0_4) (ak : Kd.C (Kd.int .i64) w P l.length l) (al : l.length ≤ c0_5) (am : Kd.C (Kd.slice 3 (Kd.int .i64)) w Q n.length n) (an : n.length ≤ c0_7) (h : model_Right.f k o b c d g l m n a1 = some r) :
  Calls Tryz.prog 57 #[.agg #[.int .i64 o, .slice J b.length c0_1, .slice K c.length c0_2, .slice M d.length c0_3, .slice O g.length c0_4, .slice P l.length c0_5, .int .i64 m, .slice Q n.length c0_7], .int .i64 a1] w fun e w' => e = .returned (.int .i64 r) ∧ Below w.heap.size w w' := by
 have hu32 := Tryz.underlying32
 have q := a_ ac
 have s := a_ ad
 clear ac ad
 have u := a_ ae
 have v := a_ af
 clear ae af
 have x := a_ ag
 have y := a_ ah
 clear ag ah
 have z := a_ ai
 have A := a_ aj
 clear ai aj
 have B := a_ ak
 have E := a_ al
 clear ak al
 have F := a_ am
 have G := a_ an
 clear am an
 have HB := a_ (Below.refl w.heap.size w)
 unfold model_Right.f at h
 have H := h
 clear h
 replace H := bo_ H
 obtain ⟨U, A3, H⟩ := H
 try dsimp only at H
 replace H := gz_ H
 obtain ⟨c4, c4b0, c4b1, H⟩ := H
 replace H := bo_ H
 obtain ⟨av, A5, H⟩ := H
 try dsimp only at H
 replace H := gp_ H
 obtain ⟨rfl, H⟩ := H
 replace H := bo_ H
 obtain ⟨aw, A7, H⟩ := H
 try dsimp only at H
 replace H := gp_ H
 obtain ⟨rfl, H⟩ := H
 replace H := gq_ H
 obtain ⟨c9b0, c9b1, H⟩ := H
 replace H := bo_ H
 obtain ⟨Z, aB, H⟩ := H
 try dsimp only at H
 replace H := bo_ H
 obtain ⟨ax, aC, H⟩ := H
 try dsimp only at H
 replace H := gf_ H
 obtain ⟨rfl, H⟩ := H
 replace H := bo_ H
 obtain ⟨aa, aD, H⟩ := H
 try dsimp only at H
 replace H := gp_ H
 obtain ⟨rfl, H⟩ := H
 replace H := bo_ H
 obtain ⟨ab, aE, H⟩ := H
 try dsimp only at H
 replace H := gp_ H
 obtain ⟨rfl, H⟩ := H
 obtain rfl := si_ H
 go_enter Tryz.func57, Tryz.ntmps57
 go_wp2_with (first | ((with_reducible refine gate_dst (N := 2) rfl ?_); refine bxe_ (N := 2) (cs := #[.int .i64 o, .slice J b.length c0_1, .slice K c.length c0_2, .slice M d.length c0_3, .slice O g.length c0_4, .slice P l.length c0_5, .int .i64 m, .slice Q n.length c0_7]) (t := 32) ?_; intro V hg w17 hbox hb; have a := a_ (hbox); have ap := a_ (by rw [hg]; exact (bz_ bel_) : w.heap.size ≤ V); have aF := ap; replace HB := hq_ hb; clear hb hbox hg) | ((with_reducible refine gate_dst (N := 3) rfl ?_); refine bxe_ (N := 3) (cs := #[.int .i64 a1]) (t := 3) ?_; intro I hg w18 hbox hb; have p := a_ (hbox); have aq := a_ (by rw [hg]; exact (bz_ bel_) : w.heap.size ≤ I); have aG := aq; replace HB := hq_ hb; have X := a_ ((by rw [hg]; exact Nat.ne_of_lt (blk_lt (bk_ a.out)) : V ≠ I)); have Y := a_ ((by rw [hg]; exact Nat.ne_of_gt (blk_lt (bk_ a.out)) : I ≠ V)); replace a := a_ (bq_ a.out hb); clear hb hbox hg; have aH := X.out; have aI := Y.out; obtain ⟨_, _, _, _, _, _, _, _, _, _, _, _, _, _, _, _⟩ := cel8_ a.out) | ((with_reducible refine gate_callee (f := 76) rfl ?_); refine goesL_ (some 8) rfl rfl Tryz.func76 kr_ rfl #[.int .i64 o] rfl ar_ ?_; (with_reducible refine (model_Shape.calls o U _ A3.out).mono ?_); rintro e w21 ⟨rfl, hb⟩; refine ⟨_, rfl, ?_⟩; replace a := a_ (bq_ a.out hb); replace p := a_ (bq_ p.out hb); replace HB := hq_ hb; clear hb; obtain ⟨_, _, _, _, _, _, _, _, _, _, _, _, _, _, _, _⟩ := cel8_ a.out) | ((with_reducible refine gate_callee (f := 77) rfl ?_); refine goesL_ (some 15) rfl rfl Tryz.func77 kr_ rfl #[.agg #[.int .i64 o, .slice J b.length c0_1, .slice K c.length c0_2, .slice M d.length c0_3, .slice O g.length c0_4, .slice P l.length c0_5, .int .i64 m, .slice Q n.length c0_7], .string U] rfl ar_ ?_; (with_reducible refine (model_counted.calls o _ _ b _ _ c _ _ d _ _ g _ _ l m _ _ n U true _ ?_ ?_ ?_ ?_ ?_ ?_ ?_ ?_ ?_ ?_ ?_ ?_ A5.out).mono ?_); exact ca_ ((cb_ q.out HB.out)); exact s.out; exact ca_ ((cb_ u.out HB.out)); exact v.out; exact ca_ ((cb_ x.out HB.out)); exact y.out; exact ca_ ((cb_ z.out HB.out)); exact A.out; exact ca_ ((cb_ B.out HB.out)); exact E.out; exact ca_ ((cb_ F.out HB.out)); exact G.out; rintro e w23 ⟨rfl, hb⟩; refine ⟨_, rfl, ?_⟩; replace a := a_ (bq_ a.out hb); replace p := a_ (bq_ p.out hb); replace HB := hq_ hb; clear hb; obtain ⟨_, _, _, _, _, _, _, _, _, _, _, _, _, _, _, _⟩ := cel8_ a.out) | (go_at_call 78; (with_reducible refine (model_alike.calls o _ _ b _ _ c _ _ d _ _ g _ _ l m _ _ n true _ ?_ ?_ ?_ ?_ ?_ ?_ ?_ ?_ ?_ ?_ ?_ ?_ A7.out).mono ?_); exact ca_ ((cb_ q.out HB.out)); exact s.out; exact ca_ ((cb_ u.out HB.out)); exact v.out; exact ca_ ((cb_ x.out HB.out)); exact y.out; exact ca_ ((cb_ z.out HB.out)); exact A.out; exact ca_ ((cb_ B.out HB.out)); exact E.out; exact ca_ ((cb_ F.out HB.out)); exact G.out; rintro e w25 ⟨rfl, hb⟩; replace a := a_ (bq_ a.out hb); replace p := a_ (bq_ p.out hb); replace HB := hq_ hb; clear hb; obtain ⟨_, _, _, _, _, _, _, _, _, _, _, _, _, _, _, _⟩ := cel8_ a.out) | ((with_reducible refine gate_callee (f := 80) rfl ?_); refine goesL_ (some 34) rfl rfl Tryz.func80 kr_ rfl #[.agg #[.int .i64 o, .slice J b.length c0_1, .slice K c.length c0_2, .slice M d.length c0_3, .slice O g.length c0_4, .slice P l.length c0_5, .int .i64 m, .slice Q n.length c0_7]] rfl ar_ ?_; (with_reducible refine (model_Vars.calls k o (fun k_ => k_ < w.heap.size) _ _ b (fun k_ => k_ < w.heap.size) _ _ c _ _ d _ _ g _ _ l m _ _ n Z _ ?_ ?_ ?_ ?_ ?_ ?_ ?_ ?_ ?_ ?_ aB.out).mono ?_); exact Kd.V_mk s.out (Kd.F_below (Kd.C_F (Kd.heap_int .i64) q.out) bel_); exact Kd.V_mk v.out (Kd.F_below (Kd.C_F (Kd.heap_int .i64) u.out) bel_); exact ca_ ((cb_ x.out HB.out)); exact y.out; exact ca_ ((cb_ z.out HB.out)); exact A.out; exact ca_ ((cb_ B.out HB.out)); exact E.out; exact ca_ ((cb_ F.out HB.out)); exact G.out; rintro e w27 ⟨aM, rfl, au, hb⟩; refine ⟨_, rfl, ?_⟩; have W := a_ (Kd.R_lower (Kd.R_newB (rm_ (ok' := fun k_ => True) au (fun _ hk_ => trivial)) (bk_ p.out)) (bz_ bel_)); replace a := a_ (bq_ a.out hb); replace p := a_ (bq_ p.out hb); replace HB := hq_ hb; clear hb au; obtain ⟨ay, az, aA⟩ := Kd.R_slice W.out; subst aA) | ((with_reducible refine gate_callee (f := 61) rfl ?_); refine goesL_ (some 36) rfl rfl Tryz.func61 kr_ rfl #[.slice ay Z.length az, .func (.func 81) #[] #[.pointer (some ⟨I, 0, none⟩)]] rfl ar_ ?_; (with_reducible refine (slices_ContainsFunc_int_int_61_at_model_Right_1.calls k _ _ Z I a1 false _ ?side1 ?side2 ?side3 aC.out).mono ?_); (case side1 => exact ca_ ((rr_ W.out).2.2)); (case side2 => exact (rr_ W.out).2.1); (case side3 => exact bk_ p.out); rintro e w' ⟨rfl, ⟨nd, rfl⟩⟩; refine ⟨_, rfl, ?_⟩; obtain ⟨_, _, _, _, _, _, _, _, _, _, _, _, _, _, _, _⟩ := cel8_ a.out) | ((with_reducible refine gate_callee (f := 82) rfl ?_); refine goesL_ (some 39) rfl rfl Tryz.func82 kr_ rfl #[.agg #[.int .i64 o, .slice J b.length c0_1, .slice K c.length c0_2, .slice M d.length c0_3, .slice O g.length c0_4, .slice P l.length c0_5, .int .i64 m, .slice Q n.length c0_7]] rfl ar_ ?_; (with_reducible refine (model_numbers.calls k o _ _ b _ _ c _ _ d _ _ g _ _ l m _ _ n true _ ?side1 ?side2 ?side3 ?side4 ?side5 ?side6 ?side7 ?side8 ?side9 ?side10 ?side11 ?side12 aD.out).mono ?_); (case side1 => repeat (first | exact (cb_ q.out bel_) | (with_reducible refine Kd.C_alloc ?_ _) | (with_reducible refine Kd.C_drewN ?_ _) | (with_reducible refine Kd.C_drew ?_))); (case side2 => exact s.out); (case side3 => repeat (first | exact (cb_ u.out bel_) | (with_reducible refine Kd.C_alloc ?_ _) | (with_reducible refine Kd.C_drewN ?_ _) | (with_reducible refine Kd.C_drew ?_))); (case side4 => exact v.out); (case side5 => repeat (first | exact (cb_ x.out bel_) | (with_reducible refine Kd.C_alloc ?_ _) | (with_reducible refine Kd.C_drewN ?_ _) | (with_reducible refine Kd.C_drew ?_))); (case side6 => exact y.out); (case side7 => repeat (first | exact (cb_ z.out bel_) | (with_reducible refine Kd.C_alloc ?_ _) | (with_reducible refine Kd.C_drewN ?_ _) | (with_reducible refine Kd.C_drew ?_))); (case side8 => exact A.out); (case side9 => repeat (first | exact (cb_ B.out bel_) | (with_reducible refine Kd.C_alloc ?_ _) | (with_reducible refine Kd.C_drewN ?_ _) | (with_reducible refine Kd.C_drew ?_))); (case side10 => exact E.out); (case side11 => repeat (first | exact (cb_ F.out bel_) | (with_reducible refine Kd.C_alloc ?_ _) | (with_reducible refine Kd.C_drewN ?_ _) | (with_reducible refine Kd.C_drew ?_))); (case side12 => exact G.out); rintro e w30 ⟨rfl, hb⟩; refine ⟨_, rfl, ?_⟩; replace a := a_ (bq_ a.out hb); replace HB := hq_ hb; clear hb; obtain ⟨_, _, _, _, _, _, _, _, _, _, _, _, _, _, _, _⟩ := cel8_ a.out) | (go_at_call 83; (with_reducible refine (model_counts.calls k o _ _ b _ _ c _ _ d _ _ g _ _ l m _ _ n true _ ?_ ?_ ?_ ?_ ?_ ?_ ?_ ?_ ?_ ?_ ?_ ?_ aE.out).mono ?_); exact ca_ ((cb_ q.out HB.out)); exact s.out; exact ca_ ((cb_ u.out HB.out)); exact v.out; exact ca_ ((cb_ x.out HB.out)); exact y.out; exact ca_ ((cb_ z.out HB.out)); exact A.out; exact ca_ ((cb_ B.out HB.out)); exact E.out; exact ca_ ((cb_ F.out HB.out)); exact G.out; rintro e w32 ⟨rfl, hb⟩; replace HB := hq_ hb; clear hb))
 go_ret
 exact ⟨er_, bel_⟩

end Go.Proofs.YtijjhobjmehhoaaGreatDoor.XGccAll
