-- by xprint.py, a program of this session, over the kit's print
import Derived.Test.YtckfbfdnlpnllaaGreatDoorXAFxx0
import Derived.Test.YtckfbfdnlpnllaaGreatDoorXAFxx3
import Derived.Test.YtckfbfdnlpnllaaGreatDoorSq
namespace Go.Proofs.YtckfbfdnlpnllaaGreatDoor.XAllDiffFixed
open Go.RowKit Go.Proofs.YtckfbfdnlpnllaaGreatDoor.Sq Go.Proofs.YtckfbfdnlpnllaaGreatDoorW.PrintWords Go.Proofs.YtckfbfdnlpnllaaGreatDoorW.PrintLast Go.Proofs.YtckfbfdnlpnllaaGreatDoorW.PrintMore
attribute [local go_sem] max2_int min2_int max_two min_two max_three min_three max_four min_four   -- for this text's walks alone
set_option linter.unusedVariables false
set_option linter.unusedSimpArgs false

/-! ### prop_Fits: function 29 -/
def prop_Fits.f (k : Nat) (a : Int) (b : List Int) (c : List Int) (d : List Int) (e : List Int) (g : List Int) (l : Int) (m : List (List Int)) (p : List (S57)) (q : Int) (r : Int) : Option (Bool) := (dom_Dom_55_at_prop_Fits_1.f k p).bind fun n => (if a ≥ q then (if a ≤ r then ((model_Right.f k a b c d e g l m 256).bind fun o => (if o = 0 then (if (p.length : Int) = (wrap64 ((b.length : Int) + (c.length : Int))) then (some (!n)) else (none)) else (none))) else (none)) else (none))
theorem prop_Fits.mono : ∀ b c d e g l m n o p a k, LeO (prop_Fits.f k b c d e g l m n o p a) (prop_Fits.f (k + 1) b c d e g l m n o p a) := by
 intro b c d e g l m n o p a k
 unfold prop_Fits.f
 have m0 := @dom_Dom_55_at_prop_Fits_1.mono
 have m1 := @model_Right.mono
 exact leo_
set_option maxHeartbeats 8000000 in
set_option maxRecDepth 100000 in
theorem prop_Fits.calls (k : Nat) (c : Int) (s : Option Addr) (c0_1 : Nat) (a : List Int) (u : Option Addr) (c0_2 : Nat) (b : List Int) (v : Option Addr) (c0_3 : Nat) (g : List Int) (x : Option Addr) (c0_4 : Nat) (l : List Int) (y : Option Addr) (c0_5 : Nat) (m : List Int) (p : Int) (z : Option Addr) (c0_7 : Nat) (n : List (List Int)) (A1 : Option Addr) (c1 : Nat) (o : List (S57)) (U : Int) (V : Int) (r : Bool) (w : World) (A : Kd.C (Kd.int .i64) w s a.length a) (B : a.length ≤ c0_1) (E : Kd.C (Kd.int .i64) w u b.length b) (F : b.length ≤ c0_2) (G : Kd.C (Kd.int .i64) w v g.length g) (I : g.length ≤ c0_3) (J : Kd.C (Kd.int .i64) w x l.length l) (K : l.length ≤ c0_4) (M : Kd.C (Kd.int .i64) w y m.length m) (O : m.length ≤ c0_5) (P : Kd.C (Kd.slice 3 (Kd.int .i64)) w z n.length n) (Q : n.length ≤ c0_7) (ak : Kd.C k57 w A1 o.length o) (al : o.length ≤ c1) (h : prop_Fits.f k c a b g l m p n o U V = some r) :
  Calls Tryz.prog 29 #[.agg #[.int .i64 c, .slice s a.length c0_1, .slice u b.length c0_2, .slice v g.length c0_3, .slice x l.length c0_4, .slice y m.length c0_5, .int .i64 p, .slice z n.length c0_7], .slice A1 o.length c1, .int .i64 U, .int .i64 V] w fun e w' => e = .returned (.bool r) ∧ Below w.heap.size w w' := by
 have hu32 := Tryz.underlying32
 have W := a_ A
 have X := a_ B
 clear A B
 have Y := a_ E
 have Z := a_ F
 clear E F
 have aa := a_ G
 have ab := a_ I
 clear G I
 have ac := a_ J
 have ad := a_ K
 clear J K
 have ae := a_ M
 have af := a_ O
 clear M O
 have ag := a_ P
 have ah := a_ Q
 clear P Q
 have ao := a_ ak
 have ap := a_ al
 clear ak al
 have HB := a_ (Below.refl w.heap.size w)
 unfold prop_Fits.f at h
 have H := h
 clear h
 replace H := bo_ H
 obtain ⟨an, A5, H⟩ := H
 try dsimp only at H
 by_cases c6 : c ≥ U
 rotate_left
 ·
  rw [ig_ c6] at H
  exact ab_ H
 rw [ip_ c6] at H
 have c6b0 : decide (U ≤ c) = true := dt_ c6
 clear c6
 by_cases c7 : c ≤ V
 rotate_left
 ·
  rw [ig_ c7] at H
  exact ab_ H
 rw [ip_ c7] at H
 have c7b0 : decide (c ≤ V) = true := dt_ c7
 clear c7
 replace H := bo_ H
 obtain ⟨q, A8, H⟩ := H
 try dsimp only at H
 by_cases c9 : q = 0
 rotate_left
 ·
  rw [ig_ c9] at H
  exact ab_ H
 rw [ip_ c9] at H
 have c9b0 : (q == 0) = true := beq_iff_eq.mpr c9
 have c9b1 : (q != 0) = false := bn_.mpr c9
 clear c9
 by_cases c10 : (o.length : Int) = (wrap64 ((a.length : Int) + (b.length : Int)))
 rotate_left
 ·
  rw [ig_ c10] at H
  exact ab_ H
 rw [ip_ c10] at H
 have c10b0 : ((o.length : Int) == (wrap64 ((a.length : Int) + (b.length : Int)))) = true := beq_iff_eq.mpr c10
 have c10b1 : ((o.length : Int) != (wrap64 ((a.length : Int) + (b.length : Int)))) = false := bn_.mpr c10
 clear c10
 obtain rfl := si_ H
 go_enter Tryz.func29, Tryz.ntmps29
 go_wp2_with (first | ((with_reducible refine gate_dst (N := 4) rfl ?_); (try (refine gate_guard (by rfl) ?_; dsimp only)); refine bxe_ (N := 4) (cs := #[.int .i64 c, .slice s a.length c0_1, .slice u b.length c0_2, .slice v g.length c0_3, .slice x l.length c0_4, .slice y m.length c0_5, .int .i64 p, .slice z n.length c0_7]) (t := 32) ?_; intro ai hg w11 hbox hb; have d := a_ (hbox); have aj := a_ (by rw [hg]; exact (bz_ bel_) : w.heap.size ≤ ai); have aq := aj; replace HB := hq_ hb; clear hb hbox hg) | ((with_reducible refine gate_callee (f := 55) rfl ?_); refine goesL_ (some 11) rfl rfl Tryz.func55 kr_ rfl #[.slice A1 o.length c1, .func (.func 56) #[] #[]] rfl ar_ ?_; (with_reducible refine (dom_Dom_55_at_prop_Fits_1.calls k _ _ o an _ ?_ ?_ A5.out).mono ?_); exact ca_ ((cb_ ao.out HB.out)); exact ap.out; rintro e w12 ⟨rfl, hb⟩; refine ⟨_, rfl, ?_⟩; replace d := a_ (bq_ d.out hb); replace HB := hq_ hb; clear hb; obtain ⟨_, _, _, _, _, _, _, _, _, _, _, _, _, _, _, _⟩ := cel8_ d.out) | (go_at_call 57; (with_reducible refine (model_Right.calls k c _ _ a _ _ b _ _ g _ _ l _ _ m p _ _ n 256 q _ ?_ ?_ ?_ ?_ ?_ ?_ ?_ ?_ ?_ ?_ ?_ ?_ A8.out).mono ?_); exact ca_ ((cb_ W.out HB.out)); exact X.out; exact ca_ ((cb_ Y.out HB.out)); exact Z.out; exact ca_ ((cb_ aa.out HB.out)); exact ab.out; exact ca_ ((cb_ ac.out HB.out)); exact ad.out; exact ca_ ((cb_ ae.out HB.out)); exact af.out; exact ca_ ((cb_ ag.out HB.out)); exact ah.out; rintro e w14 ⟨rfl, hb⟩; replace d := a_ (bq_ d.out hb); replace HB := hq_ hb; clear hb; obtain ⟨_, _, _, _, _, _, _, _, _, _, _, _, _, _, _, _⟩ := cel8_ d.out))
 go_ret
 exact ⟨er_, bel_⟩

/-! ### dom_Dom_Min: function 99 -/
def dom_Dom_Min.f (b : Int) (c : List Int) (a : Int) (d : Int) (e : Int) : Option (Int) := some a
set_option maxHeartbeats 8000000 in
set_option maxRecDepth 100000 in
theorem dom_Dom_Min.calls (b : Int) (c : Option Addr) (c0_1 : Nat) (a : List Int) (d : Int) (g : Int) (l : Int) (r : Int) (w : World) (n : Kd.C (Kd.int .u64) w c a.length a) (m : a.length ≤ c0_1) (h : dom_Dom_Min.f b a d g l = some r) :
  Calls Tryz.prog 99 #[.agg #[.int .i64 b, .slice c a.length c0_1, .int .i64 d, .int .i64 g, .int .i64 l]] w fun e w' => e = .returned (.int .i64 r) ∧ Below w.heap.size w w' := by
 have hu57 := Tryz.underlying57
 have s := a_ m
 clear n m
 have HB := a_ (Below.refl w.heap.size w)
 unfold dom_Dom_Min.f at h
 have H := h
 clear h
 obtain rfl := si_ H
 go_enter Tryz.func99, Tryz.ntmps99
 go_wp2_with (first | ((with_reducible refine gate_dst (N := 1) rfl ?_); refine bxe_ (N := 1) (cs := #[.int .i64 b, .slice c a.length c0_1, .int .i64 d, .int .i64 g, .int .i64 l]) (t := 57) ?_; intro o hg w2 hbox hb; have p := a_ (hbox); have q := a_ (by rw [hg]; exact (bz_ bel_) : w.heap.size ≤ o); have u := q; replace HB := hq_ hb; clear hb hbox hg; obtain ⟨_, _, _, _, _, _, _, _, _, _⟩ := cel5_ p.out))
 go_ret
 exact ⟨er_, bel_⟩

/-! ### dom_in: function 49 -/
def dom_in.f (a : Int) : Option (Bool) := if a ≥ (-1000000) then (some (decide (a ≤ 1000000))) else (some false)
set_option maxHeartbeats 8000000 in
set_option maxRecDepth 100000 in
theorem dom_in.calls (a : Int) (r : Bool) (w : World) (h : dom_in.f a = some r) :
  Calls Tryz.prog 49 #[.int .i64 a] w fun e w' => e = .returned (.bool r) ∧ Drawn0 w w' := by
 unfold dom_in.f at h
 have H := h
 clear h
 by_cases c2 : a ≥ (-1000000)
 ·
  rw [ip_ c2] at H
  have c2b0 : decide ((-1000000) ≤ a) = true := dt_ c2
  clear c2
  obtain rfl := si_ H
  go_enter Tryz.func49, Tryz.ntmps49
  go_wp2
  go_ret
  exact ⟨by first | rfl | (simp; done) | (simp [*]; done), by repeat (first | exact d0_ _ | apply Drawn0.step)⟩
 rw [ig_ c2] at H
 have c2b0 : decide ((-1000000) ≤ a) = false := df_ c2
 clear c2
 obtain rfl := si_ H
 go_enter Tryz.func49, Tryz.ntmps49
 go_wp2
 go_ret
 exact ⟨by first | rfl | (simp; done) | (simp [*]; done), by repeat (first | exact d0_ _ | apply Drawn0.step)⟩

/-! ### dom_Dom_word: function 50 -/
def dom_Dom_word.f (a : Int) (b : List Int) (d : Int) (e : Int) (g : Int) (c : Int) : Option (Int) := if c < a then (some 0) else (if (wrap64 (Int.tdiv (wrap64 (c - a)) 64)) ≥ (b.length : Int) then (some 0) else (if 0 ≤ (wrap64 (Int.tdiv (wrap64 (c - a)) 64)) then (if (wrap64 (Int.tdiv (wrap64 (c - a)) 64)) < (b.length : Int) then (some (rd b (wrap64 (Int.tdiv (wrap64 (c - a)) 64)))) else (none)) else (none)))
set_option maxHeartbeats 8000000 in
set_option maxRecDepth 100000 in
theorem dom_Dom_word.calls (b : Int) (n : Option Addr) (c0_1 : Nat) (a : List Int) (o : Int) (p : Int) (q : Int) (u : Int) (r : Int) (w : World) (x : Kd.C (Kd.int .u64) w n a.length a) (y : a.length ≤ c0_1) (h : dom_Dom_word.f b a o p q u = some r) :
  Calls Tryz.prog 50 #[.agg #[.int .i64 b, .slice n a.length c0_1, .int .i64 o, .int .i64 p, .int .i64 q], .int .i64 u] w fun e w' => e = .returned (.int .u64 r) ∧ Below w.heap.size w w' := by
 have hu57 := Tryz.underlying57
 have A := a_ x
 have E := a_ y
 clear x y
 have HB := a_ (Below.refl w.heap.size w)
 unfold dom_Dom_word.f at h
 have H := h
 clear h
 by_cases c3 : u < b
 ·
  rw [ip_ c3] at H
  have c3b0 : decide (u < b) = true := dt_ c3
  clear c3
  obtain rfl := si_ H
  go_enter Tryz.func50, Tryz.ntmps50
  go_wp2_with (first | ((with_reducible refine gate_dst (N := 2) rfl ?_); (try (refine gate_guard (by rfl) ?_; dsimp only)); refine bxe_ (N := 2) (cs := #[.int .i64 b, .slice n a.length c0_1, .int .i64 o, .int .i64 p, .int .i64 q]) (t := 57) ?_; intro d hg w4 hbox hb; have g := a_ (hbox); have l := a_ (by rw [hg]; exact (bz_ bel_) : w.heap.size ≤ d); have z := l; replace HB := hq_ hb; clear hb hbox hg; obtain ⟨_, _, _, _, _, _, _, _, _, _⟩ := cel5_ g.out))
  go_ret
  exact ⟨er_, bel_⟩
 rw [ig_ c3] at H
 have c3b0 : decide (u < b) = false := df_ c3
 clear c3
 by_cases c6 : (wrap64 (Int.tdiv (wrap64 (u - b)) 64)) ≥ (a.length : Int)
 ·
  rw [ip_ c6] at H
  have c6b0 : decide ((a.length : Int) ≤ (wrap64 (Int.tdiv (wrap64 (u - b)) 64))) = true := dt_ c6
  clear c6
  obtain rfl := si_ H
  go_enter Tryz.func50, Tryz.ntmps50
  go_wp2_with (first | ((with_reducible refine gate_dst (N := 2) rfl ?_); (try (refine gate_guard (by rfl) ?_; dsimp only)); refine bxe_ (N := 2) (cs := #[.int .i64 b, .slice n a.length c0_1, .int .i64 o, .int .i64 p, .int .i64 q]) (t := 57) ?_; intro d hg w7 hbox hb; have g := a_ (hbox); have l := a_ (by rw [hg]; exact (bz_ bel_) : w.heap.size ≤ d); have z := l; replace HB := hq_ hb; clear hb hbox hg; obtain ⟨_, _, _, _, _, _, _, _, _, _⟩ := cel5_ g.out))
  go_ret
  exact ⟨er_, bel_⟩
 rw [ig_ c6] at H
 have c6b0 : decide ((a.length : Int) ≤ (wrap64 (Int.tdiv (wrap64 (u - b)) 64))) = false := df_ c6
 clear c6
 obtain ⟨c, s⟩ : ∃ j_ : Int, (wrap64 (Int.tdiv (wrap64 (u - b)) 64)) = j_ := ⟨_, rfl⟩
 replace H : (if 0 ≤ (c) then (if (c) < (a.length : Int) then (some (rd a (c))) else (none)) else (none)) = some r := by first | (rw [s] at H; exact H) | (simp only [s] at H ⊢; exact H)
 (try rw [s] at c6b0)
 have hji9w : (IntKind.i64.wrap (Int.tdiv (wrap64 (u - b)) 64)) = c := (i64_w _).trans s
 by_cases c10 : 0 ≤ (c)
 rotate_left
 ·
  rw [ig_ c10] at H
  exact ab_ H
 rw [ip_ c10] at H
 have c10b0 : decide (0 ≤ (c)) = true := dt_ c10
 clear c10
 by_cases c11 : (c) < (a.length : Int)
 rotate_left
 ·
  rw [ig_ c11] at H
  exact ab_ H
 rw [ip_ c11] at H
 have c11b0 : decide ((c) < (a.length : Int)) = true := dt_ c11
 clear c11
 obtain rfl := si_ H
 go_enter Tryz.func50, Tryz.ntmps50
 go_wp2_with (first | ((with_reducible refine gate_dst (N := 2) rfl ?_); (try (refine gate_guard (by rfl) ?_; dsimp only)); refine bxe_ (N := 2) (cs := #[.int .i64 b, .slice n a.length c0_1, .int .i64 o, .int .i64 p, .int .i64 q]) (t := 57) ?_; intro d hg w12 hbox hb; have g := a_ (hbox); have l := a_ (by rw [hg]; exact (bz_ bel_) : w.heap.size ≤ d); have z := l; replace HB := hq_ hb; clear hb hbox hg; obtain ⟨_, _, _, _, _, _, _, _, _, _⟩ := cel5_ g.out; have p184 : 0 ≤ ((c) : Int) := dq_; have v : (c) < (a.length : Int) := dq_; obtain ⟨F, B, m⟩ := ai_ A.out (c) p184 v; cases B; replace m := hx_ HB m; replace p184 := et_ p184; replace v := et_ v))
 go_ret
 exact ⟨by first | rfl | (simp [errW_none, errW_some] <;> rfl) | (simp only [← s]; first | rfl | (simp [errW_none, errW_some] <;> rfl)) | (simp [*, errW_none, errW_some] <;> rfl), bel_⟩

/-! ### dom_place: function 51 -/
def dom_place.f (a : Int) : Option (Int) := some (Go.bits .andNot .i64 a 63)
set_option maxHeartbeats 8000000 in
set_option maxRecDepth 100000 in
theorem dom_place.calls (a : Int) (r : Int) (w : World) (h : dom_place.f a = some r) :
  Calls Tryz.prog 51 #[.int .i64 a] w fun e w' => e = .returned (.int .i64 r) ∧ Drawn0 w w' := by
 unfold dom_place.f at h
 have H := h
 clear h
 obtain rfl := si_ H
 go_enter Tryz.func51, Tryz.ntmps51
 go_wp2
 go_ret
 exact ⟨by first | rfl | (simp; done) | (simp [*]; done), by repeat (first | exact d0_ _ | apply Drawn0.step)⟩

/-! ### dom_Dom_Has: function 23 -/
def dom_Dom_Has.f (c : Int) (d : List Int) (e : Int) (g : Int) (l : Int) (a : Int) : Option (Bool) := (dom_in.f a).bind fun m => (if m = true then ((dom_place.f a).bind fun n => ((dom_Dom_word.f c d e g l n).bind fun o => ((dom_place.f a).bind fun b => (if 0 ≤ (wrap64 (a - b)) then (some ((Go.bits .and .u64 (shr .u64 o (wrap64 (a - b))) 1) == 1)) else (none))))) else (some false))
def dom_Dom_Has.T1 : Bool × List (List Nat × List Nat) := (true, [([], []), ([0], [0]), ([1, 1], [1]), ([2], [2]), ([2], [2]), ([4, 2, 2], [2, 4]), ([3, 5, 5, 2], [2, 3, 5]), ([2], [2]), ([2], [2]), ([8, 6, 2], [2, 8]), ([7, 9, 2], [2, 7, 9]), ([6, 10, 2], [2, 6, 10]), ([11, 2], [2, 11]), ([12, 2], [2, 12]), ([2, 13], [2, 13]), ([14, 9, 0, 1, 2, 3, 4, 5, 6, 7, 8, 9, 10, 11, 12, 13, 14], [14])])
def dom_Dom_Has.B1 : List Nat := [0, 1, 3, 7, 7, 23, 63, 7, 7, 383, 1023, 2047, 4095, 8191, 16383, 32767]
theorem dom_Dom_Has.tab1 : rtab .any (opsOf Tryz.f23 1) = dom_Dom_Has.T1 := by kernel_rfl
theorem dom_Dom_Has.bits1 : waitsOk dom_Dom_Has.T1.2 dom_Dom_Has.B1 = true := by kernel_rfl
set_option maxHeartbeats 8000000 in
set_option maxRecDepth 100000 in
theorem dom_Dom_Has.calls (l : Int) (s : Option Addr) (c0_1 : Nat) (d : List Int) (m : Int) (o : Int) (p : Int) (u : Int) (r : Bool) (w : World) (B : Kd.C (Kd.int .u64) w s d.length d) (E : d.length ≤ c0_1) (h : dom_Dom_Has.f l d m o p u = some r) :
  Calls Tryz.prog 23 #[.agg #[.int .i64 l, .slice s d.length c0_1, .int .i64 m, .int .i64 o, .int .i64 p], .int .i64 u] w fun e w' => e = .returned (.bool r) ∧ Below w.heap.size w w' := by
 have hu57 := Tryz.underlying57
 have F := a_ B
 have G := a_ E
 clear B E
 have HB := a_ (Below.refl w.heap.size w)
 unfold dom_Dom_Has.f at h
 have H := h
 clear h
 replace H := bo_ H
 obtain ⟨M, I, H⟩ := H
 try dsimp only at H
 by_cases c4 : M = true
 rotate_left
 ·
  replace c4 := bf_.mpr c4
  subst c4
  have H1 : (some false) = some r := by rw [ig_ (show ¬ (false = true) by decide)] at H; exact H
  clear H
  have H := H1
  clear H1
  obtain rfl := si_ H
  go_enter Tryz.func23, Tryz.ntmps23
  try go_wp2_with (first | ((with_reducible refine gate_dst (N := 2) rfl ?_); refine bxe_ (N := 2) (cs := #[.int .i64 l, .slice s d.length c0_1, .int .i64 m, .int .i64 o, .int .i64 p]) (t := 57) ?_; intro c hg w14 hbox hb; have x := a_ (by rw [hg]; exact (bz_ bel_) : w.heap.size ≤ c); have J := x; replace HB := hq_ hb; clear hb hbox hg))
  replace HB := a_ (below_drew1 HB.out)
  refine start_ (n := 16) (S := fun w' => True) (ds := []) #[false, false, false, false, false, false, false, false, false, false, false, false, false, false, false, false] kr_ rfl rfl trivial (fun hHeld => ?_); refine with_tabW dom_Dom_Has.tab1 dom_Dom_Has.bits1 (fun HT_ HW_ => ?_)
  generalize w14.drew = w15 at HB hHeld ⊢
  refine pn_ 0 5 ao_ ?_
  refine onn_ 1 6 #[true, true, false, false, false, false, false, false, false, false, false, false, false, false, false, false] rfl rfl on_ (by decide) (fun K hK => ?_)
  refine goes_ Tryz.func49 kr_ rfl #[.int .i64 u] (by rfl) rfl rfl ar_ ?_
  with_reducible refine (dom_in.calls u false _ I.out).mono ?_
  rintro e w' ⟨rfl, ⟨nd, rfl⟩⟩
  refine ⟨_, rfl, ?_⟩
  refine hK.out _ _ trivial (fun hHeld => ?_)
  clear hK K
  refine nor_ (N := some 6) ?_
  refine pn_ 2 7 ao_ ?_
  refine und_ (i := 3) (N := some 8) ao_ ?_
  refine und_ (i := 4) (N := some 9) ao_ ?_
  refine und_ (i := 5) (N := some 10) ao_ ?_
  refine und_ (i := 6) (N := some 11) ao_ ?_
  refine und_ (i := 7) (N := some 12) ao_ ?_
  refine und_ (i := 8) (N := some 13) ao_ ?_
  refine und_ (i := 9) (N := some 14) ao_ ?_
  refine und_ (i := 10) (N := some 15) ao_ ?_
  refine und_ (i := 11) (N := some 16) ao_ ?_
  refine und_ (i := 12) (N := some 17) ao_ ?_
  refine und_ (i := 13) (N := some 18) ao_ ?_
  refine pn_ 14 19 ao_ ?_
  refine pn_ 15 4 ao_ ?_
  refine done_ dn_ ?_
  try go_wp2
  go_ret
  exact ⟨er_, bel_⟩
 subst c4
 rw [ip_ rfl] at H
 replace H := bo_ H
 obtain ⟨y, O, H⟩ := H
 try dsimp only at H
 replace H := bo_ H
 obtain ⟨v, P, H⟩ := H
 try dsimp only at H
 replace H := bo_ H
 obtain ⟨z, Q, H⟩ := H
 try dsimp only at H
 obtain ⟨q, g⟩ : ∃ j_ : Int, (wrap64 (u - z)) = j_ := ⟨_, rfl⟩
 replace H : (if 0 ≤ (q) then (some ((Go.bits .and .u64 (shr .u64 v (q)) 1) == 1)) else (none)) = some r := by first | (rw [g] at H; exact H) | (simp only [g] at H ⊢; exact H)
 (try rw [g] at I)
 (try rw [g] at O)
 (try rw [g] at P)
 (try rw [g] at Q)
 have hji8w : (IntKind.i64.wrap (u - z)) = q := (i64_w _).trans g
 by_cases c9 : 0 ≤ (q)
 rotate_left
 ·
  rw [ig_ c9] at H
  exact ab_ H
 rw [ip_ c9] at H
 have c9b0 := et_ c9
 have c9b1 : decide (0 ≤ (q)) = true := dt_ c9
 clear c9
 obtain ⟨A, b⟩ : ∃ j_ : Int, (shr .u64 v (q)) = j_ := ⟨_, rfl⟩
 replace H : (some ((Go.bits .and .u64 (A) 1) == 1)) = some r := by first | (rw [b] at H; exact H) | (simp only [b] at H ⊢; exact H)
 (try rw [b] at I)
 (try rw [b] at O)
 (try rw [b] at P)
 (try rw [b] at Q)
 have U : (v / 2 ^ min (q).toNat 64) = A := b
 have hji10z : (q) ≤ 64 → (v / 2 ^ (q).toNat) = A := shr_small b
 obtain rfl := si_ H
 go_enter Tryz.func23, Tryz.ntmps23
 try go_wp2_with (first | ((with_reducible refine gate_dst (N := 2) rfl ?_); refine bxe_ (N := 2) (cs := #[.int .i64 l, .slice s d.length c0_1, .int .i64 m, .int .i64 o, .int .i64 p]) (t := 57) ?_; intro c hg w11 hbox hb; have a := a_ (hbox); have x := a_ (by rw [hg]; exact (bz_ bel_) : w.heap.size ≤ c); have J := x; replace HB := hq_ hb; clear hb hbox hg))
 replace a := a_ (blk_drew a.out)
 replace HB := a_ (below_drew1 HB.out)
 refine start_ (n := 16) (S := fun w' => w'.cell? ⟨c, 0, none⟩ = some (.int .i64 l) ∧ w'.cell? ⟨c, 1, none⟩ = some (.slice s d.length c0_1) ∧ w'.cell? ⟨c, 2, none⟩ = some (.int .i64 m) ∧ w'.cell? ⟨c, 3, none⟩ = some (.int .i64 o) ∧ w'.cell? ⟨c, 4, none⟩ = some (.int .i64 p)) (ds := []) #[false, false, false, false, false, false, false, false, false, false, false, false, false, false, false, false] kr_ rfl rfl (ca5_ a.out) (fun hHeld => ?_); refine with_tabW dom_Dom_Has.tab1 dom_Dom_Has.bits1 (fun HT_ HW_ => ?_)
 generalize w11.drew = w12 at a HB hHeld ⊢
 refine pn_ 0 5 ao_ ?_
 refine onn_ 1 6 #[true, true, false, false, false, false, false, false, false, false, false, false, false, false, false, false] rfl rfl on_ (by decide) (fun K hK => ?_)
 refine goes_ Tryz.func49 kr_ rfl #[.int .i64 u] (by rfl) rfl rfl ar_ ?_
 with_reducible refine (dom_in.calls u true _ I.out).mono ?_
 rintro e w' ⟨rfl, ⟨nd, rfl⟩⟩
 refine ⟨_, rfl, ?_⟩
 refine hK.out _ _ (ca5_ a.out) (fun hHeld => ?_)
 clear hK K
 refine nor_ (N := some 6) ?_
 refine pn_ 2 7 ao_ ?_
 refine pn_ 4 9 ao_ ?_
 refine pn_ 7 12 ao_ ?_
 refine pn_ 8 13 ao_ ?_
 refine tn_ 3 8 tw_ hHeld ?_
 refine onn_ 5 10 #[true, true, true, true, true, true, false, true, true, false, false, false, false, false, false, false] rfl rfl on_ (by decide) (fun K hK => ?_)
 refine goes_ Tryz.func51 kr_ rfl #[.int .i64 u] (by rfl) rfl rfl ar_ ?_
 with_reducible refine (dom_place.calls u y _ O.out).mono ?_
 rintro e w' ⟨rfl, ⟨nd, rfl⟩⟩
 refine ⟨_, rfl, ?_⟩
 refine hK.out _ _ (ca5_ a.out) (fun hHeld => ?_)
 clear hK K
 refine nor_ (N := some 10) ?_
 refine onn_ 6 11 #[true, true, true, true, true, true, true, true, true, false, false, false, false, false, false, false] rfl rfl on_ (by decide) (fun K hK => ?_)
 refine goes_ Tryz.func50 kr_ rfl #[.agg #[.int .i64 l, .slice s d.length c0_1, .int .i64 m, .int .i64 o, .int .i64 p], .int .i64 y] (by rfl) rfl rfl ar_ ?_
 with_reducible refine (dom_Dom_word.calls l _ _ d m o p y v _ ?_ ?_ P.out).mono ?_
 focus repeat (first | exact (cb_ F.out bel_) | (with_reducible refine Kd.C_alloc ?_ _) | (with_reducible refine Kd.C_drewN ?_ _) | (with_reducible refine Kd.C_drew ?_))
 exact G.out
 rintro e w13 ⟨rfl, hb⟩
 refine ⟨_, rfl, ?_⟩
 replace a := a_ (bq_ a.out hb)
 replace HB := hq_ hb
 clear hb
 refine hK.out _ _ (ca5_ a.out) (fun hHeld => ?_)
 clear hK K
 refine nor_ (N := some 11) ?_
 refine onn_ 9 14 #[true, true, true, true, true, true, true, true, true, true, false, false, false, false, false, false] rfl rfl on_ (by decide) (fun K hK => ?_)
 refine goes_ Tryz.func51 kr_ rfl #[.int .i64 u] (by rfl) rfl rfl ar_ ?_
 with_reducible refine (dom_place.calls u z _ Q.out).mono ?_
 rintro e w' ⟨rfl, ⟨nd, rfl⟩⟩
 refine ⟨_, rfl, ?_⟩
 refine hK.out _ _ (ca5_ a.out) (fun hHeld => ?_)
 clear hK K
 refine nor_ (N := some 14) ?_
 refine pn_ 10 15 ao_ ?_
 refine pn_ 11 16 ao_ ?_
 refine pn_ 12 17 ao_ ?_
 refine pn_ 13 18 ao_ ?_
 refine pn_ 14 19 ao_ ?_
 refine pn_ 15 4 ao_ ?_
 refine done_ dn_ ?_
 try go_wp2
 go_ret
 exact ⟨by first | rfl | (simp [errW_none, errW_some] <;> rfl) | (simp only [← g, ← b]; first | rfl | (simp [errW_none, errW_some] <;> rfl)) | (simp [*, errW_none, errW_some] <;> rfl), bel_⟩

end Go.Proofs.YtckfbfdnlpnllaaGreatDoor.XAllDiffFixed
