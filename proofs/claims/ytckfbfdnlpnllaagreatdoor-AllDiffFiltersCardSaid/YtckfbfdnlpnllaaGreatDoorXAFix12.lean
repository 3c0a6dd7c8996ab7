-- by xprint.py, a program of this session, over the kit's print
import Derived.Test.YtckfbfdnlpnllaaGreatDoorXAFix0
import Derived.Test.YtckfbfdnlpnllaaGreatDoorXAFix10
import Derived.Test.YtckfbfdnlpnllaaGreatDoorXAFix11
import Derived.Test.YtckfbfdnlpnllaaGreatDoorSq
namespace Go.Proofs.YtckfbfdnlpnllaaGreatDoor.XAllDiffFilters
open Go.RowKit Go.Proofs.YtckfbfdnlpnllaaGreatDoor.Sq Go.Proofs.YtckfbfdnlpnllaaGreatDoorW.PrintWords Go.Proofs.YtckfbfdnlpnllaaGreatDoorW.PrintLast Go.Proofs.YtckfbfdnlpnllaaGreatDoorW.PrintMore
attribute [local go_sem] max2_int min2_int max_two min_two max_three min_three max_four min_four   -- for this text's walks alone
set_option linter.unusedVariables false
set_option linter.unusedSimpArgs false

/-! ### slices_IndexFunc_int_int_83_at_model_Right_1: function 83 -/
def slices_IndexFunc_int_int_83_at_model_Right_1.l0 : Nat → List Int → Int → Int → Int → Option (Int)
 | 0, _, _, _, _ => none
 | k + 1, c, e, b, a => if b < e then (if 0 ≤ b then (if b < (c.length : Int) then ((model_Right_1.f (rd c b) a).bind fun d => (if d = true then (some b) else (slices_IndexFunc_int_int_83_at_model_Right_1.l0 k c e (wrap64 (b + 1)) a))) else (none)) else (none)) else (some (-1))
def slices_IndexFunc_int_int_83_at_model_Right_1.f (k : Nat) (b : List Int)  (a : Int) : Option (Int) := slices_IndexFunc_int_int_83_at_model_Right_1.l0 k b (b.length : Int) 0 a
theorem slices_IndexFunc_int_int_83_at_model_Right_1.mono_l : ∀ k, (∀ a b c d, LeO (slices_IndexFunc_int_int_83_at_model_Right_1.l0 k a b c d) (slices_IndexFunc_int_int_83_at_model_Right_1.l0 (k + 1) a b c d))
 | 0 => by intros; exact LeO.none _
 | k + 1 => by
  have ih0 := slices_IndexFunc_int_int_83_at_model_Right_1.mono_l k
  intro a b c d
  unfold slices_IndexFunc_int_int_83_at_model_Right_1.l0
  exact leo_
theorem slices_IndexFunc_int_int_83_at_model_Right_1.mono : ∀ a b k, LeO (slices_IndexFunc_int_int_83_at_model_Right_1.f k a b) (slices_IndexFunc_int_int_83_at_model_Right_1.f (k + 1) a b) := by
 intro a b k
 have ih0 := slices_IndexFunc_int_int_83_at_model_Right_1.mono_l k
 unfold slices_IndexFunc_int_int_83_at_model_Right_1.f
 exact leo_
set_option maxHeartbeats 8000000 in
set_option maxRecDepth 100000 in
theorem slices_IndexFunc_int_int_83_at_model_Right_1.calls (k : Nat) (t : Option Addr) (c0 : Nat) (b : List Int)  (B2 : Nat) (c : Int) (r : Int) (w : World) (n : Kd.C (Kd.int .i64) w t b.length b) (o : b.length ≤ c0) (hbx2 : w.heap[B2]? = some (.cells #[.int .i64 c] 3 (0, 0))) (h : slices_IndexFunc_int_int_83_at_model_Right_1.f k b c = some r) :
  Calls Tryz.prog 83 #[.slice t b.length c0, .func (.func 79) #[] #[.pointer (some ⟨B2, 0, none⟩)]] w fun e w' => e = .returned (.int .i64 r) ∧ Drawn0 w w' := by
 have p := a_ n
 have x := a_ o
 clear n o
 have BKc2 := a_ hbx2
 clear hbx2
 unfold slices_IndexFunc_int_int_83_at_model_Right_1.f at h
 have H := h
 clear h
 have H' := a_ H
 clear H
 go_enter Tryz.func83, Tryz.ntmps83
 go_wp2
 go_loopg [8] k (fun kq v w' => ∃ (a : Int), v = .int .i64 a ∧ Aside0 (slices_IndexFunc_int_int_83_at_model_Right_1.l0 kq b (b.length : Int) a c = some r) ∧ Aside0 (kq ≤ k) ∧ Aside0 (w'.heap[B2]? = some (.cells #[.int .i64 c] 3 (0, 0))) ∧ Drawn0 w w')
 case atStart => exact ⟨(0), eq_, H', ⟨lr_ _⟩, ⟨bk_ BKc2.out⟩, by repeat (first | exact d0_ _ | apply Drawn0.step)⟩
 clear H'
 try clear c2
 try clear p2
 obtain ⟨a, rfl, HA, q, BKc2, ⟨m1, rfl⟩⟩ := hrel
 cases gk with
 | zero => exact absurd HA.out (by simp [slices_IndexFunc_int_int_83_at_model_Right_1.l0])
 | succ k1 =>
  have H := HA.out
  clear HA
  simp only [slices_IndexFunc_int_int_83_at_model_Right_1.l0] at H
  by_cases c4 : a < (b.length : Int)
  rotate_left
  ·
   rw [ig_ c4] at H
   have c4b0 : decide (a < (b.length : Int)) = false := df_ c4
   clear c4
   obtain rfl := si_ H
   go_wp2
   go_ret
   exact ⟨by first | rfl | (simp; done) | (simp [*]; done), by repeat (first | exact d0_ _ | apply Drawn0.step)⟩
  rw [ip_ c4] at H
  have c4b0 : decide (a < (b.length : Int)) = true := dt_ c4
  clear c4
  by_cases c5 : 0 ≤ a
  rotate_left
  ·
   rw [ig_ c5] at H
   exact ab_ H
  rw [ip_ c5] at H
  have c5b0 : decide (0 ≤ a) = true := dt_ c5
  clear c5
  by_cases c6 : a < (b.length : Int)
  rotate_left
  ·
   rw [ig_ c6] at H
   exact ab_ H
  rw [ip_ c6] at H
  have c6b0 : decide (a < (b.length : Int)) = true := dt_ c6
  clear c6
  replace H := bo_ H
  obtain ⟨s, u, H⟩ := H
  try dsimp only at H
  by_cases c8 : s = true
  ·
   subst c8
   rw [ip_ rfl] at H
   obtain rfl := si_ H
   have p338 : 0 ≤ (a : Int) := dq_
   have d : a < (b.length : Int) := dq_
   obtain ⟨m, g, l⟩ := ai_ p.out a p338 d
   cases g
   replace p338 := et_ p338
   replace d := et_ d
   go_wp2_with (first | (go_at_call 79; (with_reducible refine (model_Right_1.calls (rd b a) B2 c true _ ?side1 u.out).mono ?_); (case side1 => exact bk_ BKc2.out); rintro e w' ⟨rfl, ⟨nd, rfl⟩⟩))
   go_ret
   exact ⟨by first | rfl | (simp; done) | (simp [*]; done), by repeat (first | exact d0_ _ | apply Drawn0.step)⟩
  replace c8 := bf_.mpr c8
  subst c8
  have H1 : (slices_IndexFunc_int_int_83_at_model_Right_1.l0 k1 b (b.length : Int) (wrap64 (a + 1)) c) = some r := by rw [ig_ (show ¬ (false = true) by decide)] at H; exact H
  clear H
  have H := H1
  clear H1
  have H' := a_ H
  clear H
  have p338 : 0 ≤ (a : Int) := dq_
  have d : a < (b.length : Int) := dq_
  obtain ⟨m, g, l⟩ := ai_ p.out a p338 d
  cases g
  replace p338 := et_ p338
  replace d := et_ d
  go_wp2_with (first | (go_at_call 79; (with_reducible refine (model_Right_1.calls (rd b a) B2 c false _ ?side1 u.out).mono ?_); (case side1 => exact bk_ BKc2.out); rintro e w' ⟨rfl, ⟨nd, rfl⟩⟩))
  go_roundg k1
  case measure => have := q.out; omega
  exact ⟨(wrap64 (a + 1)), eq_, H', ⟨by have := q.out; omega⟩, ⟨bk_ BKc2.out⟩, by repeat (first | exact d0_ _ | apply Drawn0.step)⟩

/-! ### slices_ContainsFunc_int_int_60_at_model_Right_1: function 60 -/
def slices_ContainsFunc_int_int_60_at_model_Right_1.f (k : Nat) (c : List Int)  (a : Int) : Option (Bool) := (slices_IndexFunc_int_int_83_at_model_Right_1.f k c a).bind fun b => (some (decide (b ≥ 0)))
theorem slices_ContainsFunc_int_int_60_at_model_Right_1.mono : ∀ a b k, LeO (slices_ContainsFunc_int_int_60_at_model_Right_1.f k a b) (slices_ContainsFunc_int_int_60_at_model_Right_1.f (k + 1) a b) := by
 intro a b k
 unfold slices_ContainsFunc_int_int_60_at_model_Right_1.f
 have m0 := @slices_IndexFunc_int_int_83_at_model_Right_1.mono
 exact leo_
set_option maxHeartbeats 8000000 in
set_option maxRecDepth 100000 in
theorem slices_ContainsFunc_int_int_60_at_model_Right_1.calls (k : Nat) (g : Option Addr) (c0 : Nat) (a : List Int)  (B2 : Nat) (b : Int) (r : Bool) (w : World) (c : Kd.C (Kd.int .i64) w g a.length a) (d : a.length ≤ c0) (hbx2 : w.heap[B2]? = some (.cells #[.int .i64 b] 3 (0, 0))) (h : slices_ContainsFunc_int_int_60_at_model_Right_1.f k a b = some r) :
  Calls Tryz.prog 60 #[.slice g a.length c0, .func (.func 79) #[] #[.pointer (some ⟨B2, 0, none⟩)]] w fun e w' => e = .returned (.bool r) ∧ Drawn0 w w' := by
 have m := a_ c
 have n := a_ d
 clear c d
 have BKc2 := a_ hbx2
 clear hbx2
 unfold slices_ContainsFunc_int_int_60_at_model_Right_1.f at h
 have H := h
 clear h
 replace H := bo_ H
 obtain ⟨l, o, H⟩ := H
 try dsimp only at H
 obtain rfl := si_ H
 go_enter Tryz.func60, Tryz.ntmps60
 go_wp2_with (first | ((with_reducible refine gate_callee (f := 83) rfl ?_); refine goesL_ (some 7) rfl rfl Tryz.func83 kr_ rfl #[.slice g a.length c0, .func (.func 79) #[] #[.pointer (some ⟨B2, 0, none⟩)]] rfl ar_ ?_; (with_reducible refine (slices_IndexFunc_int_int_83_at_model_Right_1.calls k _ _ a B2 b l _ ?side1 ?side2 ?side3 o.out).mono ?_); (case side1 => exact ca_ (m.out)); (case side2 => exact n.out); (case side3 => exact bk_ BKc2.out); rintro e w' ⟨rfl, ⟨nd, rfl⟩⟩; refine ⟨_, rfl, ?_⟩))
 go_ret
 exact ⟨by first | rfl | (simp; done) | (simp [*]; done), by repeat (first | exact d0_ _ | apply Drawn0.step)⟩

/-! ### model_Right: function 57 -/
def model_Right.f (k : Nat) (a : Int) (c : List Int) (d : List Int) (e : List Int) (g : List Int) (l : List Int) (b : Int) (m : List (List Int)) (u : Int) : Option (Int) := (model_Shape.f a).bind fun n => (if n.toList = ([] : List UInt8) then (none) else ((model_counted.f a c d e g l b m n).bind fun o => (if o = true then ((model_alike.f a c d e g l b m).bind fun p => (if p = true then (if b = 0 then ((model_Vars.f k a c d e g l b m).bind fun q => ((slices_ContainsFunc_int_int_60_at_model_Right_1.f k q u).bind fun r => (if r = true then (none) else ((model_numbers.f k a c d e g l b m).bind fun s => (if s = true then ((model_counts.f a c d e g l b m).bind fun t => (if t = true then (some 0) else (none))) else (none)))))) else (none)) else (none))) else (none))))
theorem model_Right.mono : ∀ a b c d e g l m n k, LeO (model_Right.f k a b c d e g l m n) (model_Right.f (k + 1) a b c d e g l m n) := by
 intro a b c d e g l m n k
 unfold model_Right.f
 have m0 := @model_Vars.mono
 have m1 := @model_numbers.mono
 have m2 := @slices_ContainsFunc_int_int_60_at_model_Right_1.mono
 exact leo_
set_option maxHeartbeats 8000000 in
set_option maxRecDepth 100000 in
theorem model_Right.calls (k : Nat) (o : Int) (J : Option Addr) (c0_1 : Nat) (b : List Int) (K : Option Addr) (c0_2 : Nat) (c : List Int) (M : Option Addr) (c0_3 : Nat) (d : List Int) (O : Option Addr) (c0_4 : Nat) (g : List Int) (P : Option Addr) (c0_5 : Nat) (l : List Int) (m : Int) (Q : Option Addr) (c0_7 : Nat) (n : List (List Int)) (a1 : Int) (r : Int) (w : World) (ac : Kd.C (Kd.int .i64) w J b.length b) (ad : b.length ≤ c0_1) (ae : Kd.C (Kd.int .i64) w K c.length c) (af : c.length ≤ c0_2) (ag : Kd.C (Kd.int .i64) w M d.length d) (ah : d.length ≤ c0_3) (ai : Kd.C (Kd.int .i64) w O g.length g) (aj : g.length ≤ c0_4) (ak : Kd.C (Kd.int .i64) w P l.length l) (al : l.length ≤ c0_5) (am : Kd.C (Kd.slice 3 (Kd.int .i64)) w Q n.length n) (an : n.length ≤ c0_7) (h : model_Right.f k o b c d g l m n a1 = some r) :
  Calls Tryz.prog 57 #[.agg #[.int .i64 o, .slice J b.length c0_1, .slice K c.length c0_2, .slice M d.length c0_3, .slice O g.length c0_4, .slice P l.length c0_5, .int .i64 m, .slice Q n.length c0_7], .int .i64 a1] w fun e w' => e = .returned (.int .i64 r) ∧ Below w.heap.size w w' := by
 have hu32 := Tryz.underlying32
 have q := a_ ac
 have s := a_ ad
 clear ac ad
 have u := a_ ae
 have v := a_ af
 clear ae af
 have x := a_ ag
 have y := a_ ah
 clear ag ah
 have z := a_ ai
 have A := a_ aj
 clear ai aj
 have B := a_ ak
 have E := a_ al
 clear ak al
 have F := a_ am
 have G := a_ an
 clear am an
 have HB := a_ (Below.refl w.heap.size w)
 unfold model_Right.f at h
 have H := h
 clear h
 replace H := bo_ H
 obtain ⟨U, A3, H⟩ := H
 try dsimp only at H
 by_cases c4 : U.toList = ([] : List UInt8)
 ·
  rw [ip_ c4] at H
  exact ab_ H
 rw [ig_ c4] at H
 have c4b0 : (U.toList == ([] : List UInt8)) = false := be_.mpr c4
 have c4b1 : (U.toList != ([] : List UInt8)) = true := ni_.mpr c4
 replace H := bo_ H
 obtain ⟨av, A5, H⟩ := H
 try dsimp only at H
 by_cases c6 : av = true
 rotate_left
 ·
  replace c6 := bf_.mpr c6
  subst c6
  have H1 : (none) = some r := by rw [ig_ (show ¬ (false = true) by decide)] at H; exact H
  clear H
  have H := H1
  clear H1
  exact ab_ H
 subst c6
 rw [ip_ rfl] at H
 replace H := bo_ H
 obtain ⟨aw, A7, H⟩ := H
 try dsimp only at H
 by_cases c8 : aw = true
 rotate_left
 ·
  replace c8 := bf_.mpr c8
  subst c8
  have H1 : (none) = some r := by rw [ig_ (show ¬ (false = true) by decide)] at H; exact H
  clear H
  have H := H1
  clear H1
  exact ab_ H
 subst c8
 rw [ip_ rfl] at H
 by_cases c9 : m = 0
 rotate_left
 ·
  rw [ig_ c9] at H
  exact ab_ H
 rw [ip_ c9] at H
 have c9b0 : (m == 0) = true := beq_iff_eq.mpr c9
 have c9b1 : (m != 0) = false := bn_.mpr c9
 clear c9
 replace H := bo_ H
 obtain ⟨Z, aB, H⟩ := H
 try dsimp only at H
 replace H := bo_ H
 obtain ⟨ax, aC, H⟩ := H
 try dsimp only at H
 by_cases c12 : ax = true
 ·
  subst c12
  rw [ip_ rfl] at H
  exact ab_ H
 replace c12 := bf_.mpr c12
 subst c12
 have H1 : ((model_numbers.f k o b c d g l m n).bind fun aa => (if aa = true then ((model_counts.f o b c d g l m n).bind fun ab => (if ab = true then (some 0) else (none))) else (none))) = some r := by rw [ig_ (show ¬ (false = true) by decide)] at H; exact H
 clear H
 have H := H1
 clear H1
 replace H := bo_ H
 obtain ⟨aa, aD, H⟩ := H
 try dsimp only at H
 by_cases c14 : aa = true
 rotate_left
 ·
  replace c14 := bf_.mpr c14
  subst c14
  have H1 : (none) = some r := by rw [ig_ (show ¬ (false = true) by decide)] at H; exact H
  clear H
  have H := H1
  clear H1
  exact ab_ H
 subst c14
 rw [ip_ rfl] at H
 replace H := bo_ H
 obtain ⟨ab, aE, H⟩ := H
 try dsimp only at H
 by_cases c16 : ab = true
 rotate_left
 ·
  replace c16 := bf_.mpr c16
  subst c16
  have H1 : (none) = some r := by rw [ig_ (show ¬ (false = true) by decide)] at H; exact H
  clear H
  have H := H1
  clear H1
  exact ab_ H
 subst c16
 rw [ip_ rfl] at H
 obtain rfl := si_ H
 go_enter Tryz.func57, Tryz.ntmps57
 go_wp2_with (first | ((with_reducible refine gate_dst (N := 2) rfl ?_); refine bxe_ (N := 2) (cs := #[.int .i64 o, .slice J b.length c0_1, .slice K c.length c0_2, .slice M d.length c0_3, .slice O g.length c0_4, .slice P l.length c0_5, .int .i64 m, .slice Q n.length c0_7]) (t := 32) ?_; intro V hg w17 hbox hb; have a := a_ (hbox); have ap := a_ (by rw [hg]; exact (bz_ bel_) : w.heap.size ≤ V); have aF := ap; replace HB := hq_ hb; clear hb hbox hg) | ((with_reducible refine gate_dst (N := 3) rfl ?_); refine bxe_ (N := 3) (cs := #[.int .i64 a1]) (t := 3) ?_; intro I hg w18 hbox hb; have p := a_ (hbox); have aq := a_ (by rw [hg]; exact (bz_ bel_) : w.heap.size ≤ I); have aG := aq; replace HB := hq_ hb; have X := a_ ((by rw [hg]; exact Nat.ne_of_lt (blk_lt (bk_ a.out)) : V ≠ I)); have Y := a_ ((by rw [hg]; exact Nat.ne_of_gt (blk_lt (bk_ a.out)) : I ≠ V)); replace a := a_ (bq_ a.out hb); clear hb hbox hg; have aH := X.out; have aI := Y.out; obtain ⟨_, _, _, _, _, _, _, _, _, _, _, _, _, _, _, _⟩ := cel8_ a.out) | ((with_reducible refine gate_callee (f := 74) rfl ?_); refine goesL_ (some 8) rfl rfl Tryz.func74 kr_ rfl #[.int .i64 o] rfl ar_ ?_; (with_reducible refine (model_Shape.calls o U _ A3.out).mono ?_); rintro e w21 ⟨rfl, hb⟩; refine ⟨_, rfl, ?_⟩; replace a := a_ (bq_ a.out hb); replace p := a_ (bq_ p.out hb); replace HB := hq_ hb; clear hb; obtain ⟨_, _, _, _, _, _, _, _, _, _, _, _, _, _, _, _⟩ := cel8_ a.out) | ((with_reducible refine gate_callee (f := 75) rfl ?_); refine goesL_ (some 15) rfl rfl Tryz.func75 kr_ rfl #[.agg #[.int .i64 o, .slice J b.length c0_1, .slice K c.length c0_2, .slice M d.length c0_3, .slice O g.length c0_4, .slice P l.length c0_5, .int .i64 m, .slice Q n.length c0_7], .string U] rfl ar_ ?_; (with_reducible refine (model_counted.calls o _ _ b _ _ c _ _ d _ _ g _ _ l m _ _ n U true _ ?_ ?_ ?_ ?_ ?_ ?_ ?_ ?_ ?_ ?_ ?_ ?_ A5.out).mono ?_); exact ca_ ((cb_ q.out HB.out)); exact s.out; exact ca_ ((cb_ u.out HB.out)); exact v.out; exact ca_ ((cb_ x.out HB.out)); exact y.out; exact ca_ ((cb_ z.out HB.out)); exact A.out; exact ca_ ((cb_ B.out HB.out)); exact E.out; exact ca_ ((cb_ F.out HB.out)); exact G.out; rintro e w23 ⟨rfl, hb⟩; refine ⟨_, rfl, ?_⟩; replace a := a_ (bq_ a.out hb); replace p := a_ (bq_ p.out hb); replace HB := hq_ hb; clear hb; obtain ⟨_, _, _, _, _, _, _, _, _, _, _, _, _, _, _, _⟩ := cel8_ a.out) | (go_at_call 76; (with_reducible refine (model_alike.calls o _ _ b _ _ c _ _ d _ _ g _ _ l m _ _ n true _ ?_ ?_ ?_ ?_ ?_ ?_ ?_ ?_ ?_ ?_ ?_ ?_ A7.out).mono ?_); exact ca_ ((cb_ q.out HB.out)); exact s.out; exact ca_ ((cb_ u.out HB.out)); exact v.out; exact ca_ ((cb_ x.out HB.out)); exact y.out; exact ca_ ((cb_ z.out HB.out)); exact A.out; exact ca_ ((cb_ B.out HB.out)); exact E.out; exact ca_ ((cb_ F.out HB.out)); exact G.out; rintro e w25 ⟨rfl, hb⟩; replace a := a_ (bq_ a.out hb); replace p := a_ (bq_ p.out hb); replace HB := hq_ hb; clear hb; obtain ⟨_, _, _, _, _, _, _, _, _, _, _, _, _, _, _, _⟩ := cel8_ a.out) | ((with_reducible refine gate_callee (f := 78) rfl ?_); refine goesL_ (some 34) rfl rfl Tryz.func78 kr_ rfl #[.agg #[.int .i64 o, .slice J b.length c0_1, .slice K c.length c0_2, .slice M d.length c0_3, .slice O g.length c0_4, .slice P l.length c0_5, .int .i64 m, .slice Q n.length c0_7]] rfl ar_ ?_; (with_reducible refine (model_Vars.calls k o (fun k_ => k_ < w.heap.size) _ _ b (fun k_ => k_ < w.heap.size) _ _ c _ _ d _ _ g _ _ l m _ _ n Z _ ?_ ?_ ?_ ?_ ?_ ?_ ?_ ?_ ?_ ?_ aB.out).mono ?_); exact Kd.V_mk s.out (Kd.F_below (Kd.C_F (Kd.heap_int .i64) q.out) bel_); exact Kd.V_mk v.out (Kd.F_below (Kd.C_F (Kd.heap_int .i64) u.out) bel_); exact ca_ ((cb_ x.out HB.out)); exact y.out; exact ca_ ((cb_ z.out HB.out)); exact A.out; exact ca_ ((cb_ B.out HB.out)); exact E.out; exact ca_ ((cb_ F.out HB.out)); exact G.out; rintro e w27 ⟨aM, rfl, au, hb⟩; refine ⟨_, rfl, ?_⟩; have W := a_ (Kd.R_lower (Kd.R_newB (rm_ (ok' := fun k_ => True) au (fun _ hk_ => trivial)) (bk_ p.out)) (bz_ bel_)); replace a := a_ (bq_ a.out hb); replace p := a_ (bq_ p.out hb); replace HB := hq_ hb; clear hb au; obtain ⟨ay, az, aA⟩ := Kd.R_slice W.out; subst aA) | ((with_reducible refine gate_callee (f := 60) rfl ?_); refine goesL_ (some 36) rfl rfl Tryz.func60 kr_ rfl #[.slice ay Z.length az, .func (.func 79) #[] #[.pointer (some ⟨I, 0, none⟩)]] rfl ar_ ?_; (with_reducible refine (slices_ContainsFunc_int_int_60_at_model_Right_1.calls k _ _ Z I a1 false _ ?side1 ?side2 ?side3 aC.out).mono ?_); (case side1 => exact ca_ ((rr_ W.out).2.2)); (case side2 => exact (rr_ W.out).2.1); (case side3 => exact bk_ p.out); rintro e w' ⟨rfl, ⟨nd, rfl⟩⟩; refine ⟨_, rfl, ?_⟩; obtain ⟨_, _, _, _, _, _, _, _, _, _, _, _, _, _, _, _⟩ := cel8_ a.out) | ((with_reducible refine gate_callee (f := 80) rfl ?_); refine goesL_ (some 39) rfl rfl Tryz.func80 kr_ rfl #[.agg #[.int .i64 o, .slice J b.length c0_1, .slice K c.length c0_2, .slice M d.length c0_3, .slice O g.length c0_4, .slice P l.length c0_5, .int .i64 m, .slice Q n.length c0_7]] rfl ar_ ?_; (with_reducible refine (model_numbers.calls k o _ _ b _ _ c _ _ d _ _ g _ _ l m _ _ n true _ ?side1 ?side2 ?side3 ?side4 ?side5 ?side6 ?side7 ?side8 ?side9 ?side10 ?side11 ?side12 aD.out).mono ?_); (case side1 => repeat (first | exact (cb_ q.out bel_) | (with_reducible refine Kd.C_alloc ?_ _) | (with_reducible refine Kd.C_drewN ?_ _) | (with_reducible refine Kd.C_drew ?_))); (case side2 => exact s.out); (case side3 => repeat (first | exact (cb_ u.out bel_) | (with_reducible refine Kd.C_alloc ?_ _) | (with_reducible refine Kd.C_drewN ?_ _) | (with_reducible refine Kd.C_drew ?_))); (case side4 => exact v.out); (case side5 => repeat (first | exact (cb_ x.out bel_) | (with_reducible refine Kd.C_alloc ?_ _) | (with_reducible refine Kd.C_drewN ?_ _) | (with_reducible refine Kd.C_drew ?_))); (case side6 => exact y.out); (case side7 => repeat (first | exact (cb_ z.out bel_) | (with_reducible refine Kd.C_alloc ?_ _) | (with_reducible refine Kd.C_drewN ?_ _) | (with_reducible refine Kd.C_drew ?_))); (case side8 => exact A.out); (case side9 => repeat (first | exact (cb_ B.out bel_) | (with_reducible refine Kd.C_alloc ?_ _) | (with_reducible refine Kd.C_drewN ?_ _) | (with_reducible refine Kd.C_drew ?_))); (case side10 => exact E.out); (case side11 => repeat (first | exact (cb_ F.out bel_) | (with_reducible refine Kd.C_alloc ?_ _) | (with_reducible refine Kd.C_drewN ?_ _) | (with_reducible refine Kd.C_drew ?_))); (case side12 => exact G.out); rintro e w30 ⟨rfl, hb⟩; refine ⟨_, rfl, ?_⟩; replace a := a_ (bq_ a.out hb); replace HB := hq_ hb; clear hb; obtain ⟨_, _, _, _, _, _, _, _, _, _, _, _, _, _, _, _⟩ := cel8_ a.out) | (go_at_call 81; (with_reducible refine (model_counts.calls o _ _ b _ _ c _ _ d _ _ g _ _ l m _ _ n true _ ?_ ?_ ?_ ?_ ?_ ?_ ?_ ?_ ?_ ?_ ?_ ?_ aE.out).mono ?_); exact ca_ ((cb_ q.out HB.out)); exact s.out; exact ca_ ((cb_ u.out HB.out)); exact v.out; exact ca_ ((cb_ x.out HB.out)); exact y.out; exact ca_ ((cb_ z.out HB.out)); exact A.out; exact ca_ ((cb_ B.out HB.out)); exact E.out; exact ca_ ((cb_ F.out HB.out)); exact G.out; rintro e w32 ⟨rfl, hb⟩; replace HB := hq_ hb; clear hb))
 go_ret
 exact ⟨er_, bel_⟩

/-! ### dom_Dom_73_at_prop_Fits_1: function 73 -/
def dom_Dom_73_at_prop_Fits_1.l0 : Nat → List (S57) → Int → Int → Option (Int)
 | 0, _, _, _ => none
 | k + 1, b, d, a => if a < d then (if 0 ≤ a then (if a < (b.length : Int) then ((prop_Fits_1.f ((rd_T57 b a).f0) ((rd_T57 b a).f1) ((rd_T57 b a).f2) ((rd_T57 b a).f3) ((rd_T57 b a).f4)).bind fun c => (if c = true then (some a) else (dom_Dom_73_at_prop_Fits_1.l0 k b d (wrap64 (a + 1))))) else (none)) else (none)) else (some (-1))
def dom_Dom_73_at_prop_Fits_1.f (k : Nat) (a : List (S57))  : Option (Int) := dom_Dom_73_at_prop_Fits_1.l0 k a (a.length : Int) 0
theorem dom_Dom_73_at_prop_Fits_1.mono_l : ∀ k, (∀ a b c, LeO (dom_Dom_73_at_prop_Fits_1.l0 k a b c) (dom_Dom_73_at_prop_Fits_1.l0 (k + 1) a b c))
 | 0 => by intros; exact LeO.none _
 | k + 1 => by
  have ih0 := dom_Dom_73_at_prop_Fits_1.mono_l k
  intro a b c
  unfold dom_Dom_73_at_prop_Fits_1.l0
  exact leo_
theorem dom_Dom_73_at_prop_Fits_1.mono : ∀ a k, LeO (dom_Dom_73_at_prop_Fits_1.f k a) (dom_Dom_73_at_prop_Fits_1.f (k + 1) a) := by
 intro a k
 have ih0 := dom_Dom_73_at_prop_Fits_1.mono_l k
 unfold dom_Dom_73_at_prop_Fits_1.f
 exact leo_
set_option maxHeartbeats 8000000 in
set_option maxRecDepth 100000 in
theorem dom_Dom_73_at_prop_Fits_1.calls (k : Nat) (E : Option Addr) (c0 : Nat) (m : List (S57))  (r : Int) (w : World) (x : Kd.C k57 w E m.length m) (y : m.length ≤ c0) (h : dom_Dom_73_at_prop_Fits_1.f k m = some r) :
  Calls Tryz.prog 73 #[.slice E m.length c0, .func (.func 56) #[] #[]] w fun e w' => e = .returned (.int .i64 r) ∧ Below w.heap.size w w' := by
 have hu57 := Tryz.underlying57
 have z := a_ x
 have I := a_ y
 clear x y
 have HB := a_ (Below.refl w.heap.size w)
 unfold dom_Dom_73_at_prop_Fits_1.f at h
 have H := h
 clear h
 have H' := a_ H
 clear H
 go_enter Tryz.func73, Tryz.ntmps73
 go_wp2
 go_loopg [8] k (fun kq G w' => ∃ (a : Int), G = .int .i64 a ∧ Aside0 (dom_Dom_73_at_prop_Fits_1.l0 kq m (m.length : Int) a = some r) ∧ Aside0 (kq ≤ k) ∧ Aside0 (Below w.heap.size w w'))
 case atStart => exact ⟨(0), eq_, H', ⟨lr_ _⟩, ⟨bel_⟩⟩
 clear H'
 try clear p2
 obtain ⟨a, rfl, HA, A, HB⟩ := hrel
 cases gk with
 | zero => exact absurd HA.out (by simp [dom_Dom_73_at_prop_Fits_1.l0])
 | succ k1 =>
  have H := HA.out
  clear HA
  simp only [dom_Dom_73_at_prop_Fits_1.l0] at H
  by_cases c3 : a < (m.length : Int)
  rotate_left
  ·
   rw [ig_ c3] at H
   have c3b0 : decide (a < (m.length : Int)) = false := df_ c3
   clear c3
   obtain rfl := si_ H
   go_wp2
   go_ret
   exact ⟨er_, bel_⟩
  rw [ip_ c3] at H
  have c3b0 : decide (a < (m.length : Int)) = true := dt_ c3
  clear c3
  by_cases c4 : 0 ≤ a
  rotate_left
  ·
   rw [ig_ c4] at H
   exact ab_ H
  rw [ip_ c4] at H
  have c4b0 : decide (0 ≤ a) = true := dt_ c4
  clear c4
  by_cases c5 : a < (m.length : Int)
  rotate_left
  ·
   rw [ig_ c5] at H
   exact ab_ H
  rw [ip_ c5] at H
  have c5b0 : decide (a < (m.length : Int)) = true := dt_ c5
  clear c5
  replace H := bo_ H
  obtain ⟨B, F, H⟩ := H
  try dsimp only at H
  by_cases c7 : B = true
  ·
   subst c7
   rw [ip_ rfl] at H
   obtain rfl := si_ H
   have p352 : 0 ≤ (a : Int) := dq_
   have p : a < (m.length : Int) := dq_
   obtain ⟨v, u, c352_1, t, b, c, d, g, l, n, o⟩ := at_T57 z.out a p352 p
   cases t
   replace b := hx_ HB b
   replace c := hx_ HB c
   replace d := hx_ HB d
   replace g := hx_ HB g
   replace l := hx_ HB l
   have q := a_ o
   have s := a_ n
   clear o n
   replace p352 := et_ p352
   replace p := et_ p
   go_wp2_with (first | (go_at_call 56; (with_reducible refine (prop_Fits_1.calls ((rd_T57 m a).f0) _ _ ((rd_T57 m a).f1) ((rd_T57 m a).f2) ((rd_T57 m a).f3) ((rd_T57 m a).f4) true _ ?_ ?_ F.out).mono ?_); exact ca_ ((cb_ q.out HB.out)); exact s.out; rintro e w8 ⟨rfl, hb⟩; replace HB := hq_ hb; clear hb))
   go_ret
   exact ⟨er_, bel_⟩
  replace c7 := bf_.mpr c7
  subst c7
  have H1 : (dom_Dom_73_at_prop_Fits_1.l0 k1 m (m.length : Int) (wrap64 (a + 1))) = some r := by rw [ig_ (show ¬ (false = true) by decide)] at H; exact H
  clear H
  have H := H1
  clear H1
  have H' := a_ H
  clear H
  have p352 : 0 ≤ (a : Int) := dq_
  have p : a < (m.length : Int) := dq_
  obtain ⟨v, u, c352_1, t, b, c, d, g, l, n, o⟩ := at_T57 z.out a p352 p
  cases t
  replace b := hx_ HB b
  replace c := hx_ HB c
  replace d := hx_ HB d
  replace g := hx_ HB g
  replace l := hx_ HB l
  have q := a_ o
  have s := a_ n
  clear o n
  replace p352 := et_ p352
  replace p := et_ p
  go_wp2_with (first | (go_at_call 56; (with_reducible refine (prop_Fits_1.calls ((rd_T57 m a).f0) _ _ ((rd_T57 m a).f1) ((rd_T57 m a).f2) ((rd_T57 m a).f3) ((rd_T57 m a).f4) false _ ?_ ?_ F.out).mono ?_); exact ca_ ((cb_ q.out HB.out)); exact s.out; rintro e w9 ⟨rfl, hb⟩; replace HB := hq_ hb; clear hb))
  go_roundg k1
  case measure => have := A.out; omega
  exact ⟨(wrap64 (a + 1)), eq_, H', ⟨by have := A.out; omega⟩, ⟨bel_⟩⟩

/-! ### dom_Dom_55_at_prop_Fits_1: function 55 -/
def dom_Dom_55_at_prop_Fits_1.f (k : Nat) (b : List (S57))  : Option (Bool) := (dom_Dom_73_at_prop_Fits_1.f k b).bind fun a => (some (decide (a ≥ 0)))
theorem dom_Dom_55_at_prop_Fits_1.mono : ∀ a k, LeO (dom_Dom_55_at_prop_Fits_1.f k a) (dom_Dom_55_at_prop_Fits_1.f (k + 1) a) := by
 intro a k
 unfold dom_Dom_55_at_prop_Fits_1.f
 have m0 := @dom_Dom_73_at_prop_Fits_1.mono
 exact leo_
set_option maxHeartbeats 8000000 in
set_option maxRecDepth 100000 in
theorem dom_Dom_55_at_prop_Fits_1.calls (k : Nat) (d : Option Addr) (c0 : Nat) (a : List (S57))  (r : Bool) (w : World) (b : Kd.C k57 w d a.length a) (c : a.length ≤ c0) (h : dom_Dom_55_at_prop_Fits_1.f k a = some r) :
  Calls Tryz.prog 55 #[.slice d a.length c0, .func (.func 56) #[] #[]] w fun e w' => e = .returned (.bool r) ∧ Below w.heap.size w w' := by
 have l := a_ b
 have m := a_ c
 clear b c
 have HB := a_ (Below.refl w.heap.size w)
 unfold dom_Dom_55_at_prop_Fits_1.f at h
 have H := h
 clear h
 replace H := bo_ H
 obtain ⟨g, n, H⟩ := H
 try dsimp only at H
 obtain rfl := si_ H
 go_enter Tryz.func55, Tryz.ntmps55
 go_wp2_with (first | ((with_reducible refine gate_callee (f := 73) rfl ?_); refine goesL_ (some 7) rfl rfl Tryz.func73 kr_ rfl #[.slice d a.length c0, .func (.func 56) #[] #[]] rfl ar_ ?_; (with_reducible refine (dom_Dom_73_at_prop_Fits_1.calls k _ _ a g _ ?_ ?_ n.out).mono ?_); exact ca_ (l.out); exact m.out; rintro e w4 ⟨rfl, hb⟩; refine ⟨_, rfl, ?_⟩; replace HB := hq_ hb; clear hb))
 go_ret
 exact ⟨er_, bel_⟩

/-! ### prop_Fits: function 29 -/
def prop_Fits.f (k : Nat) (a : Int) (b : List Int) (c : List Int) (d : List Int) (e : List Int) (g : List Int) (l : Int) (m : List (List Int)) (p : List (S57)) (q : Int) (r : Int) : Option (Bool) := (dom_Dom_55_at_prop_Fits_1.f k p).bind fun n => (if a ≥ q then (if a ≤ r then ((model_Right.f k a b c d e g l m 256).bind fun o => (if o = 0 then (if (p.length : Int) = (wrap64 ((b.length : Int) + (c.length : Int))) then (some (!n)) else (none)) else (none))) else (none)) else (none))
theorem prop_Fits.mono : ∀ b c d e g l m n o p a k, LeO (prop_Fits.f k b c d e g l m n o p a) (prop_Fits.f (k + 1) b c d e g l m n o p a) := by
 intro b c d e g l m n o p a k
 unfold prop_Fits.f
 have m0 := @dom_Dom_55_at_prop_Fits_1.mono
 have m1 := @model_Right.mono
 exact leo_
set_option maxHeartbeats 8000000 in
set_option maxRecDepth 100000 in
theorem prop_Fits.calls (k : Nat) (c : Int) (s : Option Addr) (c0_1 : Nat) (a : List Int) (u : Option Addr) (c0_2 : Nat) (b : List Int) (v : Option Addr) (c0_3 : Nat) (g : List Int) (x : Option Addr) (c0_4 : Nat) (l : List Int) (y : Option Addr) (c0_5 : Nat) (m : List Int) (p : Int) (z : Option Addr) (c0_7 : Nat) (n : List (List Int)) (A1 : Option Addr) (c1 : Nat) (o : List (S57)) (U : Int) (V : Int) (r : Bool) (w : World) (A : Kd.C (Kd.int .i64) w s a.length a) (B : a.length ≤ c0_1) (E : Kd.C (Kd.int .i64) w u b.length b) (F : b.length ≤ c0_2) (G : Kd.C (Kd.int .i64) w v g.length g) (I : g.length ≤ c0_3) (J : Kd.C (Kd.int .i64) w x l.length l) (K : l.length ≤ c0_4) (M : Kd.C (Kd.int .i64) w y m.length m) (O : m.length ≤ c0_5) (P : Kd.C (Kd.slice 3 (Kd.int .i64)) w z n.length n) (Q : n.length ≤ c0_7) (ak : Kd.C k57 w A1 o.length o) (al : o.length ≤ c1) (h : prop_Fits.f k c a b g l m p n o U V = some r) :
  Calls Tryz.prog 29 #[.agg #[.int .i64 c, .slice s a.length c0_1, .slice u b.length c0_2, .slice v g.length c0_3, .slice x l.length c0_4, .slice y m.length c0_5, .int .i64 p, .slice z n.length c0_7], .slice A1 o.length c1, .int .i64 U, .int .i64 V] w fun e w' => e = .returned (.bool r) ∧ Below w.heap.size w w' := by
 have hu32 := Tryz.underlying32
 have W := a_ A
 have X := a_ B
 clear A B
 have Y := a_ E
 have Z := a_ F
 clear E F
 have aa := a_ G
 have ab := a_ I
 clear G I
 have ac := a_ J
 have ad := a_ K
 clear J K
 have ae := a_ M
 have af := a_ O
 clear M O
 have ag := a_ P
 have ah := a_ Q
 clear P Q
 have ao := a_ ak
 have ap := a_ al
 clear ak al
 have HB := a_ (Below.refl w.heap.size w)
 unfold prop_Fits.f at h
 have H := h
 clear h
 replace H := bo_ H
 obtain ⟨an, A5, H⟩ := H
 try dsimp only at H
 by_cases c6 : c ≥ U
 rotate_left
 ·
  rw [ig_ c6] at H
  exact ab_ H
 rw [ip_ c6] at H
 have c6b0 : decide (U ≤ c) = true := dt_ c6
 clear c6
 by_cases c7 : c ≤ V
 rotate_left
 ·
  rw [ig_ c7] at H
  exact ab_ H
 rw [ip_ c7] at H
 have c7b0 : decide (c ≤ V) = true := dt_ c7
 clear c7
 replace H := bo_ H
 obtain ⟨q, A8, H⟩ := H
 try dsimp only at H
 by_cases c9 : q = 0
 rotate_left
 ·
  rw [ig_ c9] at H
  exact ab_ H
 rw [ip_ c9] at H
 have c9b0 : (q == 0) = true := beq_iff_eq.mpr c9
 have c9b1 : (q != 0) = false := bn_.mpr c9
 clear c9
 by_cases c10 : (o.length : Int) = (wrap64 ((a.length : Int) + (b.length : Int)))
 rotate_left
 ·
  rw [ig_ c10] at H
  exact ab_ H
 rw [ip_ c10] at H
 have c10b0 : ((o.length : Int) == (wrap64 ((a.length : Int) + (b.length : Int)))) = true := beq_iff_eq.mpr c10
 have c10b1 : ((o.length : Int) != (wrap64 ((a.length : Int) + (b.length : Int)))) = false := bn_.mpr c10
 clear c10
 obtain rfl := si_ H
 go_enter Tryz.func29, Tryz.ntmps29
 go_wp2_with (first | ((with_reducible refine gate_dst (N := 4) rfl ?_); (try (refine gate_guard (by rfl) ?_; dsimp only)); refine bxe_ (N := 4) (cs := #[.int .i64 c, .slice s a.length c0_1, .slice u b.length c0_2, .slice v g.length c0_3, .slice x l.length c0_4, .slice y m.length c0_5, .int .i64 p, .slice z n.length c0_7]) (t := 32) ?_; intro ai hg w11 hbox hb; have d := a_ (hbox); have aj := a_ (by rw [hg]; exact (bz_ bel_) : w.heap.size ≤ ai); have aq := aj; replace HB := hq_ hb; clear hb hbox hg) | ((with_reducible refine gate_callee (f := 55) rfl ?_); refine goesL_ (some 11) rfl rfl Tryz.func55 kr_ rfl #[.slice A1 o.length c1, .func (.func 56) #[] #[]] rfl ar_ ?_; (with_reducible refine (dom_Dom_55_at_prop_Fits_1.calls k _ _ o an _ ?_ ?_ A5.out).mono ?_); exact ca_ ((cb_ ao.out HB.out)); exact ap.out; rintro e w12 ⟨rfl, hb⟩; refine ⟨_, rfl, ?_⟩; replace d := a_ (bq_ d.out hb); replace HB := hq_ hb; clear hb; obtain ⟨_, _, _, _, _, _, _, _, _, _, _, _, _, _, _, _⟩ := cel8_ d.out) | (go_at_call 57; (with_reducible refine (model_Right.calls k c _ _ a _ _ b _ _ g _ _ l _ _ m p _ _ n 256 q _ ?_ ?_ ?_ ?_ ?_ ?_ ?_ ?_ ?_ ?_ ?_ ?_ A8.out).mono ?_); exact ca_ ((cb_ W.out HB.out)); exact X.out; exact ca_ ((cb_ Y.out HB.out)); exact Z.out; exact ca_ ((cb_ aa.out HB.out)); exact ab.out; exact ca_ ((cb_ ac.out HB.out)); exact ad.out; exact ca_ ((cb_ ae.out HB.out)); exact af.out; exact ca_ ((cb_ ag.out HB.out)); exact ah.out; rintro e w14 ⟨rfl, hb⟩; replace d := a_ (bq_ d.out hb); replace HB := hq_ hb; clear hb; obtain ⟨_, _, _, _, _, _, _, _, _, _, _, _, _, _, _, _⟩ := cel8_ d.out))
 go_ret
 exact ⟨er_, bel_⟩

/-! ### dom_Dom_Min: function 99 -/
def dom_Dom_Min.f (b : Int) (c : List Int) (a : Int) (d : Int) (e : Int) : Option (Int) := some a
set_option maxHeartbeats 8000000 in
set_option maxRecDepth 100000 in
theorem dom_Dom_Min.calls (b : Int) (c : Option Addr) (c0_1 : Nat) (a : List Int) (d : Int) (g : Int) (l : Int) (r : Int) (w : World) (n : Kd.C (Kd.int .u64) w c a.length a) (m : a.length ≤ c0_1) (h : dom_Dom_Min.f b a d g l = some r) :
  Calls Tryz.prog 99 #[.agg #[.int .i64 b, .slice c a.length c0_1, .int .i64 d, .int .i64 g, .int .i64 l]] w fun e w' => e = .returned (.int .i64 r) ∧ Below w.heap.size w w' := by
 have hu57 := Tryz.underlying57
 have s := a_ m
 clear n m
 have HB := a_ (Below.refl w.heap.size w)
 unfold dom_Dom_Min.f at h
 have H := h
 clear h
 obtain rfl := si_ H
 go_enter Tryz.func99, Tryz.ntmps99
 go_wp2_with (first | ((with_reducible refine gate_dst (N := 1) rfl ?_); refine bxe_ (N := 1) (cs := #[.int .i64 b, .slice c a.length c0_1, .int .i64 d, .int .i64 g, .int .i64 l]) (t := 57) ?_; intro o hg w2 hbox hb; have p := a_ (hbox); have q := a_ (by rw [hg]; exact (bz_ bel_) : w.heap.size ≤ o); have u := q; replace HB := hq_ hb; clear hb hbox hg; obtain ⟨_, _, _, _, _, _, _, _, _, _⟩ := cel5_ p.out))
 go_ret
 exact ⟨er_, bel_⟩

/-! ### dom_in: function 49 -/
def dom_in.f (a : Int) : Option (Bool) := if a ≥ (-1000000) then (some (decide (a ≤ 1000000))) else (some false)
set_option maxHeartbeats 8000000 in
set_option maxRecDepth 100000 in
theorem dom_in.calls (a : Int) (r : Bool) (w : World) (h : dom_in.f a = some r) :
  Calls Tryz.prog 49 #[.int .i64 a] w fun e w' => e = .returned (.bool r) ∧ Drawn0 w w' := by
 unfold dom_in.f at h
 have H := h
 clear h
 by_cases c2 : a ≥ (-1000000)
 ·
  rw [ip_ c2] at H
  have c2b0 : decide ((-1000000) ≤ a) = true := dt_ c2
  clear c2
  obtain rfl := si_ H
  go_enter Tryz.func49, Tryz.ntmps49
  go_wp2
  go_ret
  exact ⟨by first | rfl | (simp; done) | (simp [*]; done), by repeat (first | exact d0_ _ | apply Drawn0.step)⟩
 rw [ig_ c2] at H
 have c2b0 : decide ((-1000000) ≤ a) = false := df_ c2
 clear c2
 obtain rfl := si_ H
 go_enter Tryz.func49, Tryz.ntmps49
 go_wp2
 go_ret
 exact ⟨by first | rfl | (simp; done) | (simp [*]; done), by repeat (first | exact d0_ _ | apply Drawn0.step)⟩

/-! ### dom_Dom_word: function 50 -/
def dom_Dom_word.f (a : Int) (b : List Int) (d : Int) (e : Int) (g : Int) (c : Int) : Option (Int) := if c < a then (some 0) else (if (wrap64 (Int.tdiv (wrap64 (c - a)) 64)) ≥ (b.length : Int) then (some 0) else (if 0 ≤ (wrap64 (Int.tdiv (wrap64 (c - a)) 64)) then (if (wrap64 (Int.tdiv (wrap64 (c - a)) 64)) < (b.length : Int) then (some (rd b (wrap64 (Int.tdiv (wrap64 (c - a)) 64)))) else (none)) else (none)))
set_option maxHeartbeats 8000000 in
set_option maxRecDepth 100000 in
theorem dom_Dom_word.calls (b : Int) (n : Option Addr) (c0_1 : Nat) (a : List Int) (o : Int) (p : Int) (q : Int) (u : Int) (r : Int) (w : World) (x : Kd.C (Kd.int .u64) w n a.length a) (y : a.length ≤ c0_1) (h : dom_Dom_word.f b a o p q u = some r) :
  Calls Tryz.prog 50 #[.agg #[.int .i64 b, .slice n a.length c0_1, .int .i64 o, .int .i64 p, .int .i64 q], .int .i64 u] w fun e w' => e = .returned (.int .u64 r) ∧ Below w.heap.size w w' := by
 have hu57 := Tryz.underlying57
 have A := a_ x
 have E := a_ y
 clear x y
 have HB := a_ (Below.refl w.heap.size w)
 unfold dom_Dom_word.f at h
 have H := h
 clear h
 by_cases c3 : u < b
 ·
  rw [ip_ c3] at H
  have c3b0 : decide (u < b) = true := dt_ c3
  clear c3
  obtain rfl := si_ H
  go_enter Tryz.func50, Tryz.ntmps50
  go_wp2_with (first | ((with_reducible refine gate_dst (N := 2) rfl ?_); (try (refine gate_guard (by rfl) ?_; dsimp only)); refine bxe_ (N := 2) (cs := #[.int .i64 b, .slice n a.length c0_1, .int .i64 o, .int .i64 p, .int .i64 q]) (t := 57) ?_; intro d hg w4 hbox hb; have g := a_ (hbox); have l := a_ (by rw [hg]; exact (bz_ bel_) : w.heap.size ≤ d); have z := l; replace HB := hq_ hb; clear hb hbox hg; obtain ⟨_, _, _, _, _, _, _, _, _, _⟩ := cel5_ g.out))
  go_ret
  exact ⟨er_, bel_⟩
 rw [ig_ c3] at H
 have c3b0 : decide (u < b) = false := df_ c3
 clear c3
 by_cases c6 : (wrap64 (Int.tdiv (wrap64 (u - b)) 64)) ≥ (a.length : Int)
 ·
  rw [ip_ c6] at H
  have c6b0 : decide ((a.length : Int) ≤ (wrap64 (Int.tdiv (wrap64 (u - b)) 64))) = true := dt_ c6
  clear c6
  obtain rfl := si_ H
  go_enter Tryz.func50, Tryz.ntmps50
  go_wp2_with (first | ((with_reducible refine gate_dst (N := 2) rfl ?_); (try (refine gate_guard (by rfl) ?_; dsimp only)); refine bxe_ (N := 2) (cs := #[.int .i64 b, .slice n a.length c0_1, .int .i64 o, .int .i64 p, .int .i64 q]) (t := 57) ?_; intro d hg w7 hbox hb; have g := a_ (hbox); have l := a_ (by rw [hg]; exact (bz_ bel_) : w.heap.size ≤ d); have z := l; replace HB := hq_ hb; clear hb hbox hg; obtain ⟨_, _, _, _, _, _, _, _, _, _⟩ := cel5_ g.out))
  go_ret
  exact ⟨er_, bel_⟩
 rw [ig_ c6] at H
 have c6b0 : decide ((a.length : Int) ≤ (wrap64 (Int.tdiv (wrap64 (u - b)) 64))) = false := df_ c6
 clear c6
 obtain ⟨c, s⟩ : ∃ j_ : Int, (wrap64 (Int.tdiv (wrap64 (u - b)) 64)) = j_ := ⟨_, rfl⟩
 replace H : (if 0 ≤ (c) then (if (c) < (a.length : Int) then (some (rd a (c))) else (none)) else (none)) = some r := by first | (rw [s] at H; exact H) | (simp only [s] at H ⊢; exact H)
 (try rw [s] at c6b0)
 have hji9w : (IntKind.i64.wrap (Int.tdiv (wrap64 (u - b)) 64)) = c := (i64_w _).trans s
 by_cases c10 : 0 ≤ (c)
 rotate_left
 ·
  rw [ig_ c10] at H
  exact ab_ H
 rw [ip_ c10] at H
 have c10b0 : decide (0 ≤ (c)) = true := dt_ c10
 clear c10
 by_cases c11 : (c) < (a.length : Int)
 rotate_left
 ·
  rw [ig_ c11] at H
  exact ab_ H
 rw [ip_ c11] at H
 have c11b0 : decide ((c) < (a.length : Int)) = true := dt_ c11
 clear c11
 obtain rfl := si_ H
 go_enter Tryz.func50, Tryz.ntmps50
 go_wp2_with (first | ((with_reducible refine gate_dst (N := 2) rfl ?_); (try (refine gate_guard (by rfl) ?_; dsimp only)); refine bxe_ (N := 2) (cs := #[.int .i64 b, .slice n a.length c0_1, .int .i64 o, .int .i64 p, .int .i64 q]) (t := 57) ?_; intro d hg w12 hbox hb; have g := a_ (hbox); have l := a_ (by rw [hg]; exact (bz_ bel_) : w.heap.size ≤ d); have z := l; replace HB := hq_ hb; clear hb hbox hg; obtain ⟨_, _, _, _, _, _, _, _, _, _⟩ := cel5_ g.out; have p360 : 0 ≤ ((c) : Int) := dq_; have v : (c) < (a.length : Int) := dq_; obtain ⟨F, B, m⟩ := ai_ A.out (c) p360 v; cases B; replace m := hx_ HB m; replace p360 := et_ p360; replace v := et_ v))
 go_ret
 exact ⟨by first | rfl | (simp [errW_none, errW_some] <;> rfl) | (simp only [← s]; first | rfl | (simp [errW_none, errW_some] <;> rfl)) | (simp [*, errW_none, errW_some] <;> rfl), bel_⟩

/-! ### dom_place: function 51 -/
def dom_place.f (a : Int) : Option (Int) := some (Go.bits .andNot .i64 a 63)
set_option maxHeartbeats 8000000 in
set_option maxRecDepth 100000 in
theorem dom_place.calls (a : Int) (r : Int) (w : World) (h : dom_place.f a = some r) :
  Calls Tryz.prog 51 #[.int .i64 a] w fun e w' => e = .returned (.int .i64 r) ∧ Drawn0 w w' := by
 unfold dom_place.f at h
 have H := h
 clear h
 obtain rfl := si_ H
 go_enter Tryz.func51, Tryz.ntmps51
 go_wp2
 go_ret
 exact ⟨by first | rfl | (simp; done) | (simp [*]; done), by repeat (first | exact d0_ _ | apply Drawn0.step)⟩

end Go.Proofs.YtckfbfdnlpnllaaGreatDoor.XAllDiffFilters
