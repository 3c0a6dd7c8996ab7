-- by xprint.py, a program of this session, over the kit's print
import Derived.Test.YtiofjnhmogeenaaGreatDoorXEKex0
import Derived.Test.YtiofjnhmogeenaaGreatDoorXEKex7
import Derived.Test.YtiofjnhmogeenaaGreatDoorXEKex8
import Derived.Test.YtiofjnhmogeenaaGreatDoorXEKex9
import Derived.Test.YtiofjnhmogeenaaGreatDoorSq
namespace Go.Proofs.YtiofjnhmogeenaaGreatDoor.XExtKeeps
open Go.RowKit Go.Proofs.YtiofjnhmogeenaaGreatDoor.Sq Go.Proofs.YtiofjnhmogeenaaGreatDoorW.PrintWords Go.Proofs.YtiofjnhmogeenaaGreatDoorW.PrintLast Go.Proofs.YtiofjnhmogeenaaGreatDoorW.PrintMore
attribute [local go_sem] max2_int min2_int max_two min_two max_three min_three max_four min_four   -- for this text's walks alone
set_option linter.unusedVariables false
set_option linter.unusedSimpArgs false

/-! ### model_Right: function 64 -/
def model_Right.f (k : Nat) (a : Int) (c : List Int) (d : List Int) (e : List Int) (g : List Int) (l : List Int) (b : Int) (m : List (List Int)) (u : Int) : Option (Int) := (model_Shape.f a).bind fun n => (if n.toList = ([] : List UInt8) then (none) else ((model_counted.f a c d e g l b m n).bind fun o => (if o = true then ((model_alike.f a c d e g l b m).bind fun p => (if p = true then (if b = 0 then ((model_Vars.f k a c d e g l b m).bind fun q => ((slices_ContainsFunc_int_int_71_at_model_Right_1.f k q u).bind fun r => (if r = true then (none) else ((model_numbers.f k a c d e g l b m).bind fun s => (if s = true then ((model_counts.f a c d e g l b m).bind fun t => (if t = true then (some 0) else (none))) else (none)))))) else (none)) else (none))) else (none))))
theorem model_Right.mono : ∀ a b c d e g l m n k, LeO (model_Right.f k a b c d e g l m n) (model_Right.f (k + 1) a b c d e g l m n) := by
 intro a b c d e g l m n k
 unfold model_Right.f
 have m0 := @model_Vars.mono
 have m1 := @model_numbers.mono
 have m2 := @slices_ContainsFunc_int_int_71_at_model_Right_1.mono
 exact leo_
set_option maxHeartbeats 8000000 in
set_option maxRecDepth 100000 in
theorem model_Right.calls (k : Nat) (o : Int) (J : Option Addr) (c0_1 : Nat) (b : List Int) (K : Option Addr) (c0_2 : Nat) (c : List Int) (M : Option Addr) (c0_3 : Nat) (d : List Int) (O : Option Addr) (c0_4 : Nat) (g : List Int) (P : Option Addr) (c0_5 : Nat) (l : List Int) (m : Int) (Q : Option Addr) (c0_7 : Nat) (n : List (List Int)) (a1 : Int) (r : Int) (w : World) (ac : Kd.C (Kd.int .i64) w J b.length b) (ad : b.length ≤ c0_1) (ae : Kd.C (Kd.int .i64) w K c.length c) (af : c.length ≤ c0_2) (ag : Kd.C (Kd.int .i64) w M d.length d) (ah : d.length ≤ c0_3) (ai : Kd.C (Kd.int .i64) w O g.length g) (aj : g.length ≤ c0_4) (ak : Kd.C (Kd.int .i64) w P l.length l) (al : l.length ≤ c0_5) (am : Kd.C (Kd.slice 3 (Kd.int .i64)) w Q n.length n) (an : n.length ≤ c0_7) (h : model_Right.f k o b c d g l m n a1 = some r) :
  Calls Tryz.prog 64 #[.agg #[.int .i64 o, .slice J b.length c0_1, .slice K c.length c0_2, .slice M d.length c0_3, .slice O g.length c0_4, .slice P l.length c0_5, .int .i64 m, .slice Q n.length c0_7], .int .i64 a1] w fun e w' => e = .returned (.int .i64 r) ∧ Below w.heap.size w w' := by
 have hu32 := Tryz.underlying32
 have q := a_ ac
 have s := a_ ad
 clear ac ad
 have u := a_ ae
 have v := a_ af
 clear ae af
 have x := a_ ag
 have y := a_ ah
 clear ag ah
 have z := a_ ai
 have A := a_ aj
 clear ai aj
 have B := a_ ak
 have E := a_ al
 clear ak al
 have F := a_ am
 have G := a_ an
 clear am an
 have HB := a_ (Below.refl w.heap.size w)
 unfold model_Right.f at h
 have H := h
 clear h
 replace H := bs_.mp H
 obtain ⟨U, ay, H⟩ := H
 try dsimp only at H
 have A3 := a_ ay
 clear ay
 by_cases c4 : U.toList = ([] : List UInt8)
 ·
  rw [ip_ c4] at H
  exact absurd H (by simp)
 ·
  rw [ig_ c4] at H
  have c4b0 : (U.toList == ([] : List UInt8)) = false := be_.mpr c4
  have c4b1 : (U.toList != ([] : List UInt8)) = true := ni_.mpr c4
  replace H := bs_.mp H
  obtain ⟨aC, az, H⟩ := H
  try dsimp only at H
  have A5 := a_ az
  clear az
  by_cases c6 : aC = true
  ·
   subst c6
   rw [ip_ rfl] at H
   replace H := bs_.mp H
   obtain ⟨aD, aA, H⟩ := H
   try dsimp only at H
   have A7 := a_ aA
   clear aA
   by_cases c8 : aD = true
   ·
    subst c8
    rw [ip_ rfl] at H
    by_cases c9 : m = 0
    ·
     rw [ip_ c9] at H
     have c9b0 : (m == 0) = true := beq_iff_eq.mpr c9
     have c9b1 : (m != 0) = false := bn_.mpr c9
     clear c9
     replace H := bs_.mp H
     obtain ⟨Z, ao, H⟩ := H
     try dsimp only at H
     have aI := a_ ao
     clear ao
     replace H := bs_.mp H
     obtain ⟨aE, ap, H⟩ := H
     try dsimp only at H
     have aJ := a_ ap
     clear ap
     by_cases c12 : aE = true
     ·
      subst c12
      rw [ip_ rfl] at H
      exact absurd H (by simp)
     ·
      replace c12 := bf_.mpr c12
      subst c12
      have H1 : ((model_numbers.f k o b c d g l m n).bind fun aa => (if aa = true then ((model_counts.f o b c d g l m n).bind fun ab => (if ab = true then (some 0) else (none))) else (none))) = some r := by rw [ig_ (show ¬ (false = true) by decide)] at H; exact H
      clear H
      have H := H1
      clear H1
      replace H := bs_.mp H
      obtain ⟨aa, aq, H⟩ := H
      try dsimp only at H
      have aK := a_ aq
      clear aq
      by_cases c14 : aa = true
      ·
       subst c14
       rw [ip_ rfl] at H
       replace H := bs_.mp H
       obtain ⟨ab, ar, H⟩ := H
       try dsimp only at H
       have aL := a_ ar
       clear ar
       by_cases c16 : ab = true
       ·
        subst c16
        rw [ip_ rfl] at H
        obtain rfl := si_ H
        go_enter Tryz.func64, Tryz.ntmps64
        go_wp2_with (first | ((with_reducible refine gate_dst (N := 2) rfl ?_); refine bxe_ (N := 2) (cs := #[.int .i64 o, .slice J b.length c0_1, .slice K c.length c0_2, .slice M d.length c0_3, .slice O g.length c0_4, .slice P l.length c0_5, .int .i64 m, .slice Q n.length c0_7]) (t := 32) ?_; intro V hg w17 hbox hb; have a := a_ (hbox); have av := a_ (by rw [hg]; exact (bz_ bel_) : w.heap.size ≤ V); have aM := av; replace HB := a_ (bp_ bel_ hb); clear hb hbox hg) | ((with_reducible refine gate_dst (N := 3) rfl ?_); refine bxe_ (N := 3) (cs := #[.int .i64 a1]) (t := 3) ?_; intro I hg w18 hbox hb; have p := a_ (hbox); have aw := a_ (by rw [hg]; exact (bz_ bel_) : w.heap.size ≤ I); have aN := aw; replace HB := a_ (bp_ bel_ hb); have X := a_ ((by rw [hg]; exact Nat.ne_of_lt (blk_lt (bk_ a.out)) : V ≠ I)); have Y := a_ ((by rw [hg]; exact Nat.ne_of_gt (blk_lt (bk_ a.out)) : I ≠ V)); replace a := a_ (bb_ (bk_ a.out) hb); clear hb hbox hg; have aO := X.out; have aP := Y.out; obtain ⟨_, _, _, _, _, _, _, _, _, _, _, _, _, _, _, _⟩ := cel8_ a.out) | ((with_reducible refine gate_callee (f := 89) rfl ?_); refine goesL_ (some 8) rfl rfl Tryz.func89 (by kernel_rfl) rfl #[.int .i64 o] rfl ar_ ?_; (with_reducible refine (model_Shape.calls o U _ A3.out).mono ?_); rintro e w21 ⟨rfl, hb⟩; refine ⟨_, rfl, ?_⟩; replace a := a_ (bb_ (bk_ a.out) hb); replace p := a_ (bb_ (bk_ p.out) hb); replace HB := a_ (bp_ bel_ hb); clear hb; obtain ⟨_, _, _, _, _, _, _, _, _, _, _, _, _, _, _, _⟩ := cel8_ a.out) | ((with_reducible refine gate_callee (f := 90) rfl ?_); refine goesL_ (some 15) rfl rfl Tryz.func90 (by kernel_rfl) rfl #[.agg #[.int .i64 o, .slice J b.length c0_1, .slice K c.length c0_2, .slice M d.length c0_3, .slice O g.length c0_4, .slice P l.length c0_5, .int .i64 m, .slice Q n.length c0_7], .string U] rfl ar_ ?_; (with_reducible refine (model_counted.calls o _ _ b _ _ c _ _ d _ _ g _ _ l m _ _ n U true _ ?_ ?_ ?_ ?_ ?_ ?_ ?_ ?_ ?_ ?_ ?_ ?_ A5.out).mono ?_); exact ca_ ((cb_ q.out HB.out)); exact s.out; exact ca_ ((cb_ u.out HB.out)); exact v.out; exact ca_ ((cb_ x.out HB.out)); exact y.out; exact ca_ ((cb_ z.out HB.out)); exact A.out; exact ca_ ((cb_ B.out HB.out)); exact E.out; exact ca_ ((cb_ F.out HB.out)); exact G.out; rintro e w23 ⟨rfl, hb⟩; refine ⟨_, rfl, ?_⟩; replace a := a_ (bb_ (bk_ a.out) hb); replace p := a_ (bb_ (bk_ p.out) hb); replace HB := a_ (bp_ bel_ hb); clear hb; obtain ⟨_, _, _, _, _, _, _, _, _, _, _, _, _, _, _, _⟩ := cel8_ a.out) | (go_at_call 91; (with_reducible refine (model_alike.calls o _ _ b _ _ c _ _ d _ _ g _ _ l m _ _ n true _ ?_ ?_ ?_ ?_ ?_ ?_ ?_ ?_ ?_ ?_ ?_ ?_ A7.out).mono ?_); exact ca_ ((cb_ q.out HB.out)); exact s.out; exact ca_ ((cb_ u.out HB.out)); exact v.out; exact ca_ ((cb_ x.out HB.out)); exact y.out; exact ca_ ((cb_ z.out HB.out)); exact A.out; exact ca_ ((cb_ B.out HB.out)); exact E.out; exact ca_ ((cb_ F.out HB.out)); exact G.out; rintro e w25 ⟨rfl, hb⟩; replace a := a_ (bb_ (bk_ a.out) hb); replace p := a_ (bb_ (bk_ p.out) hb); replace HB := a_ (bp_ bel_ hb); clear hb; obtain ⟨_, _, _, _, _, _, _, _, _, _, _, _, _, _, _, _⟩ := cel8_ a.out) | ((with_reducible refine gate_callee (f := 93) rfl ?_); refine goesL_ (some 34) rfl rfl Tryz.func93 (by kernel_rfl) rfl #[.agg #[.int .i64 o, .slice J b.length c0_1, .slice K c.length c0_2, .slice M d.length c0_3, .slice O g.length c0_4, .slice P l.length c0_5, .int .i64 m, .slice Q n.length c0_7]] rfl ar_ ?_; (with_reducible refine (model_Vars.calls k o (fun k_ => k_ < w.heap.size) _ _ b (fun k_ => k_ < w.heap.size) _ _ c _ _ d _ _ g _ _ l m _ _ n Z _ ?_ ?_ ?_ ?_ ?_ ?_ ?_ ?_ ?_ ?_ aI.out).mono ?_); exact Kd.V_mk s.out (Kd.F_below (Kd.C_F (Kd.heap_int .i64) q.out) bel_); exact Kd.V_mk v.out (Kd.F_below (Kd.C_F (Kd.heap_int .i64) u.out) bel_); exact ca_ ((cb_ x.out HB.out)); exact y.out; exact ca_ ((cb_ z.out HB.out)); exact A.out; exact ca_ ((cb_ B.out HB.out)); exact E.out; exact ca_ ((cb_ F.out HB.out)); exact G.out; rintro e w27 ⟨aT, rfl, aB, hb⟩; refine ⟨_, rfl, ?_⟩; have W := a_ (Kd.R_lower (Kd.R_newB (rm_ (ok' := fun k_ => True) aB (fun _ hk_ => trivial)) (bk_ p.out)) (bz_ bel_)); replace a := a_ (bb_ (bk_ a.out) hb); replace p := a_ (bb_ (bk_ p.out) hb); replace HB := a_ (bp_ bel_ hb); clear hb aB; obtain ⟨aF, aG, aH⟩ := Kd.R_slice W.out; subst aH) | ((with_reducible refine gate_callee (f := 71) rfl ?_); refine goesL_ (some 36) rfl rfl Tryz.func71 (by kernel_rfl) rfl #[.slice aF Z.length aG, .func (.func 94) #[] #[.pointer (some ⟨I, 0, none⟩)]] rfl ar_ ?_; (with_reducible refine (slices_ContainsFunc_int_int_71_at_model_Right_1.calls k _ _ Z I a1 false _ ?side1 ?side2 ?side3 aJ.out).mono ?_); (case side1 => exact ca_ ((rr_ W.out).2.2)); (case side2 => exact (rr_ W.out).2.1); (case side3 => exact by refine bk_ ?_; exact p.out); rintro e w' ⟨rfl, ⟨nd, rfl⟩⟩; refine ⟨_, rfl, ?_⟩; obtain ⟨_, _, _, _, _, _, _, _, _, _, _, _, _, _, _, _⟩ := cel8_ a.out) | ((with_reducible refine gate_callee (f := 95) rfl ?_); refine goesL_ (some 39) rfl rfl Tryz.func95 (by kernel_rfl) rfl #[.agg #[.int .i64 o, .slice J b.length c0_1, .slice K c.length c0_2, .slice M d.length c0_3, .slice O g.length c0_4, .slice P l.length c0_5, .int .i64 m, .slice Q n.length c0_7]] rfl ar_ ?_; (with_reducible refine (model_numbers.calls k o _ _ b _ _ c _ _ d _ _ g _ _ l m _ _ n true _ ?side1 ?side2 ?side3 ?side4 ?side5 ?side6 ?side7 ?side8 ?side9 ?side10 ?side11 ?side12 aK.out).mono ?_); (case side1 => repeat (first | exact (cb_ q.out bel_) | (with_reducible refine Kd.C_alloc ?_ _) | (with_reducible refine Kd.C_drewN ?_ _) | (with_reducible refine Kd.C_drew ?_))); (case side2 => exact s.out); (case side3 => repeat (first | exact (cb_ u.out bel_) | (with_reducible refine Kd.C_alloc ?_ _) | (with_reducible refine Kd.C_drewN ?_ _) | (with_reducible refine Kd.C_drew ?_))); (case side4 => exact v.out); (case side5 => repeat (first | exact (cb_ x.out bel_) | (with_reducible refine Kd.C_alloc ?_ _) | (with_reducible refine Kd.C_drewN ?_ _) | (with_reducible refine Kd.C_drew ?_))); (case side6 => exact y.out); (case side7 => repeat (first | exact (cb_ z.out bel_) | (with_reducible refine Kd.C_alloc ?_ _) | (with_reducible refine Kd.C_drewN ?_ _) | (with_reducible refine Kd.C_drew ?_))); (case side8 => exact A.out); (case side9 => repeat (first | exact (cb_ B.out bel_) | (with_reducible refine Kd.C_alloc ?_ _) | (with_reducible refine Kd.C_drewN ?_ _) | (with_reducible refine Kd.C_drew ?_))); (case side10 => exact E.out); (case side11 => repeat (first | exact (cb_ F.out bel_) | (with_reducible refine Kd.C_alloc ?_ _) | (with_reducible refine Kd.C_drewN ?_ _) | (with_reducible refine Kd.C_drew ?_))); (case side12 => exact G.out); rintro e w30 ⟨rfl, hb⟩; refine ⟨_, rfl, ?_⟩; replace a := a_ (bb_ (bk_ a.out) hb); replace HB := a_ (bp_ bel_ hb); clear hb; obtain ⟨_, _, _, _, _, _, _, _, _, _, _, _, _, _, _, _⟩ := cel8_ a.out) | (go_at_call 96; (with_reducible refine (model_counts.calls o _ _ b _ _ c _ _ d _ _ g _ _ l m _ _ n true _ ?_ ?_ ?_ ?_ ?_ ?_ ?_ ?_ ?_ ?_ ?_ ?_ aL.out).mono ?_); exact ca_ ((cb_ q.out HB.out)); exact s.out; exact ca_ ((cb_ u.out HB.out)); exact v.out; exact ca_ ((cb_ x.out HB.out)); exact y.out; exact ca_ ((cb_ z.out HB.out)); exact A.out; exact ca_ ((cb_ B.out HB.out)); exact E.out; exact ca_ ((cb_ F.out HB.out)); exact G.out; rintro e w32 ⟨rfl, hb⟩; replace HB := a_ (bp_ bel_ hb); clear hb))
        go_ret
        exact ⟨by first | rfl | (simp [errW_none, errW_some] <;> rfl) | (simp [*, errW_none, errW_some] <;> rfl), bel_⟩
       ·
        replace c16 := bf_.mpr c16
        subst c16
        have H1 : (none) = some r := by rw [ig_ (show ¬ (false = true) by decide)] at H; exact H
        clear H
        have H := H1
        clear H1
        exact absurd H (by simp)
      ·
       replace c14 := bf_.mpr c14
       subst c14
       have H1 : (none) = some r := by rw [ig_ (show ¬ (false = true) by decide)] at H; exact H
       clear H
       have H := H1
       clear H1
       exact absurd H (by simp)
    ·
     rw [ig_ c9] at H
     exact absurd H (by simp)
   ·
    replace c8 := bf_.mpr c8
    subst c8
    have H1 : (none) = some r := by rw [ig_ (show ¬ (false = true) by decide)] at H; exact H
    clear H
    have H := H1
    clear H1
    exact absurd H (by simp)
  ·
   replace c6 := bf_.mpr c6
   subst c6
   have H1 : (none) = some r := by rw [ig_ (show ¬ (false = true) by decide)] at H; exact H
   clear H
   have H := H1
   clear H1
   exact absurd H (by simp)

/-! ### dom_Dom_88_at_prop_Fits_1: function 88 -/
def dom_Dom_88_at_prop_Fits_1.l0 : Nat → List (S61) → Int → Int → Option (Int)
 | 0, _, _, _ => none
 | k + 1, b, d, a => if a < d then (if 0 ≤ a then (if a < (b.length : Int) then ((prop_Fits_1.f ((rd_T61 b a).f0) ((rd_T61 b a).f1) ((rd_T61 b a).f2) ((rd_T61 b a).f3) ((rd_T61 b a).f4)).bind fun c => (if c = true then (some a) else (dom_Dom_88_at_prop_Fits_1.l0 k b d (wrap64 (a + 1))))) else (none)) else (none)) else (some (-1))
def dom_Dom_88_at_prop_Fits_1.f (k : Nat) (a : List (S61))  : Option (Int) := dom_Dom_88_at_prop_Fits_1.l0 k a (a.length : Int) 0
theorem dom_Dom_88_at_prop_Fits_1.mono_l : ∀ k, (∀ a b c, LeO (dom_Dom_88_at_prop_Fits_1.l0 k a b c) (dom_Dom_88_at_prop_Fits_1.l0 (k + 1) a b c))
 | 0 => fun _ _ _ r h => by simp [dom_Dom_88_at_prop_Fits_1.l0] at h
 | k + 1 => by
  have ih0 := dom_Dom_88_at_prop_Fits_1.mono_l k
  ·
   intro a b c
   unfold dom_Dom_88_at_prop_Fits_1.l0
   exact leo_
theorem dom_Dom_88_at_prop_Fits_1.mono : ∀ a k, LeO (dom_Dom_88_at_prop_Fits_1.f k a) (dom_Dom_88_at_prop_Fits_1.f (k + 1) a) := by
 intro a k
 have ih0 := dom_Dom_88_at_prop_Fits_1.mono_l k
 unfold dom_Dom_88_at_prop_Fits_1.f
 exact leo_
set_option maxHeartbeats 8000000 in
set_option maxRecDepth 100000 in
theorem dom_Dom_88_at_prop_Fits_1.calls (k : Nat) (F : Option Addr) (c0 : Nat) (m : List (S61))  (r : Int) (w : World) (x : Kd.C k61 w F m.length m) (y : m.length ≤ c0) (h : dom_Dom_88_at_prop_Fits_1.f k m = some r) :
  Calls Tryz.prog 88 #[.slice F m.length c0, .func (.func 63) #[] #[]] w fun e w' => e = .returned (.int .i64 r) ∧ Below w.heap.size w w' := by
 have hu61 := Tryz.underlying61
 have z := a_ x
 have J := a_ y
 clear x y
 have HB := a_ (Below.refl w.heap.size w)
 unfold dom_Dom_88_at_prop_Fits_1.f at h
 have H := h
 clear h
 have H' := a_ H
 clear H
 go_enter Tryz.func88, Tryz.ntmps88
 go_wp2
 go_loopg [8] k (fun kq I w' => ∃ (a : Int), I = .int .i64 a ∧ Aside0 (dom_Dom_88_at_prop_Fits_1.l0 kq m (m.length : Int) a = some r) ∧ Aside0 (kq ≤ k) ∧ Aside0 (Below w.heap.size w w'))
 case atStart => exact ⟨(0), eq_, H', ⟨lr_ _⟩, ⟨bel_⟩⟩
 case round =>
  clear H'
  try clear p2
  obtain ⟨a, rfl, HA, A, HB⟩ := hrel
  cases gk with
  | zero => exact absurd HA.out (by simp [dom_Dom_88_at_prop_Fits_1.l0])
  | succ k1 =>
   have H := HA.out
   clear HA
   simp only [dom_Dom_88_at_prop_Fits_1.l0] at H
   by_cases c3 : a < (m.length : Int)
   ·
    rw [ip_ c3] at H
    have c3b0 : decide (a < (m.length : Int)) = true := dt_ c3
    clear c3
    by_cases c4 : 0 ≤ a
    ·
     rw [ip_ c4] at H
     have c4b0 : decide (0 ≤ a) = true := dt_ c4
     clear c4
     by_cases c5 : a < (m.length : Int)
     ·
      rw [ip_ c5] at H
      have c5b0 : decide (a < (m.length : Int)) = true := dt_ c5
      clear c5
      replace H := bs_.mp H
      obtain ⟨E, B, H⟩ := H
      try dsimp only at H
      have G := a_ B
      clear B
      by_cases c7 : E = true
      ·
       subst c7
       rw [ip_ rfl] at H
       obtain rfl := si_ H
       have p288 : 0 ≤ (a : Int) := dq_
       have p : a < (m.length : Int) := dq_
       obtain ⟨v, u, c288_1, t, b, c, d, g, l, n, o⟩ := at_T61 z.out a p288 p
       cases t
       replace b := (HB.out.cell (wl_ w _ b)).trans b
       replace c := (HB.out.cell (wl_ w _ c)).trans c
       replace d := (HB.out.cell (wl_ w _ d)).trans d
       replace g := (HB.out.cell (wl_ w _ g)).trans g
       replace l := (HB.out.cell (wl_ w _ l)).trans l
       have q := a_ o
       have s := a_ n
       clear o n
       replace p288 := et_ p288
       replace p := et_ p
       go_wp2_with (first | (go_at_call 63; (with_reducible refine (prop_Fits_1.calls ((rd_T61 m a).f0) _ _ ((rd_T61 m a).f1) ((rd_T61 m a).f2) ((rd_T61 m a).f3) ((rd_T61 m a).f4) true _ ?_ ?_ G.out).mono ?_); exact ca_ ((cb_ q.out HB.out)); exact s.out; rintro e w8 ⟨rfl, hb⟩; replace HB := a_ (bp_ bel_ hb); clear hb))
       go_ret
       exact ⟨by first | rfl | (simp [errW_none, errW_some] <;> rfl) | (simp [*, errW_none, errW_some] <;> rfl), bel_⟩
      ·
       replace c7 := bf_.mpr c7
       subst c7
       have H1 : (dom_Dom_88_at_prop_Fits_1.l0 k1 m (m.length : Int) (wrap64 (a + 1))) = some r := by rw [ig_ (show ¬ (false = true) by decide)] at H; exact H
       clear H
       have H := H1
       clear H1
       have H' := a_ H
       clear H
       have p288 : 0 ≤ (a : Int) := dq_
       have p : a < (m.length : Int) := dq_
       obtain ⟨v, u, c288_1, t, b, c, d, g, l, n, o⟩ := at_T61 z.out a p288 p
       cases t
       replace b := (HB.out.cell (wl_ w _ b)).trans b
       replace c := (HB.out.cell (wl_ w _ c)).trans c
       replace d := (HB.out.cell (wl_ w _ d)).trans d
       replace g := (HB.out.cell (wl_ w _ g)).trans g
       replace l := (HB.out.cell (wl_ w _ l)).trans l
       have q := a_ o
       have s := a_ n
       clear o n
       replace p288 := et_ p288
       replace p := et_ p
       go_wp2_with (first | (go_at_call 63; (with_reducible refine (prop_Fits_1.calls ((rd_T61 m a).f0) _ _ ((rd_T61 m a).f1) ((rd_T61 m a).f2) ((rd_T61 m a).f3) ((rd_T61 m a).f4) false _ ?_ ?_ G.out).mono ?_); exact ca_ ((cb_ q.out HB.out)); exact s.out; rintro e w9 ⟨rfl, hb⟩; replace HB := a_ (bp_ bel_ hb); clear hb))
       go_roundg k1
       case measure => have := A.out; omega
       case rel => exact ⟨(wrap64 (a + 1)), eq_, H', ⟨by have := A.out; omega⟩, ⟨bel_⟩⟩
     ·
      rw [ig_ c5] at H
      exact absurd H (by simp)
    ·
     rw [ig_ c4] at H
     exact absurd H (by simp)
   ·
    rw [ig_ c3] at H
    have c3b0 : decide (a < (m.length : Int)) = false := df_ c3
    clear c3
    obtain rfl := si_ H
    go_wp2
    go_ret
    exact ⟨by first | rfl | (simp [errW_none, errW_some] <;> rfl) | (simp [*, errW_none, errW_some] <;> rfl), bel_⟩

/-! ### dom_Dom_62_at_prop_Fits_1: function 62 -/
def dom_Dom_62_at_prop_Fits_1.f (k : Nat) (b : List (S61))  : Option (Bool) := (dom_Dom_88_at_prop_Fits_1.f k b).bind fun a => (some (decide (a ≥ 0)))
theorem dom_Dom_62_at_prop_Fits_1.mono : ∀ a k, LeO (dom_Dom_62_at_prop_Fits_1.f k a) (dom_Dom_62_at_prop_Fits_1.f (k + 1) a) := by
 intro a k
 unfold dom_Dom_62_at_prop_Fits_1.f
 have m0 := @dom_Dom_88_at_prop_Fits_1.mono
 exact leo_
set_option maxHeartbeats 8000000 in
set_option maxRecDepth 100000 in
theorem dom_Dom_62_at_prop_Fits_1.calls (k : Nat) (g : Option Addr) (c0 : Nat) (a : List (S61))  (r : Bool) (w : World) (b : Kd.C k61 w g a.length a) (c : a.length ≤ c0) (h : dom_Dom_62_at_prop_Fits_1.f k a = some r) :
  Calls Tryz.prog 62 #[.slice g a.length c0, .func (.func 63) #[] #[]] w fun e w' => e = .returned (.bool r) ∧ Below w.heap.size w w' := by
 have m := a_ b
 have n := a_ c
 clear b c
 have HB := a_ (Below.refl w.heap.size w)
 unfold dom_Dom_62_at_prop_Fits_1.f at h
 have H := h
 clear h
 replace H := bs_.mp H
 obtain ⟨l, d, H⟩ := H
 try dsimp only at H
 have o := a_ d
 clear d
 obtain rfl := si_ H
 go_enter Tryz.func62, Tryz.ntmps62
 go_wp2_with (first | ((with_reducible refine gate_callee (f := 88) rfl ?_); refine goesL_ (some 7) rfl rfl Tryz.func88 (by kernel_rfl) rfl #[.slice g a.length c0, .func (.func 63) #[] #[]] rfl ar_ ?_; (with_reducible refine (dom_Dom_88_at_prop_Fits_1.calls k _ _ a l _ ?_ ?_ o.out).mono ?_); exact ca_ (m.out); exact n.out; rintro e w4 ⟨rfl, hb⟩; refine ⟨_, rfl, ?_⟩; replace HB := a_ (bp_ bel_ hb); clear hb))
 go_ret
 exact ⟨by first | rfl | (simp [errW_none, errW_some] <;> rfl) | (simp [*, errW_none, errW_some] <;> rfl), bel_⟩

end Go.Proofs.YtiofjnhmogeenaaGreatDoor.XExtKeeps
