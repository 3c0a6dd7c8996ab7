-- by xprint.py, a program of this session, over the kit's print
import Derived.Test.YtiofjnhmogeenaaGreatDoorXEFix0
import Derived.Test.YtiofjnhmogeenaaGreatDoorXEFix8
import Derived.Test.YtiofjnhmogeenaaGreatDoorXEFix9
import Derived.Test.YtiofjnhmogeenaaGreatDoorXEFix10
import Derived.Test.YtiofjnhmogeenaaGreatDoorXEFix17
import Derived.Test.YtiofjnhmogeenaaGreatDoorXEFix19
import Derived.Test.YtiofjnhmogeenaaGreatDoorXEFix20
import Derived.Test.YtiofjnhmogeenaaGreatDoorSq
namespace Go.Proofs.YtiofjnhmogeenaaGreatDoor.XExtFilters
open Go.RowKit Go.Proofs.YtiofjnhmogeenaaGreatDoor.Sq Go.Proofs.YtiofjnhmogeenaaGreatDoorW.PrintWords Go.Proofs.YtiofjnhmogeenaaGreatDoorW.PrintLast Go.Proofs.YtiofjnhmogeenaaGreatDoorW.PrintMore
attribute [local go_sem] max2_int min2_int max_two min_two max_three min_three max_four min_four   -- for this text's walks alone
set_option linter.unusedVariables false
set_option linter.unusedSimpArgs false

/-! ### jigsawref12_Filter: function 12 -/
def jigsawref12_Filter.f (k : Nat) (a : Int) (e : List Int) (g : List Int) (l : List Int) (m : List Int) (n : List Int) (o : Int) (p : List (List Int)) (b : List (List Int)) : Option ((List (List Int)) × Bool) := (jigsawref10_Fits.f k a e g l m n o p b 8 10).bind fun q => (if q = true then (if a = 8 then ((jigsawref12_abs.f k b).bind fun c => (some (c.1, c.2))) else (if 0 < (b.length : Int) then (if 1 < (b.length : Int) then (if (wrap64 (((rd_L5 b 0).length : Int) * ((rd_L5 b 1).length : Int))) ≤ 4096 then ((jigsawref11_Pairs.f k a b).bind fun d => (some (d.1, d.2))) else (none)) else (none)) else (none))) else (none))
theorem jigsawref12_Filter.mono : ∀ a b c d e g l m n k, LeO (jigsawref12_Filter.f k a b c d e g l m n) (jigsawref12_Filter.f (k + 1) a b c d e g l m n) := by
 intro a b c d e g l m n k
 unfold jigsawref12_Filter.f
 have m0 := @jigsawref10_Fits.mono
 have m1 := @jigsawref11_Pairs.mono
 have m2 := @jigsawref12_abs.mono
 exact leo_
set_option maxHeartbeats 8000000 in
set_option maxRecDepth 100000 in
theorem jigsawref12_Filter.calls (k : Nat) (d : Int) (J : Option Addr) (c0_1 : Nat) (m : List Int) (K : Option Addr) (c0_2 : Nat) (n : List Int) (M : Option Addr) (c0_3 : Nat) (o : List Int) (O : Option Addr) (c0_4 : Nat) (p : List Int) (P : Option Addr) (c0_5 : Nat) (q : List Int) (x : Int) (Q : Option Addr) (c0_7 : Nat) (r : List (List Int)) (A1 : Option Addr) (c1 : Nat) (l : List (List Int)) (r1 : List (List Int)) (r2 : Bool) (w : World) (ax : Kd.C (Kd.int .i64) w J m.length m) (ay : m.length ≤ c0_1) (az : Kd.C (Kd.int .i64) w K n.length n) (aA : n.length ≤ c0_2) (aB : Kd.C (Kd.int .i64) w M o.length o) (aC : o.length ≤ c0_3) (aD : Kd.C (Kd.int .i64) w O p.length p) (aE : p.length ≤ c0_4) (aF : Kd.C (Kd.int .i64) w P q.length q) (aG : q.length ≤ c0_5) (aH : Kd.C (Kd.slice 3 (Kd.int .i64)) w Q r.length r) (aI : r.length ≤ c0_7) (aQ : Kd.C (Kd.slice 3 (Kd.int .i64)) w A1 l.length l) (aR : l.length ≤ c1) (h : jigsawref12_Filter.f k d m n o p q x r l = some (r1, r2)) :
  Calls Tryz.prog 12 #[.agg #[.int .i64 d, .slice J m.length c0_1, .slice K n.length c0_2, .slice M o.length c0_3, .slice O p.length c0_4, .slice P q.length c0_5, .int .i64 x, .slice Q r.length c0_7], .slice A1 l.length c1] w fun e w' => ∃ aS : Value, e = .returned (.tuple #[aS, .bool r2]) ∧ Kd.N (Kd.slice 3 (Kd.int .i64)) 30 w' w.heap.size (fun s => (w.heap.size ≤ s)) aS r1 ∧ Below w.heap.size w w' := by
 have hu32 := Tryz.underlying32
 have U := a_ ax
 have V := a_ ay
 clear ax ay
 have W := a_ az
 have X := a_ aA
 clear az aA
 have Y := a_ aB
 have Z := a_ aC
 clear aB aC
 have aa := a_ aD
 have ab := a_ aE
 clear aD aE
 have ac := a_ aF
 have ad := a_ aG
 clear aF aG
 have ae := a_ aH
 have af := a_ aI
 clear aH aI
 have z := a_ aQ
 have I := a_ aR
 clear aQ aR
 have HB := a_ (Below.refl w.heap.size w)
 unfold jigsawref12_Filter.f at h
 have H := h
 clear h
 replace H := bs_.mp H
 obtain ⟨aX, aT, H⟩ := H
 try dsimp only at H
 have A3 := a_ aT
 clear aT
 by_cases c4 : aX = true
 ·
  subst c4
  rw [ip_ rfl] at H
  by_cases c5 : d = 8
  ·
   rw [ip_ c5] at H
   have c5b0 : (d == 8) = true := beq_iff_eq.mpr c5
   have c5b1 : (d != 8) = false := bn_.mpr c5
   clear c5
   replace H := bs_.mp H
   obtain ⟨⟨ar, au⟩, aU, H⟩ := H
   try dsimp only at H
   have A6 := a_ aU
   clear aU
   simp only [Option.some.injEq, Prod.mk.injEq] at H
   obtain ⟨rfl, rfl⟩ := H
   go_enter Tryz.func12, Tryz.ntmps12
   go_wp2_with (first | ((with_reducible refine gate_dst (N := 2) rfl ?_); refine bxe_ (N := 2) (cs := #[.int .i64 d, .slice J m.length c0_1, .slice K n.length c0_2, .slice M o.length c0_3, .slice O p.length c0_4, .slice P q.length c0_5, .int .i64 x, .slice Q r.length c0_7]) (t := 32) ?_; intro g hg w7 hbox hb; have a := a_ (hbox); have y := a_ (by rw [hg]; exact (bz_ bel_) : w.heap.size ≤ g); have ag := y; replace HB := a_ (bp_ bel_ hb); clear hb hbox hg; obtain ⟨_, _, _, _, _, _, _, _, _, _, _, _, _, _, _, _⟩ := cel8_ a.out) | (go_at_call 17; (with_reducible refine (jigsawref10_Fits.calls k d _ _ m _ _ n _ _ o _ _ p _ _ q x _ _ r _ _ l 8 10 true _ ?_ ?_ ?_ ?_ ?_ ?_ ?_ ?_ ?_ ?_ ?_ ?_ ?_ ?_ A3.out).mono ?_); exact ca_ ((cb_ U.out HB.out)); exact V.out; exact ca_ ((cb_ W.out HB.out)); exact X.out; exact ca_ ((cb_ Y.out HB.out)); exact Z.out; exact ca_ ((cb_ aa.out HB.out)); exact ab.out; exact ca_ ((cb_ ac.out HB.out)); exact ad.out; exact ca_ ((cb_ ae.out HB.out)); exact af.out; exact ca_ ((cb_ z.out HB.out)); exact I.out; rintro e w9 ⟨rfl, hb⟩; replace a := a_ (bb_ (bk_ a.out) hb); replace HB := a_ (bp_ bel_ hb); clear hb; obtain ⟨_, _, _, _, _, _, _, _, _, _, _, _, _, _, _, _⟩ := cel8_ a.out) | (go_at_call 36; (with_reducible refine (jigsawref12_abs.calls k _ _ l ar au _ ?_ ?_ A6.out).mono ?_); exact ca_ ((cb_ z.out HB.out)); exact I.out; rintro e w11 ⟨aM, rfl, A, hb⟩; have an := a_ (Kd.N_lower (nm_ (ok' := fun s => (w.heap.size ≤ s) ∧ s ≠ g) A (fun s hk_ => ⟨(Nat.le_trans (bz_ bel_) hk_), (Kd.freshB (bk_ a.out) s hk_)⟩)) (bz_ bel_)); replace a := a_ (bb_ (bk_ a.out) hb); replace HB := a_ (bp_ bel_ hb); clear hb A))
   repeat (go_quiet (first | ((with_reducible refine gate_dst (N := 2) rfl ?_); refine bxe_ (N := 2) (cs := #[.int .i64 d, .slice J m.length c0_1, .slice K n.length c0_2, .slice M o.length c0_3, .slice O p.length c0_4, .slice P q.length c0_5, .int .i64 x, .slice Q r.length c0_7]) (t := 32) ?_; intro g hg w7 hbox hb; have a := a_ (hbox); have y := a_ (by rw [hg]; exact (bz_ bel_) : w.heap.size ≤ g); have ag := y; replace HB := a_ (bp_ bel_ hb); clear hb hbox hg; obtain ⟨_, _, _, _, _, _, _, _, _, _, _, _, _, _, _, _⟩ := cel8_ a.out) | (go_at_call 17; (with_reducible refine (jigsawref10_Fits.calls k d _ _ m _ _ n _ _ o _ _ p _ _ q x _ _ r _ _ l 8 10 true _ ?_ ?_ ?_ ?_ ?_ ?_ ?_ ?_ ?_ ?_ ?_ ?_ ?_ ?_ A3.out).mono ?_); exact ca_ ((cb_ U.out HB.out)); exact V.out; exact ca_ ((cb_ W.out HB.out)); exact X.out; exact ca_ ((cb_ Y.out HB.out)); exact Z.out; exact ca_ ((cb_ aa.out HB.out)); exact ab.out; exact ca_ ((cb_ ac.out HB.out)); exact ad.out; exact ca_ ((cb_ ae.out HB.out)); exact af.out; exact ca_ ((cb_ z.out HB.out)); exact I.out; rintro e w9 ⟨rfl, hb⟩; replace a := a_ (bb_ (bk_ a.out) hb); replace HB := a_ (bp_ bel_ hb); clear hb; obtain ⟨_, _, _, _, _, _, _, _, _, _, _, _, _, _, _, _⟩ := cel8_ a.out) | (go_at_call 36; (with_reducible refine (jigsawref12_abs.calls k _ _ l ar au _ ?_ ?_ A6.out).mono ?_); exact ca_ ((cb_ z.out HB.out)); exact I.out; rintro e w11 ⟨aM, rfl, A, hb⟩; have an := a_ (Kd.N_lower (nm_ (ok' := fun s => (w.heap.size ≤ s) ∧ s ≠ g) A (fun s hk_ => ⟨(Nat.le_trans (bz_ bel_) hk_), (Kd.freshB (bk_ a.out) s hk_)⟩)) (bz_ bel_)); replace a := a_ (bb_ (bk_ a.out) hb); replace HB := a_ (bp_ bel_ hb); clear hb A)); try go_wp2_with (first | ((with_reducible refine gate_dst (N := 2) rfl ?_); refine bxe_ (N := 2) (cs := #[.int .i64 d, .slice J m.length c0_1, .slice K n.length c0_2, .slice M o.length c0_3, .slice O p.length c0_4, .slice P q.length c0_5, .int .i64 x, .slice Q r.length c0_7]) (t := 32) ?_; intro g hg w7 hbox hb; have a := a_ (hbox); have y := a_ (by rw [hg]; exact (bz_ bel_) : w.heap.size ≤ g); have ag := y; replace HB := a_ (bp_ bel_ hb); clear hb hbox hg; obtain ⟨_, _, _, _, _, _, _, _, _, _, _, _, _, _, _, _⟩ := cel8_ a.out) | (go_at_call 17; (with_reducible refine (jigsawref10_Fits.calls k d _ _ m _ _ n _ _ o _ _ p _ _ q x _ _ r _ _ l 8 10 true _ ?_ ?_ ?_ ?_ ?_ ?_ ?_ ?_ ?_ ?_ ?_ ?_ ?_ ?_ A3.out).mono ?_); exact ca_ ((cb_ U.out HB.out)); exact V.out; exact ca_ ((cb_ W.out HB.out)); exact X.out; exact ca_ ((cb_ Y.out HB.out)); exact Z.out; exact ca_ ((cb_ aa.out HB.out)); exact ab.out; exact ca_ ((cb_ ac.out HB.out)); exact ad.out; exact ca_ ((cb_ ae.out HB.out)); exact af.out; exact ca_ ((cb_ z.out HB.out)); exact I.out; rintro e w9 ⟨rfl, hb⟩; replace a := a_ (bb_ (bk_ a.out) hb); replace HB := a_ (bp_ bel_ hb); clear hb; obtain ⟨_, _, _, _, _, _, _, _, _, _, _, _, _, _, _, _⟩ := cel8_ a.out) | (go_at_call 36; (with_reducible refine (jigsawref12_abs.calls k _ _ l ar au _ ?_ ?_ A6.out).mono ?_); exact ca_ ((cb_ z.out HB.out)); exact I.out; rintro e w11 ⟨aM, rfl, A, hb⟩; have an := a_ (Kd.N_lower (nm_ (ok' := fun s => (w.heap.size ≤ s) ∧ s ≠ g) A (fun s hk_ => ⟨(Nat.le_trans (bz_ bel_) hk_), (Kd.freshB (bk_ a.out) s hk_)⟩)) (bz_ bel_)); replace a := a_ (bb_ (bk_ a.out) hb); replace HB := a_ (bp_ bel_ hb); clear hb A)))
   go_ret2
   exact ⟨_, by first | rfl | (simp [errW_none, errW_some] <;> rfl) | (simp [*, errW_none, errW_some] <;> rfl), by refine vN_ ?_; exact nm_ an.out (fun _ hk => hk.1), bel_⟩
  ·
   rw [ig_ c5] at H
   have c5b0 : (d == 8) = false := be_.mpr c5
   have c5b1 : (d != 8) = true := ni_.mpr c5
   by_cases c12 : 0 < (l.length : Int)
   ·
    rw [ip_ c12] at H
    have c12b0 : decide (0 < (l.length : Int)) = true := dt_ c12
    have c12b1 : decide (0 < l.length) = true := dt_ (by omega)
    clear c12
    by_cases c13 : 1 < (l.length : Int)
    ·
     rw [ip_ c13] at H
     have c13b0 : decide (1 < (l.length : Int)) = true := dt_ c13
     have c13b1 : decide (1 < l.length) = true := dt_ (by omega)
     clear c13
     by_cases c14 : (wrap64 (((rd_L5 l 0).length : Int) * ((rd_L5 l 1).length : Int))) ≤ 4096
     ·
      rw [ip_ c14] at H
      have c14b0 : decide ((wrap64 (((rd_L5 l 0).length : Int) * ((rd_L5 l 1).length : Int))) ≤ 4096) = true := dt_ c14
      clear c14
      replace H := bs_.mp H
      obtain ⟨⟨av, aw⟩, aN, H⟩ := H
      try dsimp only at H
      have aO := a_ aN
      clear aN
      simp only [Option.some.injEq, Prod.mk.injEq] at H
      obtain ⟨rfl, rfl⟩ := H
      go_enter Tryz.func12, Tryz.ntmps12
      go_wp2_with (first | ((with_reducible refine gate_dst (N := 2) rfl ?_); refine bxe_ (N := 2) (cs := #[.int .i64 d, .slice J m.length c0_1, .slice K n.length c0_2, .slice M o.length c0_3, .slice O p.length c0_4, .slice P q.length c0_5, .int .i64 x, .slice Q r.length c0_7]) (t := 32) ?_; intro g hg w16 hbox hb; have a := a_ (hbox); have y := a_ (by rw [hg]; exact (bz_ bel_) : w.heap.size ≤ g); have ag := y; replace HB := a_ (bp_ bel_ hb); clear hb hbox hg; obtain ⟨_, _, _, _, _, _, _, _, _, _, _, _, _, _, _, _⟩ := cel8_ a.out) | (go_at_call 17; (with_reducible refine (jigsawref10_Fits.calls k d _ _ m _ _ n _ _ o _ _ p _ _ q x _ _ r _ _ l 8 10 true _ ?_ ?_ ?_ ?_ ?_ ?_ ?_ ?_ ?_ ?_ ?_ ?_ ?_ ?_ A3.out).mono ?_); exact ca_ ((cb_ U.out HB.out)); exact V.out; exact ca_ ((cb_ W.out HB.out)); exact X.out; exact ca_ ((cb_ Y.out HB.out)); exact Z.out; exact ca_ ((cb_ aa.out HB.out)); exact ab.out; exact ca_ ((cb_ ac.out HB.out)); exact ad.out; exact ca_ ((cb_ ae.out HB.out)); exact af.out; exact ca_ ((cb_ z.out HB.out)); exact I.out; rintro e w18 ⟨rfl, hb⟩; replace a := a_ (bb_ (bk_ a.out) hb); replace HB := a_ (bp_ bel_ hb); clear hb; obtain ⟨_, _, _, _, _, _, _, _, _, _, _, _, _, _, _, _⟩ := cel8_ a.out; have p552 : 0 ≤ (0 : Int) := (by omega); have B : 0 < (l.length : Int) := dq_; obtain ⟨ah, ap, c552_0, aj, b, u, F⟩ := at_L5 z.out 0 p552 B; cases aj; have aJ : (0 < l.length) = True := et_ (by omega); (try rw [show ((0 : Int)).toNat = 0 from rfl] at b); (try rw [Addr.add_zero'] at b); replace b := (HB.out.cell (wl_ w _ b)).trans b; have al := a_ u; clear F u; replace p552 := et_ p552; replace B := et_ B; have p553 : 0 ≤ (1 : Int) := (by omega); have E : 1 < (l.length : Int) := dq_; obtain ⟨ai, aq, c553_0, ak, c, v, G⟩ := at_L5 z.out 1 p553 E; obtain rfl : ah = ai := (by injection ak); (try simp only [show (1 : Int).toNat = 1 from rfl, Nat.reduceMul, Nat.reduceEqDiff, Go.Addr.add, ↓reduceIte] at c); have aK : (1 < l.length) = True := et_ (by omega); (try rw [show ((1 : Int)).toNat = 1 from rfl] at c); replace c := (HB.out.cell (wl_ w _ c)).trans c; have am := a_ v; clear G v; replace p553 := et_ p553; replace E := et_ E) | (go_at_call 37; (with_reducible refine (jigsawref11_Pairs.calls k d _ _ l av aw _ ?_ ?_ aO.out).mono ?_); exact ca_ ((cb_ z.out HB.out)); exact I.out; rintro e w20 ⟨aP, rfl, A, hb⟩; have ao := a_ (Kd.N_lower (nm_ (ok' := fun s => (w.heap.size ≤ s) ∧ s ≠ g) A (fun s hk_ => ⟨(Nat.le_trans (bz_ bel_) hk_), (Kd.freshB (bk_ a.out) s hk_)⟩)) (bz_ bel_)); replace a := a_ (bb_ (bk_ a.out) hb); replace HB := a_ (bp_ bel_ hb); clear hb A))
      repeat (go_quiet (first | ((with_reducible refine gate_dst (N := 2) rfl ?_); refine bxe_ (N := 2) (cs := #[.int .i64 d, .slice J m.length c0_1, .slice K n.length c0_2, .slice M o.length c0_3, .slice O p.length c0_4, .slice P q.length c0_5, .int .i64 x, .slice Q r.length c0_7]) (t := 32) ?_; intro g hg w16 hbox hb; have a := a_ (hbox); have y := a_ (by rw [hg]; exact (bz_ bel_) : w.heap.size ≤ g); have ag := y; replace HB := a_ (bp_ bel_ hb); clear hb hbox hg; obtain ⟨_, _, _, _, _, _, _, _, _, _, _, _, _, _, _, _⟩ := cel8_ a.out) | (go_at_call 17; (with_reducible refine (jigsawref10_Fits.calls k d _ _ m _ _ n _ _ o _ _ p _ _ q x _ _ r _ _ l 8 10 true _ ?_ ?_ ?_ ?_ ?_ ?_ ?_ ?_ ?_ ?_ ?_ ?_ ?_ ?_ A3.out).mono ?_); exact ca_ ((cb_ U.out HB.out)); exact V.out; exact ca_ ((cb_ W.out HB.out)); exact X.out; exact ca_ ((cb_ Y.out HB.out)); exact Z.out; exact ca_ ((cb_ aa.out HB.out)); exact ab.out; exact ca_ ((cb_ ac.out HB.out)); exact ad.out; exact ca_ ((cb_ ae.out HB.out)); exact af.out; exact ca_ ((cb_ z.out HB.out)); exact I.out; rintro e w18 ⟨rfl, hb⟩; replace a := a_ (bb_ (bk_ a.out) hb); replace HB := a_ (bp_ bel_ hb); clear hb; obtain ⟨_, _, _, _, _, _, _, _, _, _, _, _, _, _, _, _⟩ := cel8_ a.out; have p552 : 0 ≤ (0 : Int) := (by omega); have B : 0 < (l.length : Int) := dq_; obtain ⟨ah, ap, c552_0, aj, b, u, F⟩ := at_L5 z.out 0 p552 B; cases aj; have aJ : (0 < l.length) = True := et_ (by omega); (try rw [show ((0 : Int)).toNat = 0 from rfl] at b); (try rw [Addr.add_zero'] at b); replace b := (HB.out.cell (wl_ w _ b)).trans b; have al := a_ u; clear F u; replace p552 := et_ p552; replace B := et_ B; have p553 : 0 ≤ (1 : Int) := (by omega); have E : 1 < (l.length : Int) := dq_; obtain ⟨ai, aq, c553_0, ak, c, v, G⟩ := at_L5 z.out 1 p553 E; obtain rfl : ah = ai := (by injection ak); (try simp only [show (1 : Int).toNat = 1 from rfl, Nat.reduceMul, Nat.reduceEqDiff, Go.Addr.add, ↓reduceIte] at c); have aK : (1 < l.length) = True := et_ (by omega); (try rw [show ((1 : Int)).toNat = 1 from rfl] at c); replace c := (HB.out.cell (wl_ w _ c)).trans c; have am := a_ v; clear G v; replace p553 := et_ p553; replace E := et_ E) | (go_at_call 37; (with_reducible refine (jigsawref11_Pairs.calls k d _ _ l av aw _ ?_ ?_ aO.out).mono ?_); exact ca_ ((cb_ z.out HB.out)); exact I.out; rintro e w20 ⟨aP, rfl, A, hb⟩; have ao := a_ (Kd.N_lower (nm_ (ok' := fun s => (w.heap.size ≤ s) ∧ s ≠ g) A (fun s hk_ => ⟨(Nat.le_trans (bz_ bel_) hk_), (Kd.freshB (bk_ a.out) s hk_)⟩)) (bz_ bel_)); replace a := a_ (bb_ (bk_ a.out) hb); replace HB := a_ (bp_ bel_ hb); clear hb A)); try go_wp2_with (first | ((with_reducible refine gate_dst (N := 2) rfl ?_); refine bxe_ (N := 2) (cs := #[.int .i64 d, .slice J m.length c0_1, .slice K n.length c0_2, .slice M o.length c0_3, .slice O p.length c0_4, .slice P q.length c0_5, .int .i64 x, .slice Q r.length c0_7]) (t := 32) ?_; intro g hg w16 hbox hb; have a := a_ (hbox); have y := a_ (by rw [hg]; exact (bz_ bel_) : w.heap.size ≤ g); have ag := y; replace HB := a_ (bp_ bel_ hb); clear hb hbox hg; obtain ⟨_, _, _, _, _, _, _, _, _, _, _, _, _, _, _, _⟩ := cel8_ a.out) | (go_at_call 17; (with_reducible refine (jigsawref10_Fits.calls k d _ _ m _ _ n _ _ o _ _ p _ _ q x _ _ r _ _ l 8 10 true _ ?_ ?_ ?_ ?_ ?_ ?_ ?_ ?_ ?_ ?_ ?_ ?_ ?_ ?_ A3.out).mono ?_); exact ca_ ((cb_ U.out HB.out)); exact V.out; exact ca_ ((cb_ W.out HB.out)); exact X.out; exact ca_ ((cb_ Y.out HB.out)); exact Z.out; exact ca_ ((cb_ aa.out HB.out)); exact ab.out; exact ca_ ((cb_ ac.out HB.out)); exact ad.out; exact ca_ ((cb_ ae.out HB.out)); exact af.out; exact ca_ ((cb_ z.out HB.out)); exact I.out; rintro e w18 ⟨rfl, hb⟩; replace a := a_ (bb_ (bk_ a.out) hb); replace HB := a_ (bp_ bel_ hb); clear hb; obtain ⟨_, _, _, _, _, _, _, _, _, _, _, _, _, _, _, _⟩ := cel8_ a.out; have p552 : 0 ≤ (0 : Int) := (by omega); have B : 0 < (l.length : Int) := dq_; obtain ⟨ah, ap, c552_0, aj, b, u, F⟩ := at_L5 z.out 0 p552 B; cases aj; have aJ : (0 < l.length) = True := et_ (by omega); (try rw [show ((0 : Int)).toNat = 0 from rfl] at b); (try rw [Addr.add_zero'] at b); replace b := (HB.out.cell (wl_ w _ b)).trans b; have al := a_ u; clear F u; replace p552 := et_ p552; replace B := et_ B; have p553 : 0 ≤ (1 : Int) := (by omega); have E : 1 < (l.length : Int) := dq_; obtain ⟨ai, aq, c553_0, ak, c, v, G⟩ := at_L5 z.out 1 p553 E; obtain rfl : ah = ai := (by injection ak); (try simp only [show (1 : Int).toNat = 1 from rfl, Nat.reduceMul, Nat.reduceEqDiff, Go.Addr.add, ↓reduceIte] at c); have aK : (1 < l.length) = True := et_ (by omega); (try rw [show ((1 : Int)).toNat = 1 from rfl] at c); replace c := (HB.out.cell (wl_ w _ c)).trans c; have am := a_ v; clear G v; replace p553 := et_ p553; replace E := et_ E) | (go_at_call 37; (with_reducible refine (jigsawref11_Pairs.calls k d _ _ l av aw _ ?_ ?_ aO.out).mono ?_); exact ca_ ((cb_ z.out HB.out)); exact I.out; rintro e w20 ⟨aP, rfl, A, hb⟩; have ao := a_ (Kd.N_lower (nm_ (ok' := fun s => (w.heap.size ≤ s) ∧ s ≠ g) A (fun s hk_ => ⟨(Nat.le_trans (bz_ bel_) hk_), (Kd.freshB (bk_ a.out) s hk_)⟩)) (bz_ bel_)); replace HB := a_ (bp_ bel_ hb); clear hb A)))
      go_ret2
      exact ⟨_, by first | rfl | (simp [errW_none, errW_some] <;> rfl) | (simp [*, errW_none, errW_some] <;> rfl), by refine vN_ ?_; exact nm_ ao.out (fun _ hk => hk.1), bel_⟩
     ·
      rw [ig_ c14] at H
      exact absurd H (by simp)
    ·
     rw [ig_ c13] at H
     exact absurd H (by simp)
   ·
    rw [ig_ c12] at H
    exact absurd H (by simp)
 ·
  replace c4 := bf_.mpr c4
  subst c4
  have H1 : (none) = some (r1, r2) := by rw [ig_ (show ¬ (false = true) by decide)] at H; exact H
  clear H
  have H := H1
  clear H1
  exact absurd H (by simp)

/-! ### dom_Range: function 40 -/
mutual
def dom_Range.j0 : Nat → Int → Int → Bool → Option (Int × List Int × Int × Int × Int × Int)
 | 0, _, _, _ => none
 | k + 1, b, c, d => if d = true then (none) else (if b > c then (none) else (if (wrap64 (c - b)) ≥ 65536 then (none) else ((dom_room.f b c).bind fun a => (dom_Range.l0 k c b a.1 a.2.1 a.2.2.1 a.2.2.2.1 a.2.2.2.2))))
def dom_Range.l0 : Nat → Int → Int → Int → List Int → Int → Int → Int → Option (Int × List Int × Int × Int × Int × Int)
 | 0, _, _, _, _, _, _, _ => none
 | k + 1, m, d, a, b, e, g, l => if d ≤ m then (if 0 ≤ (wrap64 (Int.tdiv (wrap64 (d - a)) 64)) then (if (wrap64 (Int.tdiv (wrap64 (d - a)) 64)) < (b.length : Int) then (if 0 ≤ (Int.tmod (wrap64 (d - a)) 64) then (dom_Range.l0 k m (wrap64 (d + 1)) a (b.set ((wrap64 (Int.tdiv (wrap64 (d - a)) 64)) : Int).toNat (Go.bits .or .u64 (rd b (wrap64 (Int.tdiv (wrap64 (d - a)) 64))) (shl .u64 1 (Int.tmod (wrap64 (d - a)) 64)))) e g l) else (none)) else (none)) else (none)) else ((dom_made.f k a b).bind fun c => (some (c.1, c.2.1, c.2.2.1, c.2.2.2.1, c.2.2.2.2, 0)))
end
def dom_Range.f (k : Nat) (a : Int) (b : Int) : Option (Int × List Int × Int × Int × Int × Int) := (dom_in.f a).bind fun c => (if c = true then ((dom_in.f b).bind fun d => (dom_Range.j0 k a b (!d))) else (dom_Range.j0 k a b true))
theorem dom_Range.mono_l : ∀ k, (∀ a b c, LeO (dom_Range.j0 k a b c) (dom_Range.j0 (k + 1) a b c)) ∧ (∀ a b c d e f g, LeO (dom_Range.l0 k a b c d e f g) (dom_Range.l0 (k + 1) a b c d e f g))
 | 0 => ⟨fun _ _ _ r h => by simp [dom_Range.j0] at h, fun _ _ _ _ _ _ _ r h => by simp [dom_Range.l0] at h⟩
 | k + 1 => by
  obtain ⟨ih0, ih1⟩ := dom_Range.mono_l k
  refine ⟨?_, ?_⟩
  ·
   intro a b c
   unfold dom_Range.j0
   have m0 := @dom_made.mono
   exact leo_
  ·
   intro a b c d e f g
   unfold dom_Range.l0
   have m0 := @dom_made.mono
   exact leo_
theorem dom_Range.mono : ∀ a b k, LeO (dom_Range.f k a b) (dom_Range.f (k + 1) a b) := by
 intro a b k
 obtain ⟨ih0, ih1⟩ := dom_Range.mono_l k
 unfold dom_Range.f
 have m0 := @dom_made.mono
 exact leo_
def dom_Range.T11 : Bool × List (List Nat × List Nat) := (true, [([], []), ([0], [0]), ([], []), ([], []), ([3], [3]), ([2, 4], [2, 4]), ([5], [5]), ([1, 6], [1, 6]), ([7], [7]), ([], []), ([], []), ([10], [10]), ([9, 11], [9, 11]), ([12], [12]), ([13], [13]), ([8, 14], [8, 14]), ([1, 6, 0, 1, 2, 3, 4, 5, 6, 7, 8, 9, 10, 11, 12, 13, 14, 15], [1, 6]), ([16, 15, 0, 1, 2, 3, 4, 5, 6, 7, 8, 9, 10, 11, 12, 13, 14, 15], [15, 16])])
def dom_Range.B11 : List Nat := [0, 1, 0, 0, 8, 28, 60, 127, 255, 0, 0, 1024, 3584, 7680, 15872, 32767, 65535, 131071]
theorem dom_Range.tab11 : rtab .any (opsOf Tryz.f40 11) = dom_Range.T11 := by kernel_rfl
theorem dom_Range.bits11 : waitsOk dom_Range.T11.2 dom_Range.B11 = true := by kernel_rfl
set_option maxHeartbeats 8000000 in
set_option maxRecDepth 100000 in
theorem dom_Range.calls (k : Nat) (v : Int) (p : Int) (Q : Int) (U : List Int) (W : Int) (X : Int) (Y : Int) (Z : Int) (w : World) (hrtab : Kd.C (Kd.int .u8) w (some ⟨0, 0, none⟩) tabL.length tabL) (h : dom_Range.f k v p = some (Q, U, W, X, Y, Z)) :
  Calls Tryz.prog 40 #[.int .i64 v, .int .i64 p] w fun e w' => ∃ aI : Value, e = .returned (.tuple #[.agg #[.int .i64 Q, aI, .int .i64 W, .int .i64 X, .int .i64 Y], .int .i64 Z]) ∧ Kd.V (Kd.int .u64) 86 w' w.heap.size (fun u => (w.heap.size ≤ u)) aI U ∧ Below w.heap.size w w' := by
 have hu61 := Tryz.underlying61
 have HRtab := a_ hrtab
 clear hrtab
 have HB := a_ (Below.refl w.heap.size w)
 unfold dom_Range.f at h
 have H := h
 clear h
 have am := a_ H
 clear H
 go_enter Tryz.func40, Tryz.ntmps40
 go_upto_region 1 with (first | ((with_reducible refine gate_dst (N := 4) rfl ?_); refine bxe_ (N := 4) (cs := #[.int .i64 0, .slice none 0 0, .int .i64 0, .int .i64 0, .int .i64 0]) (t := 61) ?_; intro r hg w4 hbox hb; have b := a_ (hbox); have aD := a_ (by rw [hg]; exact (bz_ bel_) : w.heap.size ≤ r); have aE := aD; replace HB := a_ (bp_ bel_ hb); clear hb hbox hg))
 (try simp only [Act.put, List.setIfInBounds_toArray, List.set_cons_zero, List.set_cons_succ])
 go_cut [8] (fun v8 wc => ∃ (kq : Nat) (aa : Bool), v8 = .bool aa ∧ Aside0 (dom_Range.j0 kq v p aa = some (Q, U, W, X, Y, Z)) ∧ Aside0 (kq ≤ k) ∧ Aside0 (wc.heap[r]? = some (.cells #[.int .i64 0, (.slice none 0 0), .int .i64 0, .int .i64 0, .int .i64 0] 61 (0, 0))) ∧ Aside0 (Below w.heap.size w wc))
 case first =>
  have H := am.out
  clear am
  replace H := bs_.mp H
  obtain ⟨aN, aJ, H⟩ := H
  try dsimp only at H
  have A5 := a_ aJ
  clear aJ
  by_cases c6 : aN = true
  ·
   subst c6
   rw [ip_ rfl] at H
   replace H := bs_.mp H
   obtain ⟨an, aK, H⟩ := H
   try dsimp only at H
   have A7 := a_ aK
   clear aK
   have H' := a_ H
   clear H
   go_wp2_with (first | ((with_reducible refine gate_callee (f := 58) rfl ?_); refine goesL_ (some 10) rfl rfl Tryz.func58 (by kernel_rfl) rfl #[.int .i64 v] rfl ar_ ?_; (with_reducible refine (dom_in.calls v true _ A5.out).mono ?_); rintro e w' ⟨rfl, ⟨nd, rfl⟩⟩; refine ⟨_, rfl, ?_⟩) | (go_at_call 58; (with_reducible refine (dom_in.calls p an _ A7.out).mono ?_); rintro e w' ⟨rfl, ⟨nd, rfl⟩⟩))
   go_meet
   case rel => exact ⟨_, (!an), eq_, H', ⟨by first | omega | exact lr_ _⟩, ⟨by refine bk_ ?_; exact b.out⟩, ⟨bel_⟩⟩
  ·
   replace c6 := bf_.mpr c6
   subst c6
   have H1 : (dom_Range.j0 k v p true) = some (Q, U, W, X, Y, Z) := by rw [ig_ (show ¬ (false = true) by decide)] at H; exact H
   clear H
   have H := H1
   clear H1
   have H' := a_ H
   clear H
   go_wp2_with (first | ((with_reducible refine gate_callee (f := 58) rfl ?_); refine goesL_ (some 10) rfl rfl Tryz.func58 (by kernel_rfl) rfl #[.int .i64 v] rfl ar_ ?_; (with_reducible refine (dom_in.calls v false _ A5.out).mono ?_); rintro e w' ⟨rfl, ⟨nd, rfl⟩⟩; refine ⟨_, rfl, ?_⟩))
   go_meet
   case rel => exact ⟨_, (true), eq_, H', ⟨by first | omega | exact lr_ _⟩, ⟨by refine bk_ ?_; exact b.out⟩, ⟨bel_⟩⟩
 case rest =>
  clear am
  try clear p2
  try clear c4
  try clear c5
  try clear c6
  obtain ⟨kq, aa, rfl, HA, aL, b, HB⟩ := hcut
  cases kq with
  | zero => exact absurd HA.out (by simp [dom_Range.j0])
  | succ kj2 =>
   have H := HA.out
   clear HA
   simp only [dom_Range.j0] at H
   by_cases c8 : aa = true
   ·
    subst c8
    rw [ip_ rfl] at H
    exact absurd H (by simp)
   ·
    replace c8 := bf_.mpr c8
    subst c8
    have H1 : (if v > p then (none) else (if (wrap64 (p - v)) ≥ 65536 then (none) else ((dom_room.f v p).bind fun A => (dom_Range.l0 kj2 p v A.1 A.2.1 A.2.2.1 A.2.2.2.1 A.2.2.2.2)))) = some (Q, U, W, X, Y, Z) := by rw [ig_ (show ¬ (false = true) by decide)] at H; exact H
    clear H
    have H := H1
    clear H1
    by_cases c9 : v > p
    ·
     rw [ip_ c9] at H
     exact absurd H (by simp)
    ·
     rw [ig_ c9] at H
     have c9b0 : decide (p < v) = false := df_ c9
     clear c9
     by_cases c10 : (wrap64 (p - v)) ≥ 65536
     ·
      rw [ip_ c10] at H
      exact absurd H (by simp)
     ·
      rw [ig_ c10] at H
      have c10b0 : decide (65536 ≤ (wrap64 (p - v))) = false := df_ c10
      clear c10
      replace H := bs_.mp H
      obtain ⟨⟨g, E, s, x, y⟩, ao, H⟩ := H
      try dsimp only at H
      have aT := a_ ao
      clear ao
      have H' := a_ H
      clear H
      go_wp2_with (first | ((with_reducible refine gate_callee (f := 75) rfl ?_); refine goesL_ (some 31) rfl rfl Tryz.func75 (by kernel_rfl) rfl #[.int .i64 v, .int .i64 p] rfl ar_ ?_; (with_reducible refine (dom_room.calls v p g E s x y _ aT.out).mono ?_); rintro e w12 ⟨a4, rfl, ah, hb⟩; refine ⟨_, rfl, ?_⟩; have J := a_ (Kd.R_lower (Kd.R_newM (M := fun u => (w.heap.size ≤ u)) ah (bz_ bel_) (fun u h_ => h_)) (bz_ bel_)); replace b := a_ (bb_ (bk_ b.out) hb); replace HB := a_ (bp_ bel_ hb); clear hb ah) | ((with_reducible refine gate_dst (N := 6) rfl ?_); refine bxe_ (N := 6) (cs := #[.int .i64 0, .slice none 0 0, .int .i64 0, .int .i64 0, .int .i64 0]) (t := 61) ?_; intro o hg w13 hbox hb; replace J := a_ (rb_ (vR_ J.out) hb); have d := a_ (hbox); have aF := a_ (by rw [hg]; exact (bz_ bel_) : w.heap.size ≤ o); have aG := aF; replace HB := a_ (bp_ bel_ hb); have l := a_ ((by rw [hg]; exact Nat.ne_of_lt (blk_lt (bk_ b.out)) : r ≠ o)); have I := a_ ((by rw [hg]; exact Nat.ne_of_gt (blk_lt (bk_ b.out)) : o ≠ r)); replace b := a_ (bb_ (bk_ b.out) hb); clear hb hbox hg; have aV := I.out; have aW := l.out; obtain ⟨_, _, _, _, _, _, _, _, _, _⟩ := cel5_ d.out; obtain ⟨ab, ac, aO⟩ := Kd.R_slice J.out; subst aO))
      go_loopg [7] kj2 (fun kq v7 w' => ∃ (m : Int) (a : List Int) (u569001 : Value), v7 = .int .i64 m ∧ Aside0 (dom_Range.l0 kq p m g a s x y = some (Q, U, W, X, Y, Z)) ∧ Aside0 (kq ≤ kj2) ∧ Aside0 (Kd.R (Kd.int .u64) 86 w' w.heap.size (fun u => (w.heap.size ≤ u)) u569001 a) ∧ Aside0 (w'.heap[r]? = some (.cells #[.int .i64 0, (.slice none 0 0), .int .i64 0, .int .i64 0, .int .i64 0] 61 (0, 0))) ∧ Aside0 (w'.heap[o]? = some (.cells #[.int .i64 g, u569001, .int .i64 s, .int .i64 x, .int .i64 y] 61 (0, 0))) ∧ Aside0 (Below w.heap.size w w'))
      case atStart => exact ⟨(v), (E), (.slice ab E.length ac), eq_, H', ⟨lr_ _⟩, ⟨by refine vR_ ?_; exact rm_ (fR_ (fR_ (fR_ (fR_ (fR_ (rt_ J.out d.out (by decide))))))) (fun _ hk => hk.1.1)⟩, ⟨by refine bk_ ?_; refine blk_far ?_ l.out _; refine bk_ ?_; refine blk_far ?_ l.out _; refine bk_ ?_; refine blk_far ?_ l.out _; refine bk_ ?_; refine blk_far ?_ l.out _; refine bk_ ?_; refine blk_far ?_ l.out _; refine bk_ ?_; exact b.out⟩, ⟨by refine bk_ ?_; refine bu_ (cs := #[.int .i64 g, .slice ab E.length ac, .int .i64 s, .int .i64 x, .int .i64 0]) ?_ 4 _ rfl; refine bk_ ?_; refine bu_ (cs := #[.int .i64 g, .slice ab E.length ac, .int .i64 s, .int .i64 0, .int .i64 0]) ?_ 3 _ rfl; refine bk_ ?_; refine bu_ (cs := #[.int .i64 g, .slice ab E.length ac, .int .i64 0, .int .i64 0, .int .i64 0]) ?_ 2 _ rfl; refine bk_ ?_; refine bu_ (cs := #[.int .i64 g, .slice none 0 0, .int .i64 0, .int .i64 0, .int .i64 0]) ?_ 1 _ rfl; refine bk_ ?_; refine bu_ (cs := #[.int .i64 0, .slice none 0 0, .int .i64 0, .int .i64 0, .int .i64 0]) ?_ 0 _ rfl; refine bk_ ?_; exact d.out⟩, ⟨bel_⟩⟩
      case round =>
       clear H'
       try clear c1
       try clear p2
       try clear c4
       try clear c5
       try clear c6
       try clear p6
       try clear c7
       try clear c8
       try clear c9
       try clear c9b0
       try clear c10
       try clear c10b0
       try clear c14
       try clear p2
       obtain ⟨m, a, u569001, rfl, HA, aM, HO_569001, b, d, HB⟩ := hrel
       cases gk with
       | zero => exact absurd HA.out (by simp [dom_Range.l0])
       | succ k2 =>
        have H := HA.out
        clear HA
        simp only [dom_Range.l0] at H
        by_cases c17 : m ≤ p
        ·
         rw [ip_ c17] at H
         have c17b0 : decide (m ≤ p) = true := dt_ c17
         clear c17
         obtain ⟨c, ad⟩ : ∃ j_ : Int, (wrap64 (Int.tdiv (wrap64 (m - g)) 64)) = j_ := ⟨_, rfl⟩
         replace H : (if 0 ≤ (c) then (if (c) < (a.length : Int) then (if 0 ≤ (Int.tmod (wrap64 (m - g)) 64) then (dom_Range.l0 k2 p (wrap64 (m + 1)) g (a.set ((c) : Int).toNat (Go.bits .or .u64 (rd a (c)) (shl .u64 1 (Int.tmod (wrap64 (m - g)) 64)))) s x y) else (none)) else (none)) else (none)) = some (Q, U, W, X, Y, Z) := by first | (rw [ad] at H; exact H) | (simp only [ad] at H ⊢; exact H)
         have hji18w : (IntKind.i64.wrap (Int.tdiv (wrap64 (m - g)) 64)) = c := (i64_w _).trans ad
         by_cases c19 : 0 ≤ (c)
         ·
          rw [ip_ c19] at H
          have c19b0 : decide (0 ≤ (c)) = true := dt_ c19
          clear c19
          by_cases c20 : (c) < (a.length : Int)
          ·
           rw [ip_ c20] at H
           have c20b0 : decide ((c) < (a.length : Int)) = true := dt_ c20
           clear c20
           obtain ⟨q, ak⟩ : ∃ j_ : Int, (Int.tmod (wrap64 (m - g)) 64) = j_ := ⟨_, rfl⟩
           replace H : (if 0 ≤ (q) then (dom_Range.l0 k2 p (wrap64 (m + 1)) g (a.set ((c) : Int).toNat (Go.bits .or .u64 (rd a (c)) (shl .u64 1 (q)))) s x y) else (none)) = some (Q, U, W, X, Y, Z) := by first | (rw [ak] at H; exact H) | (simp only [ak] at H ⊢; exact H)
           by_cases c22 : 0 ≤ (q)
           ·
            rw [ip_ c22] at H
            have c22b0 := et_ c22
            have c22b1 : decide (0 ≤ (q)) = true := dt_ c22
            clear c22
            obtain ⟨z, O⟩ : ∃ j_ : Int, (shl .u64 1 (q)) = j_ := ⟨_, rfl⟩
            replace H : (dom_Range.l0 k2 p (wrap64 (m + 1)) g (a.set ((c) : Int).toNat (Go.bits .or .u64 (rd a (c)) (z))) s x y) = some (Q, U, W, X, Y, Z) := by first | (rw [O] at H; exact H) | (simp only [O] at H ⊢; exact H)
            have ap : (IntKind.u64.wrap (1 * 2 ^ min (q).toNat 64)) = z := O
            have hji23z : (q) ≤ 64 → (IntKind.u64.wrap (1 * 2 ^ (q).toNat)) = z := shl_small O
            have hji23u : (IntKind.u64.wrap (2 ^ min (q).toNat 64)) = z := by have h_ := ap; rw [Int.one_mul] at h_; exact h_
            have hji23v : (q) ≤ 64 → (IntKind.u64.wrap (2 ^ (q).toNat)) = z := fun hle_ => by have h_ := hji23z hle_; rw [Int.one_mul] at h_; exact h_
            obtain ⟨aq, B⟩ : ∃ y_ : List Int, y_ = (a.set ((c) : Int).toNat (Go.bits .or .u64 (rd a (c)) (z))) := ⟨_, rfl⟩
            replace H : (dom_Range.l0 k2 p (wrap64 (m + 1)) g aq s x y) = some (Q, U, W, X, Y, Z) := by first | (rw [B]; with_reducible exact H) | (have H2_ := (ob_ _ _).symm.trans H; rw [B]; with_reducible exact H2_) | (have H2_ := (ob_ _ _).symm.trans H; with_reducible exact H2_) | with_reducible exact H | (rw [B]; exact H) | exact H
            have aH := a_ B
            clear B
            have H' := a_ H
            clear H
            try go_wp2
            replace HO_569001 := a_ (Kd.R_drew HO_569001.out)
            replace b := a_ (blk_drew b.out)
            replace d := a_ (blk_drew d.out)
            replace HB := a_ (below_drew1 HB.out)
            obtain ⟨a6, ar, au⟩ := Kd.R_slice HO_569001.out
            (first | subst au | (injection au with f1_ f2_ f3_; have f4_ := f1_.symm; have f5_ := f3_.symm; clear f1_ f2_ f3_; subst f4_; subst f5_))
            have p569 : 0 ≤ ((c) : Int) := dq_
            have ai : (c) < (a.length : Int) := dq_
            obtain ⟨aX, aP, F⟩ := ai_ (rr_ HO_569001.out).2.2 (c) p569 ai
            cases aP
            replace p569 := et_ p569
            replace ai := et_ ai
            have p24 : 0 ≤ ((c) : Int) := dq_
            have av : ((c) : Int) < ((a.length : Int) : Int) := dq_
            obtain ⟨go24, a7, aw, ax, gl24, cl24, HG24⟩ := Kd.R_form HO_569001.out (by omega)
            (first | cases aw | (injection aw with ea_ en_ ec_; (first | subst ea_ | (injection ea_ with ea_; subst ea_)); subst ec_; clear en_))
            have GB24 := a_ ax
            have GG24 := a_ HG24
            clear ax gl24 HG24
            (first | simp only [add_plain] at F | skip)
            obtain ⟨ay, hf24_0⟩ := Kd.R_celln 0 HO_569001.out ((c) : Int) p24 av
            replace p24 := et_ p24
            replace av := et_ av
            have HP27 := Kd.R_putn HO_569001.out ((c) : Int) (Go.bits .or .u64 (rd a (c)) (z))
            rw [← aH.out] at HP27
            have HQ27 := a_ HP27
            clear HP27
            refine start_ (n := 18) (S := fun w' => w'.cell? ⟨o, 0, none⟩ = some (.int .i64 g) ∧ w'.cell? ⟨o, 1, none⟩ = some (.slice (some ⟨go24, 0, none⟩) a.length ar) ∧ w'.cell? ⟨o, 2, none⟩ = some (.int .i64 s) ∧ w'.cell? ⟨o, 3, none⟩ = some (.int .i64 x) ∧ w'.cell? ⟨o, 4, none⟩ = some (.int .i64 y) ∧ w'.cell? ⟨go24, ((c)).toNat, none⟩ = some (.int .u64 (rd a (c)))) (ds := [17]) #[false, false, false, false, false, false, false, false, false, false, false, false, false, false, false, false, false, false] (by kernel_rfl) rfl rfl (cb5_ d.out (F)) (fun hHeld => ?_); refine with_tabW dom_Range.tab11 dom_Range.bits11 (fun HT_ HW_ => ?_)
            generalize wr.drew = w25 at HO_569001 b d HB GG24 HQ27 hf24_0 ay F hHeld ⊢
            refine pu_ (i := 0) (N := some 38) (any_of HT_.out (by kernel_rfl)) ?_
            refine pu_ (i := 2) (N := some 40) (any_of HT_.out (by kernel_rfl)) ?_
            refine pu_ (i := 3) (N := some 41) (any_of HT_.out (by kernel_rfl)) ?_
            refine pu_ (i := 9) (N := some 47) (any_of HT_.out (by kernel_rfl)) ?_
            refine pu_ (i := 10) (N := some 48) (any_of HT_.out (by kernel_rfl)) ?_
            refine tak_ (i := 1) (N := some 39) (take_ofW HT_.out HW_.out (by kernel_rfl)) hHeld ?_
            refine tak_ (i := 4) (N := some 42) (take_ofW HT_.out HW_.out (by kernel_rfl)) hHeld ?_
            refine pu_ (i := 5) (N := some 43) (any_of HT_.out (by kernel_rfl)) ?_
            refine pu_ (i := 6) (N := some 44) (any_of HT_.out (by kernel_rfl)) ?_
            refine pu_ (i := 7) (N := some 45) (any_of HT_.out (by kernel_rfl)) ?_
            refine tak_ (i := 8) (N := some 46) (take_ofW HT_.out HW_.out (by kernel_rfl)) hHeld ?_
            refine tak_ (i := 11) (N := some 49) (take_ofW HT_.out HW_.out (by kernel_rfl)) hHeld ?_
            refine pu_ (i := 12) (N := some 50) (any_of HT_.out (by kernel_rfl)) ?_
            refine pu_ (i := 13) (N := some 51) (any_of HT_.out (by kernel_rfl)) ?_
            refine pu_ (i := 14) (N := some 52) (any_of HT_.out (by kernel_rfl)) ?_
            refine pu_ (i := 15) (N := some 53) (any_of HT_.out (by kernel_rfl)) ?_
            refine pu_ (i := 16) (N := some 54) (any_of HT_.out (by kernel_rfl)) ?_
            refine last_ (i := 17) (N := none) #[true, true, true, true, true, true, true, true, true, true, true, true, true, true, true, true, true, true] rfl rfl (one_of HT_.out (by kernel_rfl)) (by decide) (fun K hK => ?_)
            refine skip_ (w1 := ?_) (by rfl) rfl ?_ ?_
            rotate_left
            ·
             go_simp
             rfl
            refine hK.out _ _ ?_
            clear hK K
            refine done_ (done_of HT_.out (by kernel_rfl)) ?_
            try go_wp2
            go_roundg k2
            case measure => have := aL.out; have := aM.out; omega
            case rel => exact ⟨(wrap64 (m + 1)), (aq), (.slice (some ⟨go24, 0, none⟩) a.length ar), eq_, H', ⟨by have := aL.out; have := aM.out; omega⟩, ⟨by refine vR_ ?_; exact HQ27.out⟩, ⟨by refine bk_ ?_; refine blk_far ?_ (by have h_ := Kd.R_ne HO_569001.out b.out (by decide); intro e_; exact h_ (by rw [e_]; rfl)) _; refine bk_ ?_; exact b.out⟩, ⟨by refine bk_ ?_; refine blk_far ?_ (by have h_ := Kd.R_ne HO_569001.out d.out (by decide); intro e_; exact h_ (by rw [e_]; rfl)) _; refine bk_ ?_; exact d.out⟩, ⟨by repeat (first | (with_reducible first | exact HB.out | apply below_alloc | apply pw_below_drewN | apply below_drew1 | refine below_set ?_ GB24.out | refine below_set ?_ aE.out | refine below_set ?_ aG.out) | exact HB.out)⟩⟩
           ·
            rw [ig_ c22] at H
            exact absurd H (by simp)
          ·
           rw [ig_ c20] at H
           exact absurd H (by simp)
         ·
          rw [ig_ c19] at H
          exact absurd H (by simp)
        ·
         rw [ig_ c17] at H
         have c17b0 : decide (m ≤ p) = false := df_ c17
         clear c17
         replace H := bs_.mp H
         obtain ⟨⟨G, P, ae, aj, az⟩, aA, H⟩ := H
         try dsimp only at H
         have aU := a_ aA
         clear aA
         simp only [Option.some.injEq, Prod.mk.injEq] at H
         obtain ⟨rfl, rfl, rfl, rfl, rfl, rfl⟩ := H
         have aY := I.out
         have aZ := l.out
         obtain ⟨_, _, _, _, _, _, _, _, _, _⟩ := cel5_ d.out
         obtain ⟨aB, aC, aQ⟩ := Kd.R_slice HO_569001.out
         subst aQ
         go_wp2_with (first | ((with_reducible refine gate_callee (f := 76) rfl ?_); refine goesL_ (some 59) rfl rfl Tryz.func76 (by kernel_rfl) rfl #[.int .i64 g, .slice aB a.length aC] rfl ar_ ?_; (with_reducible refine (dom_made.calls k2 g (fun u => some u = (.slice aB a.length aC : Value).ownBlock) _ _ a G P ae aj az _ ?_ ?_ aU.out).mono ?_); exact Kd.R_V (Kd.R_tight rfl (rt_ (rt_ (HO_569001.out) b.out (by decide)) d.out (by decide))); exact ca_ ((cb_ HRtab.out HB.out)); rintro e w32 ⟨a8, rfl, ah, hb⟩; refine ⟨_, rfl, ?_⟩; have al := a_ (Kd.V_lower (vm_ (ok' := fun u => (w.heap.size ≤ u) ∧ u ≠ r ∧ u ≠ o) ah (fun u hk_ => ⟨Or.elim hk_ (fun hs_ => ((rt_ (rt_ (HO_569001.out) b.out (by decide)) d.out (by decide)).1 u hs_.symm).1.1) (fun hn_ => (Nat.le_trans (bz_ bel_) hn_)), Or.elim hk_ (fun hs_ => ((rt_ (rt_ (HO_569001.out) b.out (by decide)) d.out (by decide)).1 u hs_.symm).1.2) (fun hn_ => (Kd.freshB (bk_ b.out) u hn_)), Or.elim hk_ (fun hs_ => ((rt_ (rt_ (HO_569001.out) b.out (by decide)) d.out (by decide)).1 u hs_.symm).2) (fun hn_ => (Kd.freshB (bk_ d.out) u hn_))⟩)) (bz_ bel_)); replace b := a_ (bb_ (bk_ b.out) hb); replace HB := a_ (bp_ bel_ hb); clear hb ah; obtain ⟨_, _, _, _, _, _, _, _, _, _⟩ := cel5_ b.out; obtain ⟨af, ag, aR⟩ := Kd.V_slice al.out; subst aR))
         refine bodyPost_ret (results_ct rfl _ _ r 61 #[.int .i64 G, .slice af P.length ag, .int .i64 ae, .int .i64 aj, .int .i64 az] (0, 0) _ rfl (by refine bk_ ?_; refine bu_ (cs := #[.int .i64 G, .slice af P.length ag, .int .i64 ae, .int .i64 aj, .int .i64 0]) ?_ 4 _ rfl; refine bk_ ?_; refine bu_ (cs := #[.int .i64 G, .slice af P.length ag, .int .i64 ae, .int .i64 0, .int .i64 0]) ?_ 3 _ rfl; refine bk_ ?_; refine bu_ (cs := #[.int .i64 G, .slice af P.length ag, .int .i64 0, .int .i64 0, .int .i64 0]) ?_ 2 _ rfl; refine bk_ ?_; refine bu_ (cs := #[.int .i64 G, .slice none 0 0, .int .i64 0, .int .i64 0, .int .i64 0]) ?_ 1 _ rfl; refine bk_ ?_; refine bu_ (cs := #[.int .i64 0, .slice none 0 0, .int .i64 0, .int .i64 0, .int .i64 0]) ?_ 0 _ rfl; refine bk_ ?_; exact b.out) Tryz.underlying61 rfl (by kernel_rfl)) rfl ?_
         exact ⟨_, by first | rfl | (simp [errW_none, errW_some] <;> rfl) | (simp [*, errW_none, errW_some] <;> rfl), by refine vV_ ?_; exact vm_ (fV_ (fV_ (fV_ (fV_ (fV_ (vm_ al.out (fun u hk => (⟨hk, hk.2.1⟩ : _ ∧ u ≠ r)))))))) (fun _ hk => hk.1.1), bel_⟩

end Go.Proofs.YtiofjnhmogeenaaGreatDoor.XExtFilters
