-- by xprint.py, a program of this session, over the kit's print
import Derived.Test.YtiofjnhmogeenaaGreatDoorXEKex0
import Derived.Test.YtiofjnhmogeenaaGreatDoorSq
namespace Go.Proofs.YtiofjnhmogeenaaGreatDoor.XExtKeeps
open Go.RowKit Go.Proofs.YtiofjnhmogeenaaGreatDoor.Sq Go.Proofs.YtiofjnhmogeenaaGreatDoorW.PrintWords Go.Proofs.YtiofjnhmogeenaaGreatDoorW.PrintLast Go.Proofs.YtiofjnhmogeenaaGreatDoorW.PrintMore
attribute [local go_sem] max2_int min2_int max_two min_two max_three min_three max_four min_four   -- for this text's walks alone
set_option linter.unusedVariables false
set_option linter.unusedSimpArgs false

/-! ### jigsawref09_three: function 48 -/
def jigsawref09_three.f (c : Int) (a : List Int) (d : List Int) (e : List Int) (g : List Int) (l : List Int) (m : Int) (n : List (List Int)) (b : List Int) : Option (Bool) := if 0 < (a.length : Int) then (if 0 ≤ (rd a 0) then (if (rd a 0) < (b.length : Int) then (if 1 < (a.length : Int) then (if 0 ≤ (rd a 1) then (if (rd a 1) < (b.length : Int) then (if c = 8 then (if (rd b (rd a 0)) ≥ 0 then (if (rd b (rd a 1)) = (rd b (rd a 0)) then (some true) else (if (rd b (rd a 0)) < 0 then (some ((rd b (rd a 1)) == (wrap64 (-(rd b (rd a 0)))))) else (some false))) else (if (rd b (rd a 0)) < 0 then (some ((rd b (rd a 1)) == (wrap64 (-(rd b (rd a 0)))))) else (some false))) else (if c = 11 then (none) else (if 2 < (a.length : Int) then (if 0 ≤ (rd a 2) then (if (rd a 2) < (b.length : Int) then (if c = 5 then (none) else (if c = 9 then (if (rd b (rd a 2)) ≤ (rd b (rd a 0)) then (if (rd b (rd a 2)) ≤ (rd b (rd a 1)) then (if (rd b (rd a 2)) = (rd b (rd a 0)) then (some true) else (some ((rd b (rd a 2)) == (rd b (rd a 1))))) else (some false)) else (some false)) else (if c = 10 then (if (rd b (rd a 2)) ≥ (rd b (rd a 0)) then (if (rd b (rd a 2)) ≥ (rd b (rd a 1)) then (if (rd b (rd a 2)) = (rd b (rd a 0)) then (some true) else (some ((rd b (rd a 2)) == (rd b (rd a 1))))) else (some false)) else (some false)) else (none)))) else (none)) else (none)) else (none)))) else (none)) else (none)) else (none)) else (none)) else (none)) else (none)
set_option maxHeartbeats 8000000 in
set_option maxRecDepth 100000 in
theorem jigsawref09_three.calls (y : Int) (ad : Option Addr) (c0_1 : Nat) (a : List Int) (ae : Option Addr) (c0_2 : Nat) (V : List Int) (af : Option Addr) (c0_3 : Nat) (W : List Int) (ag : Option Addr) (c0_4 : Nat) (X : List Int) (ah : Option Addr) (c0_5 : Nat) (Y : List Int) (ai : Int) (aj : Option Addr) (c0_7 : Nat) (Z : List (List Int)) (A1 : Option Addr) (c1 : Nat) (n : List Int) (r : Bool) (w : World) (an : Kd.C (Kd.int .i64) w ad a.length a) (ao : a.length ≤ c0_1) (aw : Kd.C (Kd.int .i64) w ae V.length V) (ap : V.length ≤ c0_2) (ax : Kd.C (Kd.int .i64) w af W.length W) (aq : W.length ≤ c0_3) (ay : Kd.C (Kd.int .i64) w ag X.length X) (ar : X.length ≤ c0_4) (az : Kd.C (Kd.int .i64) w ah Y.length Y) (au : Y.length ≤ c0_5) (aA : Kd.C (Kd.slice 3 (Kd.int .i64)) w aj Z.length Z) (av : Z.length ≤ c0_7) (aB : Kd.C (Kd.int .i64) w A1 n.length n) (aC : n.length ≤ c1) (h : jigsawref09_three.f y a V W X Y ai Z n = some r) :
  Calls Tryz.prog 48 #[.agg #[.int .i64 y, .slice ad a.length c0_1, .slice ae V.length c0_2, .slice af W.length c0_3, .slice ag X.length c0_4, .slice ah Y.length c0_5, .int .i64 ai, .slice aj Z.length c0_7], .slice A1 n.length c1] w fun e w' => e = .returned (.bool r) ∧ Below w.heap.size w w' := by
 have hu32 := Tryz.underlying32
 have u := a_ an
 have aE := a_ ao
 clear an ao
 have aF := a_ ap
 clear aw ap
 have aG := a_ aq
 clear ax aq
 have aH := a_ ar
 clear ay ar
 have aI := a_ au
 clear az au
 have aJ := a_ av
 clear aA av
 have J := a_ aB
 have aK := a_ aC
 clear aB aC
 have HB := a_ (Below.refl w.heap.size w)
 unfold jigsawref09_three.f at h
 have H := h
 clear h
 by_cases c3 : 0 < (a.length : Int)
 ·
  rw [ip_ c3] at H
  have c3b0 : decide (0 < (a.length : Int)) = true := dt_ c3
  have c3b1 : decide (0 < a.length) = true := dt_ (by omega)
  clear c3
  by_cases c4 : 0 ≤ (rd a 0)
  ·
   rw [ip_ c4] at H
   have c4b0 : decide (0 ≤ (rd a 0)) = true := dt_ c4
   clear c4
   by_cases c5 : (rd a 0) < (n.length : Int)
   ·
    rw [ip_ c5] at H
    have c5b0 : decide ((rd a 0) < (n.length : Int)) = true := dt_ c5
    clear c5
    by_cases c6 : 1 < (a.length : Int)
    ·
     rw [ip_ c6] at H
     have c6b0 : decide (1 < (a.length : Int)) = true := dt_ c6
     have c6b1 : decide (1 < a.length) = true := dt_ (by omega)
     clear c6
     by_cases c7 : 0 ≤ (rd a 1)
     ·
      rw [ip_ c7] at H
      have c7b0 : decide (0 ≤ (rd a 1)) = true := dt_ c7
      clear c7
      by_cases c8 : (rd a 1) < (n.length : Int)
      ·
       rw [ip_ c8] at H
       have c8b0 : decide ((rd a 1) < (n.length : Int)) = true := dt_ c8
       clear c8
       by_cases c9 : y = 8
       ·
        rw [ip_ c9] at H
        have c9b0 : (y == 8) = true := beq_iff_eq.mpr c9
        have c9b1 : (y != 8) = false := bn_.mpr c9
        clear c9
        by_cases c10 : (rd n (rd a 0)) ≥ 0
        ·
         rw [ip_ c10] at H
         have c10b0 : decide (0 ≤ (rd n (rd a 0))) = true := dt_ c10
         clear c10
         by_cases c11 : (rd n (rd a 1)) = (rd n (rd a 0))
         ·
          rw [ip_ c11] at H
          have c11b0 : ((rd n (rd a 1)) == (rd n (rd a 0))) = true := beq_iff_eq.mpr c11
          have c11b1 : ((rd n (rd a 1)) != (rd n (rd a 0))) = false := bn_.mpr c11
          clear c11
          obtain rfl := si_ H
          go_enter Tryz.func48, Tryz.ntmps48
          go_wp2_with (first | ((with_reducible refine gate_dst (N := 2) rfl ?_); (try (refine gate_guard (by rfl) ?_; dsimp only)); refine bxe_ (N := 2) (cs := #[.int .i64 y, .slice ad a.length c0_1, .slice ae V.length c0_2, .slice af W.length c0_3, .slice ag X.length c0_4, .slice ah Y.length c0_5, .int .i64 ai, .slice aj Z.length c0_7]) (t := 32) ?_; intro z hg w12 hbox hb; have A := a_ (hbox); have B := a_ (by rw [hg]; exact (bz_ bel_) : w.heap.size ≤ z); have aa := B; replace HB := a_ (bp_ bel_ hb); clear hb hbox hg; obtain ⟨_, _, _, _, _, _, _, _, _, _, _, _, _, _, _, _⟩ := cel8_ A.out; have p526 : 0 ≤ (0 : Int) := (by omega); have o : 0 < (a.length : Int) := dq_; obtain ⟨v, K, b⟩ := ai_ u.out 0 p526 o; cases K; have ab : (0 < a.length) = True := et_ (by omega); (try rw [show ((0 : Int)).toNat = 0 from rfl] at b); (try rw [Addr.add_zero'] at b); replace b := (HB.out.cell (wl_ w _ b)).trans b; replace p526 := et_ p526; replace o := et_ o; have p527 : 0 ≤ ((rd a 0) : Int) := dq_; have p : (rd a 0) < (n.length : Int) := dq_; obtain ⟨x, M, d⟩ := ai_ J.out (rd a 0) p527 p; cases M; replace d := (HB.out.cell (wl_ w _ d)).trans d; replace p527 := et_ p527; replace p := et_ p; have p528 : 0 ≤ (1 : Int) := (by omega); have q : 1 < (a.length : Int) := dq_; obtain ⟨E, O, c⟩ := ai_ u.out 1 p528 q; obtain rfl : v = E := (by injection O); (try simp only [show (1 : Int).toNat = 1 from rfl, Nat.reduceMul, Nat.reduceEqDiff, Go.Addr.add, ↓reduceIte] at c); have ac : (1 < a.length) = True := et_ (by omega); (try rw [show ((1 : Int)).toNat = 1 from rfl] at c); replace c := (HB.out.cell (wl_ w _ c)).trans c; replace p528 := et_ p528; replace q := et_ q; have p529 : 0 ≤ ((rd a 1) : Int) := dq_; have s : (rd a 1) < (n.length : Int) := dq_; obtain ⟨F, P, g⟩ := ai_ J.out (rd a 1) p529 s; obtain rfl : x = F := (by injection P); replace g := (HB.out.cell (wl_ w _ g)).trans g; replace p529 := et_ p529; replace s := et_ s))
          go_ret
          exact ⟨by first | rfl | (simp [errW_none, errW_some] <;> rfl) | (simp [*, errW_none, errW_some] <;> rfl), bel_⟩
         ·
          rw [ig_ c11] at H
          have c11b0 : ((rd n (rd a 1)) == (rd n (rd a 0))) = false := be_.mpr c11
          have c11b1 : ((rd n (rd a 1)) != (rd n (rd a 0))) = true := ni_.mpr c11
          by_cases c14 : (rd n (rd a 0)) < 0
          ·
           rw [ip_ c14] at H
           have c14b0 : decide ((rd n (rd a 0)) < 0) = true := dt_ c14
           clear c14
           obtain rfl := si_ H
           go_enter Tryz.func48, Tryz.ntmps48
           go_wp2_with (first | ((with_reducible refine gate_dst (N := 2) rfl ?_); (try (refine gate_guard (by rfl) ?_; dsimp only)); refine bxe_ (N := 2) (cs := #[.int .i64 y, .slice ad a.length c0_1, .slice ae V.length c0_2, .slice af W.length c0_3, .slice ag X.length c0_4, .slice ah Y.length c0_5, .int .i64 ai, .slice aj Z.length c0_7]) (t := 32) ?_; intro z hg w15 hbox hb; have A := a_ (hbox); have B := a_ (by rw [hg]; exact (bz_ bel_) : w.heap.size ≤ z); have aa := B; replace HB := a_ (bp_ bel_ hb); clear hb hbox hg; obtain ⟨_, _, _, _, _, _, _, _, _, _, _, _, _, _, _, _⟩ := cel8_ A.out; have p526 : 0 ≤ (0 : Int) := (by omega); have o : 0 < (a.length : Int) := dq_; obtain ⟨v, K, b⟩ := ai_ u.out 0 p526 o; cases K; have ab : (0 < a.length) = True := et_ (by omega); (try rw [show ((0 : Int)).toNat = 0 from rfl] at b); (try rw [Addr.add_zero'] at b); replace b := (HB.out.cell (wl_ w _ b)).trans b; replace p526 := et_ p526; replace o := et_ o; have p527 : 0 ≤ ((rd a 0) : Int) := dq_; have p : (rd a 0) < (n.length : Int) := dq_; obtain ⟨x, M, d⟩ := ai_ J.out (rd a 0) p527 p; cases M; replace d := (HB.out.cell (wl_ w _ d)).trans d; replace p527 := et_ p527; replace p := et_ p; have p528 : 0 ≤ (1 : Int) := (by omega); have q : 1 < (a.length : Int) := dq_; obtain ⟨E, O, c⟩ := ai_ u.out 1 p528 q; obtain rfl : v = E := (by injection O); (try simp only [show (1 : Int).toNat = 1 from rfl, Nat.reduceMul, Nat.reduceEqDiff, Go.Addr.add, ↓reduceIte] at c); have ac : (1 < a.length) = True := et_ (by omega); (try rw [show ((1 : Int)).toNat = 1 from rfl] at c); replace c := (HB.out.cell (wl_ w _ c)).trans c; replace p528 := et_ p528; replace q := et_ q; have p529 : 0 ≤ ((rd a 1) : Int) := dq_; have s : (rd a 1) < (n.length : Int) := dq_; obtain ⟨F, P, g⟩ := ai_ J.out (rd a 1) p529 s; obtain rfl : x = F := (by injection P); replace g := (HB.out.cell (wl_ w _ g)).trans g; replace p529 := et_ p529; replace s := et_ s))
           go_ret
           exact ⟨by first | rfl | (simp [errW_none, errW_some] <;> rfl) | (simp [*, errW_none, errW_some] <;> rfl), bel_⟩
          ·
           rw [ig_ c14] at H
           have c14b0 : decide ((rd n (rd a 0)) < 0) = false := df_ c14
           clear c14
           obtain rfl := si_ H
           go_enter Tryz.func48, Tryz.ntmps48
           go_wp2_with (first | ((with_reducible refine gate_dst (N := 2) rfl ?_); (try (refine gate_guard (by rfl) ?_; dsimp only)); refine bxe_ (N := 2) (cs := #[.int .i64 y, .slice ad a.length c0_1, .slice ae V.length c0_2, .slice af W.length c0_3, .slice ag X.length c0_4, .slice ah Y.length c0_5, .int .i64 ai, .slice aj Z.length c0_7]) (t := 32) ?_; intro z hg w17 hbox hb; have A := a_ (hbox); have B := a_ (by rw [hg]; exact (bz_ bel_) : w.heap.size ≤ z); have aa := B; replace HB := a_ (bp_ bel_ hb); clear hb hbox hg; obtain ⟨_, _, _, _, _, _, _, _, _, _, _, _, _, _, _, _⟩ := cel8_ A.out; have p526 : 0 ≤ (0 : Int) := (by omega); have o : 0 < (a.length : Int) := dq_; obtain ⟨v, K, b⟩ := ai_ u.out 0 p526 o; cases K; have ab : (0 < a.length) = True := et_ (by omega); (try rw [show ((0 : Int)).toNat = 0 from rfl] at b); (try rw [Addr.add_zero'] at b); replace b := (HB.out.cell (wl_ w _ b)).trans b; replace p526 := et_ p526; replace o := et_ o; have p527 : 0 ≤ ((rd a 0) : Int) := dq_; have p : (rd a 0) < (n.length : Int) := dq_; obtain ⟨x, M, d⟩ := ai_ J.out (rd a 0) p527 p; cases M; replace d := (HB.out.cell (wl_ w _ d)).trans d; replace p527 := et_ p527; replace p := et_ p; have p528 : 0 ≤ (1 : Int) := (by omega); have q : 1 < (a.length : Int) := dq_; obtain ⟨E, O, c⟩ := ai_ u.out 1 p528 q; obtain rfl : v = E := (by injection O); (try simp only [show (1 : Int).toNat = 1 from rfl, Nat.reduceMul, Nat.reduceEqDiff, Go.Addr.add, ↓reduceIte] at c); have ac : (1 < a.length) = True := et_ (by omega); (try rw [show ((1 : Int)).toNat = 1 from rfl] at c); replace c := (HB.out.cell (wl_ w _ c)).trans c; replace p528 := et_ p528; replace q := et_ q; have p529 : 0 ≤ ((rd a 1) : Int) := dq_; have s : (rd a 1) < (n.length : Int) := dq_; obtain ⟨F, P, g⟩ := ai_ J.out (rd a 1) p529 s; obtain rfl : x = F := (by injection P); replace g := (HB.out.cell (wl_ w _ g)).trans g; replace p529 := et_ p529; replace s := et_ s))
           go_ret
           exact ⟨by first | rfl | (simp [errW_none, errW_some] <;> rfl) | (simp [*, errW_none, errW_some] <;> rfl), bel_⟩
        ·
         rw [ig_ c10] at H
         have c10b0 : decide (0 ≤ (rd n (rd a 0))) = false := df_ c10
         clear c10
         by_cases c19 : (rd n (rd a 0)) < 0
         ·
          rw [ip_ c19] at H
          have c19b0 : decide ((rd n (rd a 0)) < 0) = true := dt_ c19
          clear c19
          obtain rfl := si_ H
          go_enter Tryz.func48, Tryz.ntmps48
          go_wp2_with (first | ((with_reducible refine gate_dst (N := 2) rfl ?_); (try (refine gate_guard (by rfl) ?_; dsimp only)); refine bxe_ (N := 2) (cs := #[.int .i64 y, .slice ad a.length c0_1, .slice ae V.length c0_2, .slice af W.length c0_3, .slice ag X.length c0_4, .slice ah Y.length c0_5, .int .i64 ai, .slice aj Z.length c0_7]) (t := 32) ?_; intro z hg w20 hbox hb; have A := a_ (hbox); have B := a_ (by rw [hg]; exact (bz_ bel_) : w.heap.size ≤ z); have aa := B; replace HB := a_ (bp_ bel_ hb); clear hb hbox hg; obtain ⟨_, _, _, _, _, _, _, _, _, _, _, _, _, _, _, _⟩ := cel8_ A.out; have p526 : 0 ≤ (0 : Int) := (by omega); have o : 0 < (a.length : Int) := dq_; obtain ⟨v, K, b⟩ := ai_ u.out 0 p526 o; cases K; have ab : (0 < a.length) = True := et_ (by omega); (try rw [show ((0 : Int)).toNat = 0 from rfl] at b); (try rw [Addr.add_zero'] at b); replace b := (HB.out.cell (wl_ w _ b)).trans b; replace p526 := et_ p526; replace o := et_ o; have p527 : 0 ≤ ((rd a 0) : Int) := dq_; have p : (rd a 0) < (n.length : Int) := dq_; obtain ⟨x, M, d⟩ := ai_ J.out (rd a 0) p527 p; cases M; replace d := (HB.out.cell (wl_ w _ d)).trans d; replace p527 := et_ p527; replace p := et_ p; have p528 : 0 ≤ (1 : Int) := (by omega); have q : 1 < (a.length : Int) := dq_; obtain ⟨E, O, c⟩ := ai_ u.out 1 p528 q; obtain rfl : v = E := (by injection O); (try simp only [show (1 : Int).toNat = 1 from rfl, Nat.reduceMul, Nat.reduceEqDiff, Go.Addr.add, ↓reduceIte] at c); have ac : (1 < a.length) = True := et_ (by omega); (try rw [show ((1 : Int)).toNat = 1 from rfl] at c); replace c := (HB.out.cell (wl_ w _ c)).trans c; replace p528 := et_ p528; replace q := et_ q; have p529 : 0 ≤ ((rd a 1) : Int) := dq_; have s : (rd a 1) < (n.length : Int) := dq_; obtain ⟨F, P, g⟩ := ai_ J.out (rd a 1) p529 s; obtain rfl : x = F := (by injection P); replace g := (HB.out.cell (wl_ w _ g)).trans g; replace p529 := et_ p529; replace s := et_ s))
          go_ret
          exact ⟨by first | rfl | (simp [errW_none, errW_some] <;> rfl) | (simp [*, errW_none, errW_some] <;> rfl), bel_⟩
         ·
          rw [ig_ c19] at H
          have c19b0 : decide ((rd n (rd a 0)) < 0) = false := df_ c19
          clear c19
          obtain rfl := si_ H
          go_enter Tryz.func48, Tryz.ntmps48
          go_wp2_with (first | ((with_reducible refine gate_dst (N := 2) rfl ?_); (try (refine gate_guard (by rfl) ?_; dsimp only)); refine bxe_ (N := 2) (cs := #[.int .i64 y, .slice ad a.length c0_1, .slice ae V.length c0_2, .slice af W.length c0_3, .slice ag X.length c0_4, .slice ah Y.length c0_5, .int .i64 ai, .slice aj Z.length c0_7]) (t := 32) ?_; intro z hg w22 hbox hb; have A := a_ (hbox); have B := a_ (by rw [hg]; exact (bz_ bel_) : w.heap.size ≤ z); have aa := B; replace HB := a_ (bp_ bel_ hb); clear hb hbox hg; obtain ⟨_, _, _, _, _, _, _, _, _, _, _, _, _, _, _, _⟩ := cel8_ A.out; have p526 : 0 ≤ (0 : Int) := (by omega); have o : 0 < (a.length : Int) := dq_; obtain ⟨v, K, b⟩ := ai_ u.out 0 p526 o; cases K; have ab : (0 < a.length) = True := et_ (by omega); (try rw [show ((0 : Int)).toNat = 0 from rfl] at b); (try rw [Addr.add_zero'] at b); replace b := (HB.out.cell (wl_ w _ b)).trans b; replace p526 := et_ p526; replace o := et_ o; have p527 : 0 ≤ ((rd a 0) : Int) := dq_; have p : (rd a 0) < (n.length : Int) := dq_; obtain ⟨x, M, d⟩ := ai_ J.out (rd a 0) p527 p; cases M; replace d := (HB.out.cell (wl_ w _ d)).trans d; replace p527 := et_ p527; replace p := et_ p; have p528 : 0 ≤ (1 : Int) := (by omega); have q : 1 < (a.length : Int) := dq_; obtain ⟨E, O, c⟩ := ai_ u.out 1 p528 q; obtain rfl : v = E := (by injection O); (try simp only [show (1 : Int).toNat = 1 from rfl, Nat.reduceMul, Nat.reduceEqDiff, Go.Addr.add, ↓reduceIte] at c); have ac : (1 < a.length) = True := et_ (by omega); (try rw [show ((1 : Int)).toNat = 1 from rfl] at c); replace c := (HB.out.cell (wl_ w _ c)).trans c; replace p528 := et_ p528; replace q := et_ q; have p529 : 0 ≤ ((rd a 1) : Int) := dq_; have s : (rd a 1) < (n.length : Int) := dq_; obtain ⟨F, P, g⟩ := ai_ J.out (rd a 1) p529 s; obtain rfl : x = F := (by injection P); replace g := (HB.out.cell (wl_ w _ g)).trans g; replace p529 := et_ p529; replace s := et_ s))
          go_ret
          exact ⟨by first | rfl | (simp [errW_none, errW_some] <;> rfl) | (simp [*, errW_none, errW_some] <;> rfl), bel_⟩
       ·
        rw [ig_ c9] at H
        have c9b0 : (y == 8) = false := be_.mpr c9
        have c9b1 : (y != 8) = true := ni_.mpr c9
        by_cases c24 : y = 11
        ·
         rw [ip_ c24] at H
         exact absurd H (by simp)
        ·
         rw [ig_ c24] at H
         have c24b0 : (y == 11) = false := be_.mpr c24
         have c24b1 : (y != 11) = true := ni_.mpr c24
         by_cases c25 : 2 < (a.length : Int)
         ·
          rw [ip_ c25] at H
          have c25b0 : decide (2 < (a.length : Int)) = true := dt_ c25
          have c25b1 : decide (2 < a.length) = true := dt_ (by omega)
          clear c25
          by_cases c26 : 0 ≤ (rd a 2)
          ·
           rw [ip_ c26] at H
           have c26b0 : decide (0 ≤ (rd a 2)) = true := dt_ c26
           clear c26
           by_cases c27 : (rd a 2) < (n.length : Int)
           ·
            rw [ip_ c27] at H
            have c27b0 : decide ((rd a 2) < (n.length : Int)) = true := dt_ c27
            clear c27
            by_cases c28 : y = 5
            ·
             rw [ip_ c28] at H
             exact absurd H (by simp)
            ·
             rw [ig_ c28] at H
             have c28b0 : (y == 5) = false := be_.mpr c28
             have c28b1 : (y != 5) = true := ni_.mpr c28
             by_cases c29 : y = 9
             ·
              rw [ip_ c29] at H
              have c29b0 : (y == 9) = true := beq_iff_eq.mpr c29
              have c29b1 : (y != 9) = false := bn_.mpr c29
              clear c29
              by_cases c30 : (rd n (rd a 2)) ≤ (rd n (rd a 0))
              ·
               rw [ip_ c30] at H
               have c30b0 : decide ((rd n (rd a 2)) ≤ (rd n (rd a 0))) = true := dt_ c30
               clear c30
               by_cases c31 : (rd n (rd a 2)) ≤ (rd n (rd a 1))
               ·
                rw [ip_ c31] at H
                have c31b0 : decide ((rd n (rd a 2)) ≤ (rd n (rd a 1))) = true := dt_ c31
                clear c31
                by_cases c32 : (rd n (rd a 2)) = (rd n (rd a 0))
                ·
                 rw [ip_ c32] at H
                 have c32b0 : ((rd n (rd a 2)) == (rd n (rd a 0))) = true := beq_iff_eq.mpr c32
                 have c32b1 : ((rd n (rd a 2)) != (rd n (rd a 0))) = false := bn_.mpr c32
                 clear c32
                 obtain rfl := si_ H
                 go_enter Tryz.func48, Tryz.ntmps48
                 go_wp2_with (first | ((with_reducible refine gate_dst (N := 2) rfl ?_); (try (refine gate_guard (by rfl) ?_; dsimp only)); refine bxe_ (N := 2) (cs := #[.int .i64 y, .slice ad a.length c0_1, .slice ae V.length c0_2, .slice af W.length c0_3, .slice ag X.length c0_4, .slice ah Y.length c0_5, .int .i64 ai, .slice aj Z.length c0_7]) (t := 32) ?_; intro z hg w33 hbox hb; have A := a_ (hbox); have B := a_ (by rw [hg]; exact (bz_ bel_) : w.heap.size ≤ z); have aa := B; replace HB := a_ (bp_ bel_ hb); clear hb hbox hg; obtain ⟨_, _, _, _, _, _, _, _, _, _, _, _, _, _, _, _⟩ := cel8_ A.out; have p526 : 0 ≤ (0 : Int) := (by omega); have o : 0 < (a.length : Int) := dq_; obtain ⟨v, K, b⟩ := ai_ u.out 0 p526 o; cases K; have ab : (0 < a.length) = True := et_ (by omega); (try rw [show ((0 : Int)).toNat = 0 from rfl] at b); (try rw [Addr.add_zero'] at b); replace b := (HB.out.cell (wl_ w _ b)).trans b; replace p526 := et_ p526; replace o := et_ o; have p527 : 0 ≤ ((rd a 0) : Int) := dq_; have p : (rd a 0) < (n.length : Int) := dq_; obtain ⟨x, M, d⟩ := ai_ J.out (rd a 0) p527 p; cases M; replace d := (HB.out.cell (wl_ w _ d)).trans d; replace p527 := et_ p527; replace p := et_ p; have p528 : 0 ≤ (1 : Int) := (by omega); have q : 1 < (a.length : Int) := dq_; obtain ⟨E, O, c⟩ := ai_ u.out 1 p528 q; obtain rfl : v = E := (by injection O); (try simp only [show (1 : Int).toNat = 1 from rfl, Nat.reduceMul, Nat.reduceEqDiff, Go.Addr.add, ↓reduceIte] at c); have ac : (1 < a.length) = True := et_ (by omega); (try rw [show ((1 : Int)).toNat = 1 from rfl] at c); replace c := (HB.out.cell (wl_ w _ c)).trans c; replace p528 := et_ p528; replace q := et_ q; have p529 : 0 ≤ ((rd a 1) : Int) := dq_; have s : (rd a 1) < (n.length : Int) := dq_; obtain ⟨F, P, g⟩ := ai_ J.out (rd a 1) p529 s; obtain rfl : x = F := (by injection P); replace g := (HB.out.cell (wl_ w _ g)).trans g; replace p529 := et_ p529; replace s := et_ s; have p530 : 0 ≤ (2 : Int) := (by omega); have G : 2 < (a.length : Int) := dq_; obtain ⟨Q, ak, l⟩ := ai_ u.out 2 p530 G; obtain rfl : v = Q := (by injection ak); (try simp only [show (2 : Int).toNat = 2 from rfl, Nat.reduceMul, Nat.reduceEqDiff, Go.Addr.add, ↓reduceIte] at l); have am : (2 < a.length) = True := et_ (by omega); (try rw [show ((2 : Int)).toNat = 2 from rfl] at l); replace l := (HB.out.cell (wl_ w _ l)).trans l; replace p530 := et_ p530; replace G := et_ G; have p531 : 0 ≤ ((rd a 2) : Int) := dq_; have I : (rd a 2) < (n.length : Int) := dq_; obtain ⟨U, al, m⟩ := ai_ J.out (rd a 2) p531 I; obtain rfl : x = U := (by injection al); replace m := (HB.out.cell (wl_ w _ m)).trans m; replace p531 := et_ p531; replace I := et_ I))
                 go_ret
                 exact ⟨by first | rfl | (simp [errW_none, errW_some] <;> rfl) | (simp [*, errW_none, errW_some] <;> rfl), bel_⟩
                ·
                 rw [ig_ c32] at H
                 have c32b0 : ((rd n (rd a 2)) == (rd n (rd a 0))) = false := be_.mpr c32
                 have c32b1 : ((rd n (rd a 2)) != (rd n (rd a 0))) = true := ni_.mpr c32
                 obtain rfl := si_ H
                 go_enter Tryz.func48, Tryz.ntmps48
                 go_wp2_with (first | ((with_reducible refine gate_dst (N := 2) rfl ?_); (try (refine gate_guard (by rfl) ?_; dsimp only)); refine bxe_ (N := 2) (cs := #[.int .i64 y, .slice ad a.length c0_1, .slice ae V.length c0_2, .slice af W.length c0_3, .slice ag X.length c0_4, .slice ah Y.length c0_5, .int .i64 ai, .slice aj Z.length c0_7]) (t := 32) ?_; intro z hg w35 hbox hb; have A := a_ (hbox); have B := a_ (by rw [hg]; exact (bz_ bel_) : w.heap.size ≤ z); have aa := B; replace HB := a_ (bp_ bel_ hb); clear hb hbox hg; obtain ⟨_, _, _, _, _, _, _, _, _, _, _, _, _, _, _, _⟩ := cel8_ A.out; have p526 : 0 ≤ (0 : Int) := (by omega); have o : 0 < (a.length : Int) := dq_; obtain ⟨v, K, b⟩ := ai_ u.out 0 p526 o; cases K; have ab : (0 < a.length) = True := et_ (by omega); (try rw [show ((0 : Int)).toNat = 0 from rfl] at b); (try rw [Addr.add_zero'] at b); replace b := (HB.out.cell (wl_ w _ b)).trans b; replace p526 := et_ p526; replace o := et_ o; have p527 : 0 ≤ ((rd a 0) : Int) := dq_; have p : (rd a 0) < (n.length : Int) := dq_; obtain ⟨x, M, d⟩ := ai_ J.out (rd a 0) p527 p; cases M; replace d := (HB.out.cell (wl_ w _ d)).trans d; replace p527 := et_ p527; replace p := et_ p; have p528 : 0 ≤ (1 : Int) := (by omega); have q : 1 < (a.length : Int) := dq_; obtain ⟨E, O, c⟩ := ai_ u.out 1 p528 q; obtain rfl : v = E := (by injection O); (try simp only [show (1 : Int).toNat = 1 from rfl, Nat.reduceMul, Nat.reduceEqDiff, Go.Addr.add, ↓reduceIte] at c); have ac : (1 < a.length) = True := et_ (by omega); (try rw [show ((1 : Int)).toNat = 1 from rfl] at c); replace c := (HB.out.cell (wl_ w _ c)).trans c; replace p528 := et_ p528; replace q := et_ q; have p529 : 0 ≤ ((rd a 1) : Int) := dq_; have s : (rd a 1) < (n.length : Int) := dq_; obtain ⟨F, P, g⟩ := ai_ J.out (rd a 1) p529 s; obtain rfl : x = F := (by injection P); replace g := (HB.out.cell (wl_ w _ g)).trans g; replace p529 := et_ p529; replace s := et_ s; have p530 : 0 ≤ (2 : Int) := (by omega); have G : 2 < (a.length : Int) := dq_; obtain ⟨Q, ak, l⟩ := ai_ u.out 2 p530 G; obtain rfl : v = Q := (by injection ak); (try simp only [show (2 : Int).toNat = 2 from rfl, Nat.reduceMul, Nat.reduceEqDiff, Go.Addr.add, ↓reduceIte] at l); have am : (2 < a.length) = True := et_ (by omega); (try rw [show ((2 : Int)).toNat = 2 from rfl] at l); replace l := (HB.out.cell (wl_ w _ l)).trans l; replace p530 := et_ p530; replace G := et_ G; have p531 : 0 ≤ ((rd a 2) : Int) := dq_; have I : (rd a 2) < (n.length : Int) := dq_; obtain ⟨U, al, m⟩ := ai_ J.out (rd a 2) p531 I; obtain rfl : x = U := (by injection al); replace m := (HB.out.cell (wl_ w _ m)).trans m; replace p531 := et_ p531; replace I := et_ I))
                 go_ret
                 exact ⟨by first | rfl | (simp [errW_none, errW_some] <;> rfl) | (simp [*, errW_none, errW_some] <;> rfl), bel_⟩
               ·
                rw [ig_ c31] at H
                have c31b0 : decide ((rd n (rd a 2)) ≤ (rd n (rd a 1))) = false := df_ c31
                clear c31
                obtain rfl := si_ H
                go_enter Tryz.func48, Tryz.ntmps48
                go_wp2_with (first | ((with_reducible refine gate_dst (N := 2) rfl ?_); (try (refine gate_guard (by rfl) ?_; dsimp only)); refine bxe_ (N := 2) (cs := #[.int .i64 y, .slice ad a.length c0_1, .slice ae V.length c0_2, .slice af W.length c0_3, .slice ag X.length c0_4, .slice ah Y.length c0_5, .int .i64 ai, .slice aj Z.length c0_7]) (t := 32) ?_; intro z hg w37 hbox hb; have A := a_ (hbox); have B := a_ (by rw [hg]; exact (bz_ bel_) : w.heap.size ≤ z); have aa := B; replace HB := a_ (bp_ bel_ hb); clear hb hbox hg; obtain ⟨_, _, _, _, _, _, _, _, _, _, _, _, _, _, _, _⟩ := cel8_ A.out; have p526 : 0 ≤ (0 : Int) := (by omega); have o : 0 < (a.length : Int) := dq_; obtain ⟨v, K, b⟩ := ai_ u.out 0 p526 o; cases K; have ab : (0 < a.length) = True := et_ (by omega); (try rw [show ((0 : Int)).toNat = 0 from rfl] at b); (try rw [Addr.add_zero'] at b); replace b := (HB.out.cell (wl_ w _ b)).trans b; replace p526 := et_ p526; replace o := et_ o; have p527 : 0 ≤ ((rd a 0) : Int) := dq_; have p : (rd a 0) < (n.length : Int) := dq_; obtain ⟨x, M, d⟩ := ai_ J.out (rd a 0) p527 p; cases M; replace d := (HB.out.cell (wl_ w _ d)).trans d; replace p527 := et_ p527; replace p := et_ p; have p528 : 0 ≤ (1 : Int) := (by omega); have q : 1 < (a.length : Int) := dq_; obtain ⟨E, O, c⟩ := ai_ u.out 1 p528 q; obtain rfl : v = E := (by injection O); (try simp only [show (1 : Int).toNat = 1 from rfl, Nat.reduceMul, Nat.reduceEqDiff, Go.Addr.add, ↓reduceIte] at c); have ac : (1 < a.length) = True := et_ (by omega); (try rw [show ((1 : Int)).toNat = 1 from rfl] at c); replace c := (HB.out.cell (wl_ w _ c)).trans c; replace p528 := et_ p528; replace q := et_ q; have p529 : 0 ≤ ((rd a 1) : Int) := dq_; have s : (rd a 1) < (n.length : Int) := dq_; obtain ⟨F, P, g⟩ := ai_ J.out (rd a 1) p529 s; obtain rfl : x = F := (by injection P); replace g := (HB.out.cell (wl_ w _ g)).trans g; replace p529 := et_ p529; replace s := et_ s; have p530 : 0 ≤ (2 : Int) := (by omega); have G : 2 < (a.length : Int) := dq_; obtain ⟨Q, ak, l⟩ := ai_ u.out 2 p530 G; obtain rfl : v = Q := (by injection ak); (try simp only [show (2 : Int).toNat = 2 from rfl, Nat.reduceMul, Nat.reduceEqDiff, Go.Addr.add, ↓reduceIte] at l); have am : (2 < a.length) = True := et_ (by omega); (try rw [show ((2 : Int)).toNat = 2 from rfl] at l); replace l := (HB.out.cell (wl_ w _ l)).trans l; replace p530 := et_ p530; replace G := et_ G; have p531 : 0 ≤ ((rd a 2) : Int) := dq_; have I : (rd a 2) < (n.length : Int) := dq_; obtain ⟨U, al, m⟩ := ai_ J.out (rd a 2) p531 I; obtain rfl : x = U := (by injection al); replace m := (HB.out.cell (wl_ w _ m)).trans m; replace p531 := et_ p531; replace I := et_ I))
                go_ret
                exact ⟨by first | rfl | (simp [errW_none, errW_some] <;> rfl) | (simp [*, errW_none, errW_some] <;> rfl), bel_⟩
              ·
               rw [ig_ c30] at H
               have c30b0 : decide ((rd n (rd a 2)) ≤ (rd n (rd a 0))) = false := df_ c30
               clear c30
               obtain rfl := si_ H
               go_enter Tryz.func48, Tryz.ntmps48
               go_wp2_with (first | ((with_reducible refine gate_dst (N := 2) rfl ?_); (try (refine gate_guard (by rfl) ?_; dsimp only)); refine bxe_ (N := 2) (cs := #[.int .i64 y, .slice ad a.length c0_1, .slice ae V.length c0_2, .slice af W.length c0_3, .slice ag X.length c0_4, .slice ah Y.length c0_5, .int .i64 ai, .slice aj Z.length c0_7]) (t := 32) ?_; intro z hg w39 hbox hb; have A := a_ (hbox); have B := a_ (by rw [hg]; exact (bz_ bel_) : w.heap.size ≤ z); have aa := B; replace HB := a_ (bp_ bel_ hb); clear hb hbox hg; obtain ⟨_, _, _, _, _, _, _, _, _, _, _, _, _, _, _, _⟩ := cel8_ A.out; have p526 : 0 ≤ (0 : Int) := (by omega); have o : 0 < (a.length : Int) := dq_; obtain ⟨v, K, b⟩ := ai_ u.out 0 p526 o; cases K; have ab : (0 < a.length) = True := et_ (by omega); (try rw [show ((0 : Int)).toNat = 0 from rfl] at b); (try rw [Addr.add_zero'] at b); replace b := (HB.out.cell (wl_ w _ b)).trans b; replace p526 := et_ p526; replace o := et_ o; have p527 : 0 ≤ ((rd a 0) : Int) := dq_; have p : (rd a 0) < (n.length : Int) := dq_; obtain ⟨x, M, d⟩ := ai_ J.out (rd a 0) p527 p; cases M; replace d := (HB.out.cell (wl_ w _ d)).trans d; replace p527 := et_ p527; replace p := et_ p; have p528 : 0 ≤ (1 : Int) := (by omega); have q : 1 < (a.length : Int) := dq_; obtain ⟨E, O, c⟩ := ai_ u.out 1 p528 q; obtain rfl : v = E := (by injection O); (try simp only [show (1 : Int).toNat = 1 from rfl, Nat.reduceMul, Nat.reduceEqDiff, Go.Addr.add, ↓reduceIte] at c); have ac : (1 < a.length) = True := et_ (by omega); (try rw [show ((1 : Int)).toNat = 1 from rfl] at c); replace c := (HB.out.cell (wl_ w _ c)).trans c; replace p528 := et_ p528; replace q := et_ q; have p529 : 0 ≤ ((rd a 1) : Int) := dq_; have s : (rd a 1) < (n.length : Int) := dq_; obtain ⟨F, P, g⟩ := ai_ J.out (rd a 1) p529 s; obtain rfl : x = F := (by injection P); replace g := (HB.out.cell (wl_ w _ g)).trans g; replace p529 := et_ p529; replace s := et_ s; have p530 : 0 ≤ (2 : Int) := (by omega); have G : 2 < (a.length : Int) := dq_; obtain ⟨Q, ak, l⟩ := ai_ u.out 2 p530 G; obtain rfl : v = Q := (by injection ak); (try simp only [show (2 : Int).toNat = 2 from rfl, Nat.reduceMul, Nat.reduceEqDiff, Go.Addr.add, ↓reduceIte] at l); have am : (2 < a.length) = True := et_ (by omega); (try rw [show ((2 : Int)).toNat = 2 from rfl] at l); replace l := (HB.out.cell (wl_ w _ l)).trans l; replace p530 := et_ p530; replace G := et_ G; have p531 : 0 ≤ ((rd a 2) : Int) := dq_; have I : (rd a 2) < (n.length : Int) := dq_; obtain ⟨U, al, m⟩ := ai_ J.out (rd a 2) p531 I; obtain rfl : x = U := (by injection al); replace m := (HB.out.cell (wl_ w _ m)).trans m; replace p531 := et_ p531; replace I := et_ I))
               go_ret
               exact ⟨by first | rfl | (simp [errW_none, errW_some] <;> rfl) | (simp [*, errW_none, errW_some] <;> rfl), bel_⟩
             ·
              rw [ig_ c29] at H
              have c29b0 : (y == 9) = false := be_.mpr c29
              have c29b1 : (y != 9) = true := ni_.mpr c29
              by_cases c41 : y = 10
              ·
               rw [ip_ c41] at H
               have c41b0 : (y == 10) = true := beq_iff_eq.mpr c41
               have c41b1 : (y != 10) = false := bn_.mpr c41
               clear c41
               by_cases c42 : (rd n (rd a 2)) ≥ (rd n (rd a 0))
               ·
                rw [ip_ c42] at H
                have c42b0 : decide ((rd n (rd a 0)) ≤ (rd n (rd a 2))) = true := dt_ c42
                clear c42
                by_cases c43 : (rd n (rd a 2)) ≥ (rd n (rd a 1))
                ·
                 rw [ip_ c43] at H
                 have c43b0 : decide ((rd n (rd a 1)) ≤ (rd n (rd a 2))) = true := dt_ c43
                 clear c43
                 by_cases c44 : (rd n (rd a 2)) = (rd n (rd a 0))
                 ·
                  rw [ip_ c44] at H
                  have c44b0 : ((rd n (rd a 2)) == (rd n (rd a 0))) = true := beq_iff_eq.mpr c44
                  have c44b1 : ((rd n (rd a 2)) != (rd n (rd a 0))) = false := bn_.mpr c44
                  clear c44
                  obtain rfl := si_ H
                  go_enter Tryz.func48, Tryz.ntmps48
                  go_wp2_with (first | ((with_reducible refine gate_dst (N := 2) rfl ?_); (try (refine gate_guard (by rfl) ?_; dsimp only)); refine bxe_ (N := 2) (cs := #[.int .i64 y, .slice ad a.length c0_1, .slice ae V.length c0_2, .slice af W.length c0_3, .slice ag X.length c0_4, .slice ah Y.length c0_5, .int .i64 ai, .slice aj Z.length c0_7]) (t := 32) ?_; intro z hg w45 hbox hb; have A := a_ (hbox); have B := a_ (by rw [hg]; exact (bz_ bel_) : w.heap.size ≤ z); have aa := B; replace HB := a_ (bp_ bel_ hb); clear hb hbox hg; obtain ⟨_, _, _, _, _, _, _, _, _, _, _, _, _, _, _, _⟩ := cel8_ A.out; have p526 : 0 ≤ (0 : Int) := (by omega); have o : 0 < (a.length : Int) := dq_; obtain ⟨v, K, b⟩ := ai_ u.out 0 p526 o; cases K; have ab : (0 < a.length) = True := et_ (by omega); (try rw [show ((0 : Int)).toNat = 0 from rfl] at b); (try rw [Addr.add_zero'] at b); replace b := (HB.out.cell (wl_ w _ b)).trans b; replace p526 := et_ p526; replace o := et_ o; have p527 : 0 ≤ ((rd a 0) : Int) := dq_; have p : (rd a 0) < (n.length : Int) := dq_; obtain ⟨x, M, d⟩ := ai_ J.out (rd a 0) p527 p; cases M; replace d := (HB.out.cell (wl_ w _ d)).trans d; replace p527 := et_ p527; replace p := et_ p; have p528 : 0 ≤ (1 : Int) := (by omega); have q : 1 < (a.length : Int) := dq_; obtain ⟨E, O, c⟩ := ai_ u.out 1 p528 q; obtain rfl : v = E := (by injection O); (try simp only [show (1 : Int).toNat = 1 from rfl, Nat.reduceMul, Nat.reduceEqDiff, Go.Addr.add, ↓reduceIte] at c); have ac : (1 < a.length) = True := et_ (by omega); (try rw [show ((1 : Int)).toNat = 1 from rfl] at c); replace c := (HB.out.cell (wl_ w _ c)).trans c; replace p528 := et_ p528; replace q := et_ q; have p529 : 0 ≤ ((rd a 1) : Int) := dq_; have s : (rd a 1) < (n.length : Int) := dq_; obtain ⟨F, P, g⟩ := ai_ J.out (rd a 1) p529 s; obtain rfl : x = F := (by injection P); replace g := (HB.out.cell (wl_ w _ g)).trans g; replace p529 := et_ p529; replace s := et_ s; have p530 : 0 ≤ (2 : Int) := (by omega); have G : 2 < (a.length : Int) := dq_; obtain ⟨Q, ak, l⟩ := ai_ u.out 2 p530 G; obtain rfl : v = Q := (by injection ak); (try simp only [show (2 : Int).toNat = 2 from rfl, Nat.reduceMul, Nat.reduceEqDiff, Go.Addr.add, ↓reduceIte] at l); have am : (2 < a.length) = True := et_ (by omega); (try rw [show ((2 : Int)).toNat = 2 from rfl] at l); replace l := (HB.out.cell (wl_ w _ l)).trans l; replace p530 := et_ p530; replace G := et_ G; have p531 : 0 ≤ ((rd a 2) : Int) := dq_; have I : (rd a 2) < (n.length : Int) := dq_; obtain ⟨U, al, m⟩ := ai_ J.out (rd a 2) p531 I; obtain rfl : x = U := (by injection al); replace m := (HB.out.cell (wl_ w _ m)).trans m; replace p531 := et_ p531; replace I := et_ I))
                  go_ret
                  exact ⟨by first | rfl | (simp [errW_none, errW_some] <;> rfl) | (simp [*, errW_none, errW_some] <;> rfl), bel_⟩
                 ·
                  rw [ig_ c44] at H
                  have c44b0 : ((rd n (rd a 2)) == (rd n (rd a 0))) = false := be_.mpr c44
                  have c44b1 : ((rd n (rd a 2)) != (rd n (rd a 0))) = true := ni_.mpr c44
                  obtain rfl := si_ H
                  go_enter Tryz.func48, Tryz.ntmps48
                  go_wp2_with (first | ((with_reducible refine gate_dst (N := 2) rfl ?_); (try (refine gate_guard (by rfl) ?_; dsimp only)); refine bxe_ (N := 2) (cs := #[.int .i64 y, .slice ad a.length c0_1, .slice ae V.length c0_2, .slice af W.length c0_3, .slice ag X.length c0_4, .slice ah Y.length c0_5, .int .i64 ai, .slice aj Z.length c0_7]) (t := 32) ?_; intro z hg w47 hbox hb; have A := a_ (hbox); have B := a_ (by rw [hg]; exact (bz_ bel_) : w.heap.size ≤ z); have aa := B; replace HB := a_ (bp_ bel_ hb); clear hb hbox hg; obtain ⟨_, _, _, _, _, _, _, _, _, _, _, _, _, _, _, _⟩ := cel8_ A.out; have p526 : 0 ≤ (0 : Int) := (by omega); have o : 0 < (a.length : Int) := dq_; obtain ⟨v, K, b⟩ := ai_ u.out 0 p526 o; cases K; have ab : (0 < a.length) = True := et_ (by omega); (try rw [show ((0 : Int)).toNat = 0 from rfl] at b); (try rw [Addr.add_zero'] at b); replace b := (HB.out.cell (wl_ w _ b)).trans b; replace p526 := et_ p526; replace o := et_ o; have p527 : 0 ≤ ((rd a 0) : Int) := dq_; have p : (rd a 0) < (n.length : Int) := dq_; obtain ⟨x, M, d⟩ := ai_ J.out (rd a 0) p527 p; cases M; replace d := (HB.out.cell (wl_ w _ d)).trans d; replace p527 := et_ p527; replace p := et_ p; have p528 : 0 ≤ (1 : Int) := (by omega); have q : 1 < (a.length : Int) := dq_; obtain ⟨E, O, c⟩ := ai_ u.out 1 p528 q; obtain rfl : v = E := (by injection O); (try simp only [show (1 : Int).toNat = 1 from rfl, Nat.reduceMul, Nat.reduceEqDiff, Go.Addr.add, ↓reduceIte] at c); have ac : (1 < a.length) = True := et_ (by omega); (try rw [show ((1 : Int)).toNat = 1 from rfl] at c); replace c := (HB.out.cell (wl_ w _ c)).trans c; replace p528 := et_ p528; replace q := et_ q; have p529 : 0 ≤ ((rd a 1) : Int) := dq_; have s : (rd a 1) < (n.length : Int) := dq_; obtain ⟨F, P, g⟩ := ai_ J.out (rd a 1) p529 s; obtain rfl : x = F := (by injection P); replace g := (HB.out.cell (wl_ w _ g)).trans g; replace p529 := et_ p529; replace s := et_ s; have p530 : 0 ≤ (2 : Int) := (by omega); have G : 2 < (a.length : Int) := dq_; obtain ⟨Q, ak, l⟩ := ai_ u.out 2 p530 G; obtain rfl : v = Q := (by injection ak); (try simp only [show (2 : Int).toNat = 2 from rfl, Nat.reduceMul, Nat.reduceEqDiff, Go.Addr.add, ↓reduceIte] at l); have am : (2 < a.length) = True := et_ (by omega); (try rw [show ((2 : Int)).toNat = 2 from rfl] at l); replace l := (HB.out.cell (wl_ w _ l)).trans l; replace p530 := et_ p530; replace G := et_ G; have p531 : 0 ≤ ((rd a 2) : Int) := dq_; have I : (rd a 2) < (n.length : Int) := dq_; obtain ⟨U, al, m⟩ := ai_ J.out (rd a 2) p531 I; obtain rfl : x = U := (by injection al); replace m := (HB.out.cell (wl_ w _ m)).trans m; replace p531 := et_ p531; replace I := et_ I))
                  go_ret
                  exact ⟨by first | rfl | (simp [errW_none, errW_some] <;> rfl) | (simp [*, errW_none, errW_some] <;> rfl), bel_⟩
                ·
                 rw [ig_ c43] at H
                 have c43b0 : decide ((rd n (rd a 1)) ≤ (rd n (rd a 2))) = false := df_ c43
                 clear c43
                 obtain rfl := si_ H
                 go_enter Tryz.func48, Tryz.ntmps48
                 go_wp2_with (first | ((with_reducible refine gate_dst (N := 2) rfl ?_); (try (refine gate_guard (by rfl) ?_; dsimp only)); refine bxe_ (N := 2) (cs := #[.int .i64 y, .slice ad a.length c0_1, .slice ae V.length c0_2, .slice af W.length c0_3, .slice ag X.length c0_4, .slice ah Y.length c0_5, .int .i64 ai, .slice aj Z.length c0_7]) (t := 32) ?_; intro z hg w49 hbox hb; have A := a_ (hbox); have B := a_ (by rw [hg]; exact (bz_ bel_) : w.heap.size ≤ z); have aa := B; replace HB := a_ (bp_ bel_ hb); clear hb hbox hg; obtain ⟨_, _, _, _, _, _, _, _, _, _, _, _, _, _, _, _⟩ := cel8_ A.out; have p526 : 0 ≤ (0 : Int) := (by omega); have o : 0 < (a.length : Int) := dq_; obtain ⟨v, K, b⟩ := ai_ u.out 0 p526 o; cases K; have ab : (0 < a.length) = True := et_ (by omega); (try rw [show ((0 : Int)).toNat = 0 from rfl] at b); (try rw [Addr.add_zero'] at b); replace b := (HB.out.cell (wl_ w _ b)).trans b; replace p526 := et_ p526; replace o := et_ o; have p527 : 0 ≤ ((rd a 0) : Int) := dq_; have p : (rd a 0) < (n.length : Int) := dq_; obtain ⟨x, M, d⟩ := ai_ J.out (rd a 0) p527 p; cases M; replace d := (HB.out.cell (wl_ w _ d)).trans d; replace p527 := et_ p527; replace p := et_ p; have p528 : 0 ≤ (1 : Int) := (by omega); have q : 1 < (a.length : Int) := dq_; obtain ⟨E, O, c⟩ := ai_ u.out 1 p528 q; obtain rfl : v = E := (by injection O); (try simp only [show (1 : Int).toNat = 1 from rfl, Nat.reduceMul, Nat.reduceEqDiff, Go.Addr.add, ↓reduceIte] at c); have ac : (1 < a.length) = True := et_ (by omega); (try rw [show ((1 : Int)).toNat = 1 from rfl] at c); replace c := (HB.out.cell (wl_ w _ c)).trans c; replace p528 := et_ p528; replace q := et_ q; have p529 : 0 ≤ ((rd a 1) : Int) := dq_; have s : (rd a 1) < (n.length : Int) := dq_; obtain ⟨F, P, g⟩ := ai_ J.out (rd a 1) p529 s; obtain rfl : x = F := (by injection P); replace g := (HB.out.cell (wl_ w _ g)).trans g; replace p529 := et_ p529; replace s := et_ s; have p530 : 0 ≤ (2 : Int) := (by omega); have G : 2 < (a.length : Int) := dq_; obtain ⟨Q, ak, l⟩ := ai_ u.out 2 p530 G; obtain rfl : v = Q := (by injection ak); (try simp only [show (2 : Int).toNat = 2 from rfl, Nat.reduceMul, Nat.reduceEqDiff, Go.Addr.add, ↓reduceIte] at l); have am : (2 < a.length) = True := et_ (by omega); (try rw [show ((2 : Int)).toNat = 2 from rfl] at l); replace l := (HB.out.cell (wl_ w _ l)).trans l; replace p530 := et_ p530; replace G := et_ G; have p531 : 0 ≤ ((rd a 2) : Int) := dq_; have I : (rd a 2) < (n.length : Int) := dq_; obtain ⟨U, al, m⟩ := ai_ J.out (rd a 2) p531 I; obtain rfl : x = U := (by injection al); replace m := (HB.out.cell (wl_ w _ m)).trans m; replace p531 := et_ p531; replace I := et_ I))
                 go_ret
                 exact ⟨by first | rfl | (simp [errW_none, errW_some] <;> rfl) | (simp [*, errW_none, errW_some] <;> rfl), bel_⟩
               ·
                rw [ig_ c42] at H
                have c42b0 : decide ((rd n (rd a 0)) ≤ (rd n (rd a 2))) = false := df_ c42
                clear c42
                obtain rfl := si_ H
                go_enter Tryz.func48, Tryz.ntmps48
                go_wp2_with (first | ((with_reducible refine gate_dst (N := 2) rfl ?_); (try (refine gate_guard (by rfl) ?_; dsimp only)); refine bxe_ (N := 2) (cs := #[.int .i64 y, .slice ad a.length c0_1, .slice ae V.length c0_2, .slice af W.length c0_3, .slice ag X.length c0_4, .slice ah Y.length c0_5, .int .i64 ai, .slice aj Z.length c0_7]) (t := 32) ?_; intro z hg w51 hbox hb; have A := a_ (hbox); have B := a_ (by rw [hg]; exact (bz_ bel_) : w.heap.size ≤ z); have aa := B; replace HB := a_ (bp_ bel_ hb); clear hb hbox hg; obtain ⟨_, _, _, _, _, _, _, _, _, _, _, _, _, _, _, _⟩ := cel8_ A.out; have p526 : 0 ≤ (0 : Int) := (by omega); have o : 0 < (a.length : Int) := dq_; obtain ⟨v, K, b⟩ := ai_ u.out 0 p526 o; cases K; have ab : (0 < a.length) = True := et_ (by omega); (try rw [show ((0 : Int)).toNat = 0 from rfl] at b); (try rw [Addr.add_zero'] at b); replace b := (HB.out.cell (wl_ w _ b)).trans b; replace p526 := et_ p526; replace o := et_ o; have p527 : 0 ≤ ((rd a 0) : Int) := dq_; have p : (rd a 0) < (n.length : Int) := dq_; obtain ⟨x, M, d⟩ := ai_ J.out (rd a 0) p527 p; cases M; replace d := (HB.out.cell (wl_ w _ d)).trans d; replace p527 := et_ p527; replace p := et_ p; have p528 : 0 ≤ (1 : Int) := (by omega); have q : 1 < (a.length : Int) := dq_; obtain ⟨E, O, c⟩ := ai_ u.out 1 p528 q; obtain rfl : v = E := (by injection O); (try simp only [show (1 : Int).toNat = 1 from rfl, Nat.reduceMul, Nat.reduceEqDiff, Go.Addr.add, ↓reduceIte] at c); have ac : (1 < a.length) = True := et_ (by omega); (try rw [show ((1 : Int)).toNat = 1 from rfl] at c); replace c := (HB.out.cell (wl_ w _ c)).trans c; replace p528 := et_ p528; replace q := et_ q; have p529 : 0 ≤ ((rd a 1) : Int) := dq_; have s : (rd a 1) < (n.length : Int) := dq_; obtain ⟨F, P, g⟩ := ai_ J.out (rd a 1) p529 s; obtain rfl : x = F := (by injection P); replace g := (HB.out.cell (wl_ w _ g)).trans g; replace p529 := et_ p529; replace s := et_ s; have p530 : 0 ≤ (2 : Int) := (by omega); have G : 2 < (a.length : Int) := dq_; obtain ⟨Q, ak, l⟩ := ai_ u.out 2 p530 G; obtain rfl : v = Q := (by injection ak); (try simp only [show (2 : Int).toNat = 2 from rfl, Nat.reduceMul, Nat.reduceEqDiff, Go.Addr.add, ↓reduceIte] at l); have am : (2 < a.length) = True := et_ (by omega); (try rw [show ((2 : Int)).toNat = 2 from rfl] at l); replace l := (HB.out.cell (wl_ w _ l)).trans l; replace p530 := et_ p530; replace G := et_ G; have p531 : 0 ≤ ((rd a 2) : Int) := dq_; have I : (rd a 2) < (n.length : Int) := dq_; obtain ⟨U, al, m⟩ := ai_ J.out (rd a 2) p531 I; obtain rfl : x = U := (by injection al); replace m := (HB.out.cell (wl_ w _ m)).trans m; replace p531 := et_ p531; replace I := et_ I))
                go_ret
                exact ⟨by first | rfl | (simp [errW_none, errW_some] <;> rfl) | (simp [*, errW_none, errW_some] <;> rfl), bel_⟩
              ·
               rw [ig_ c41] at H
               exact absurd H (by simp)
           ·
            rw [ig_ c27] at H
            exact absurd H (by simp)
          ·
           rw [ig_ c26] at H
           exact absurd H (by simp)
         ·
          rw [ig_ c25] at H
          exact absurd H (by simp)
      ·
       rw [ig_ c8] at H
       exact absurd H (by simp)
     ·
      rw [ig_ c7] at H
      exact absurd H (by simp)
    ·
     rw [ig_ c6] at H
     exact absurd H (by simp)
   ·
    rw [ig_ c5] at H
    exact absurd H (by simp)
  ·
   rw [ig_ c4] at H
   exact absurd H (by simp)
 ·
  rw [ig_ c3] at H
  exact absurd H (by simp)

end Go.Proofs.YtiofjnhmogeenaaGreatDoor.XExtKeeps
