-- by xprint.py, a program of this session, over the kit's print
import Derived.Test.YtbhhbgoamomacaaGreatDoorXMKex0
import Derived.Test.YtbhhbgoamomacaaGreatDoorXMKex19
import Derived.Test.YtbhhbgoamomacaaGreatDoorSq
namespace Go.Proofs.YtbhhbgoamomacaaGreatDoor.XMulKeeps
open Go.RowKit Go.Proofs.YtbhhbgoamomacaaGreatDoor.Sq Go.Proofs.YtbhhbgoamomacaaGreatDoorW.PrintWords Go.Proofs.YtbhhbgoamomacaaGreatDoorW.PrintLast Go.Proofs.YtbhhbgoamomacaaGreatDoorW.PrintMore
attribute [local go_sem] max2_int min2_int max_two min_two max_three min_three max_four min_four   -- for this text's walks alone
set_option linter.unusedVariables false
set_option linter.unusedSimpArgs false

/-! ### jigsawref09_three: function 47 -/
def jigsawref09_three.f (k : Nat) (b : Int) (a : List Int) (e : List Int) (g : List Int) (l : List Int) (m : List Int) (n : Int) (o : List (List Int)) (c : List Int) : Option (Bool) := if 0 < (a.length : Int) then (if 0 ≤ (rd a 0) then (if (rd a 0) < (c.length : Int) then (if 1 < (a.length : Int) then (if 0 ≤ (rd a 1) then (if (rd a 1) < (c.length : Int) then (if b = 8 then (none) else (if b = 11 then (none) else (if 2 < (a.length : Int) then (if 0 ≤ (rd a 2) then (if (rd a 2) < (c.length : Int) then (if b = 5 then (some ((wrap64 ((rd c (rd a 0)) * (rd c (rd a 1)))) == (rd c (rd a 2)))) else (if b = 9 then (none) else (if b = 10 then (none) else ((jigsawref01_Quo.f k (rd c (rd a 0)) (rd c (rd a 1))).bind fun d => (if b = 6 then (if d.2 = true then (some (d.1 == (rd c (rd a 2)))) else (some false)) else (if d.2 = true then (some ((wrap64 ((rd c (rd a 0)) - (wrap64 ((rd c (rd a 1)) * d.1)))) == (rd c (rd a 2)))) else (some false))))))) else (none)) else (none)) else (none)))) else (none)) else (none)) else (none)) else (none)) else (none)) else (none)
theorem jigsawref09_three.mono : ∀ a b c d e g l m n k, LeO (jigsawref09_three.f k a b c d e g l m n) (jigsawref09_three.f (k + 1) a b c d e g l m n) := by
 intro a b c d e g l m n k
 unfold jigsawref09_three.f
 have m0 := @jigsawref01_Quo.mono
 exact leo_
set_option maxHeartbeats 8000000 in
set_option maxRecDepth 100000 in
theorem jigsawref09_three.calls (k : Nat) (n : Int) (ac : Option Addr) (c0_1 : Nat) (a : List Int) (ad : Option Addr) (c0_2 : Nat) (O : List Int) (ae : Option Addr) (c0_3 : Nat) (P : List Int) (af : Option Addr) (c0_4 : Nat) (Q : List Int) (ag : Option Addr) (c0_5 : Nat) (U : List Int) (ah : Int) (ai : Option Addr) (c0_7 : Nat) (V : List (List Int)) (A1 : Option Addr) (c1 : Nat) (A : List Int) (r : Bool) (w : World) (ao : Kd.C (Kd.int .i64) w ac a.length a) (ap : a.length ≤ c0_1) (aA : Kd.C (Kd.int .i64) w ad O.length O) (aq : O.length ≤ c0_2) (aB : Kd.C (Kd.int .i64) w ae P.length P) (ar : P.length ≤ c0_3) (aC : Kd.C (Kd.int .i64) w af Q.length Q) (au : Q.length ≤ c0_4) (aD : Kd.C (Kd.int .i64) w ag U.length U) (av : U.length ≤ c0_5) (aE : Kd.C (Kd.slice 3 (Kd.int .i64)) w ai V.length V) (aw : V.length ≤ c0_7) (aF : Kd.C (Kd.int .i64) w A1 A.length A) (aG : A.length ≤ c1) (h : jigsawref09_three.f k n a O P Q U ah V A = some r) :
  Calls Tryz.prog 47 #[.agg #[.int .i64 n, .slice ac a.length c0_1, .slice ad O.length c0_2, .slice ae P.length c0_3, .slice af Q.length c0_4, .slice ag U.length c0_5, .int .i64 ah, .slice ai V.length c0_7], .slice A1 A.length c1] w fun e w' => e = .returned (.bool r) ∧ Below w.heap.size w w' := by
 have hu32 := Tryz.underlying32
 have o := a_ ao
 have aI := a_ ap
 clear ao ap
 have aJ := a_ aq
 clear aA aq
 have aK := a_ ar
 clear aB ar
 have aL := a_ au
 clear aC au
 have aM := a_ av
 clear aD av
 have aN := a_ aw
 clear aE aw
 have M := a_ aF
 have aO := a_ aG
 clear aF aG
 have HB := a_ (Below.refl w.heap.size w)
 unfold jigsawref09_three.f at h
 have H := h
 clear h
 by_cases c3 : 0 < (a.length : Int)
 ·
  rw [ip_ c3] at H
  have c3b0 : decide (0 < (a.length : Int)) = true := dt_ c3
  have c3b1 : decide (0 < a.length) = true := dt_ (by omega)
  clear c3
  by_cases c4 : 0 ≤ (rd a 0)
  ·
   rw [ip_ c4] at H
   have c4b0 : decide (0 ≤ (rd a 0)) = true := dt_ c4
   clear c4
   by_cases c5 : (rd a 0) < (A.length : Int)
   ·
    rw [ip_ c5] at H
    have c5b0 : decide ((rd a 0) < (A.length : Int)) = true := dt_ c5
    clear c5
    by_cases c6 : 1 < (a.length : Int)
    ·
     rw [ip_ c6] at H
     have c6b0 : decide (1 < (a.length : Int)) = true := dt_ c6
     have c6b1 : decide (1 < a.length) = true := dt_ (by omega)
     clear c6
     by_cases c7 : 0 ≤ (rd a 1)
     ·
      rw [ip_ c7] at H
      have c7b0 : decide (0 ≤ (rd a 1)) = true := dt_ c7
      clear c7
      by_cases c8 : (rd a 1) < (A.length : Int)
      ·
       rw [ip_ c8] at H
       have c8b0 : decide ((rd a 1) < (A.length : Int)) = true := dt_ c8
       clear c8
       by_cases c9 : n = 8
       ·
        rw [ip_ c9] at H
        exact absurd H (by simp)
       ·
        rw [ig_ c9] at H
        have c9b0 : (n == 8) = false := be_.mpr c9
        have c9b1 : (n != 8) = true := ni_.mpr c9
        by_cases c10 : n = 11
        ·
         rw [ip_ c10] at H
         exact absurd H (by simp)
        ·
         rw [ig_ c10] at H
         have c10b0 : (n == 11) = false := be_.mpr c10
         have c10b1 : (n != 11) = true := ni_.mpr c10
         by_cases c11 : 2 < (a.length : Int)
         ·
          rw [ip_ c11] at H
          have c11b0 : decide (2 < (a.length : Int)) = true := dt_ c11
          have c11b1 : decide (2 < a.length) = true := dt_ (by omega)
          clear c11
          by_cases c12 : 0 ≤ (rd a 2)
          ·
           rw [ip_ c12] at H
           have c12b0 : decide (0 ≤ (rd a 2)) = true := dt_ c12
           clear c12
           by_cases c13 : (rd a 2) < (A.length : Int)
           ·
            rw [ip_ c13] at H
            have c13b0 : decide ((rd a 2) < (A.length : Int)) = true := dt_ c13
            clear c13
            by_cases c14 : n = 5
            ·
             rw [ip_ c14] at H
             have c14b0 : (n == 5) = true := beq_iff_eq.mpr c14
             have c14b1 : (n != 5) = false := bn_.mpr c14
             clear c14
             obtain rfl := si_ H
             go_enter Tryz.func47, Tryz.ntmps47
             go_wp2_with (first | ((with_reducible refine gate_dst (N := 2) rfl ?_); (try (refine gate_guard (by rfl) ?_; dsimp only)); refine bxe_ (N := 2) (cs := #[.int .i64 n, .slice ac a.length c0_1, .slice ad O.length c0_2, .slice ae P.length c0_3, .slice af Q.length c0_4, .slice ag U.length c0_5, .int .i64 ah, .slice ai V.length c0_7]) (t := 32) ?_; intro B hg w15 hbox hb; have E := a_ (hbox); have F := a_ (by rw [hg]; exact (bz_ bel_) : w.heap.size ≤ B); have aj := F; replace HB := a_ (bp_ bel_ hb); clear hb hbox hg; obtain ⟨_, _, _, _, _, _, _, _, _, _, _, _, _, _, _, _⟩ := cel8_ E.out; have p515 : 0 ≤ (0 : Int) := (by omega); have p : 0 < (a.length : Int) := dq_; obtain ⟨y, W, b⟩ := ai_ o.out 0 p515 p; cases W; have ak : (0 < a.length) = True := et_ (by omega); (try rw [show ((0 : Int)).toNat = 0 from rfl] at b); (try rw [Addr.add_zero'] at b); replace b := (HB.out.cell (wl_ w _ b)).trans b; replace p515 := et_ p515; replace p := et_ p; have p516 : 0 ≤ ((rd a 0) : Int) := dq_; have q : (rd a 0) < (A.length : Int) := dq_; obtain ⟨z, X, g⟩ := ai_ M.out (rd a 0) p516 q; cases X; replace g := (HB.out.cell (wl_ w _ g)).trans g; replace p516 := et_ p516; replace q := et_ q; have p517 : 0 ≤ (1 : Int) := (by omega); have s : 1 < (a.length : Int) := dq_; obtain ⟨G, Y, c⟩ := ai_ o.out 1 p517 s; obtain rfl : y = G := (by injection Y); (try simp only [show (1 : Int).toNat = 1 from rfl, Nat.reduceMul, Nat.reduceEqDiff, Go.Addr.add, ↓reduceIte] at c); have al : (1 < a.length) = True := et_ (by omega); (try rw [show ((1 : Int)).toNat = 1 from rfl] at c); replace c := (HB.out.cell (wl_ w _ c)).trans c; replace p517 := et_ p517; replace s := et_ s; have p518 : 0 ≤ ((rd a 1) : Int) := dq_; have u : (rd a 1) < (A.length : Int) := dq_; obtain ⟨I, Z, l⟩ := ai_ M.out (rd a 1) p518 u; obtain rfl : z = I := (by injection Z); replace l := (HB.out.cell (wl_ w _ l)).trans l; replace p518 := et_ p518; replace u := et_ u; have p519 : 0 ≤ (2 : Int) := (by omega); have v : 2 < (a.length : Int) := dq_; obtain ⟨J, aa, d⟩ := ai_ o.out 2 p519 v; obtain rfl : y = J := (by injection aa); (try simp only [show (2 : Int).toNat = 2 from rfl, Nat.reduceMul, Nat.reduceEqDiff, Go.Addr.add, ↓reduceIte] at d); have am : (2 < a.length) = True := et_ (by omega); (try rw [show ((2 : Int)).toNat = 2 from rfl] at d); replace d := (HB.out.cell (wl_ w _ d)).trans d; replace p519 := et_ p519; replace v := et_ v; have p520 : 0 ≤ ((rd a 2) : Int) := dq_; have x : (rd a 2) < (A.length : Int) := dq_; obtain ⟨K, ab, m⟩ := ai_ M.out (rd a 2) p520 x; obtain rfl : z = K := (by injection ab); replace m := (HB.out.cell (wl_ w _ m)).trans m; replace p520 := et_ p520; replace x := et_ x))
             go_ret
             exact ⟨by first | rfl | (simp [errW_none, errW_some] <;> rfl) | (simp [*, errW_none, errW_some] <;> rfl), bel_⟩
            ·
             rw [ig_ c14] at H
             have c14b0 : (n == 5) = false := be_.mpr c14
             have c14b1 : (n != 5) = true := ni_.mpr c14
             by_cases c17 : n = 9
             ·
              rw [ip_ c17] at H
              exact absurd H (by simp)
             ·
              rw [ig_ c17] at H
              have c17b0 : (n == 9) = false := be_.mpr c17
              have c17b1 : (n != 9) = true := ni_.mpr c17
              by_cases c18 : n = 10
              ·
               rw [ip_ c18] at H
               exact absurd H (by simp)
              ·
               rw [ig_ c18] at H
               have c18b0 : (n == 10) = false := be_.mpr c18
               have c18b1 : (n != 10) = true := ni_.mpr c18
               replace H := bs_.mp H
               obtain ⟨⟨an, ay⟩, az, H⟩ := H
               try dsimp only at H
               have ax := a_ az
               clear az
               by_cases c20 : n = 6
               ·
                rw [ip_ c20] at H
                have c20b0 : (n == 6) = true := beq_iff_eq.mpr c20
                have c20b1 : (n != 6) = false := bn_.mpr c20
                clear c20
                by_cases c21 : ay = true
                ·
                 subst c21
                 rw [ip_ rfl] at H
                 obtain rfl := si_ H
                 go_enter Tryz.func47, Tryz.ntmps47
                 go_wp2_with (first | ((with_reducible refine gate_dst (N := 2) rfl ?_); (try (refine gate_guard (by rfl) ?_; dsimp only)); refine bxe_ (N := 2) (cs := #[.int .i64 n, .slice ac a.length c0_1, .slice ad O.length c0_2, .slice ae P.length c0_3, .slice af Q.length c0_4, .slice ag U.length c0_5, .int .i64 ah, .slice ai V.length c0_7]) (t := 32) ?_; intro B hg w22 hbox hb; have E := a_ (hbox); have F := a_ (by rw [hg]; exact (bz_ bel_) : w.heap.size ≤ B); have aj := F; replace HB := a_ (bp_ bel_ hb); clear hb hbox hg; obtain ⟨_, _, _, _, _, _, _, _, _, _, _, _, _, _, _, _⟩ := cel8_ E.out; have p515 : 0 ≤ (0 : Int) := (by omega); have p : 0 < (a.length : Int) := dq_; obtain ⟨y, W, b⟩ := ai_ o.out 0 p515 p; cases W; have ak : (0 < a.length) = True := et_ (by omega); (try rw [show ((0 : Int)).toNat = 0 from rfl] at b); (try rw [Addr.add_zero'] at b); replace b := (HB.out.cell (wl_ w _ b)).trans b; replace p515 := et_ p515; replace p := et_ p; have p516 : 0 ≤ ((rd a 0) : Int) := dq_; have q : (rd a 0) < (A.length : Int) := dq_; obtain ⟨z, X, g⟩ := ai_ M.out (rd a 0) p516 q; cases X; replace g := (HB.out.cell (wl_ w _ g)).trans g; replace p516 := et_ p516; replace q := et_ q; have p517 : 0 ≤ (1 : Int) := (by omega); have s : 1 < (a.length : Int) := dq_; obtain ⟨G, Y, c⟩ := ai_ o.out 1 p517 s; obtain rfl : y = G := (by injection Y); (try simp only [show (1 : Int).toNat = 1 from rfl, Nat.reduceMul, Nat.reduceEqDiff, Go.Addr.add, ↓reduceIte] at c); have al : (1 < a.length) = True := et_ (by omega); (try rw [show ((1 : Int)).toNat = 1 from rfl] at c); replace c := (HB.out.cell (wl_ w _ c)).trans c; replace p517 := et_ p517; replace s := et_ s; have p518 : 0 ≤ ((rd a 1) : Int) := dq_; have u : (rd a 1) < (A.length : Int) := dq_; obtain ⟨I, Z, l⟩ := ai_ M.out (rd a 1) p518 u; obtain rfl : z = I := (by injection Z); replace l := (HB.out.cell (wl_ w _ l)).trans l; replace p518 := et_ p518; replace u := et_ u; have p519 : 0 ≤ (2 : Int) := (by omega); have v : 2 < (a.length : Int) := dq_; obtain ⟨J, aa, d⟩ := ai_ o.out 2 p519 v; obtain rfl : y = J := (by injection aa); (try simp only [show (2 : Int).toNat = 2 from rfl, Nat.reduceMul, Nat.reduceEqDiff, Go.Addr.add, ↓reduceIte] at d); have am : (2 < a.length) = True := et_ (by omega); (try rw [show ((2 : Int)).toNat = 2 from rfl] at d); replace d := (HB.out.cell (wl_ w _ d)).trans d; replace p519 := et_ p519; replace v := et_ v; have p520 : 0 ≤ ((rd a 2) : Int) := dq_; have x : (rd a 2) < (A.length : Int) := dq_; obtain ⟨K, ab, m⟩ := ai_ M.out (rd a 2) p520 x; obtain rfl : z = K := (by injection ab); replace m := (HB.out.cell (wl_ w _ m)).trans m; replace p520 := et_ p520; replace x := et_ x) | (go_at_call 84; (with_reducible refine (jigsawref01_Quo.calls k (rd A (rd a 0)) (rd A (rd a 1)) an true _ ax.out).mono ?_); rintro e w' ⟨rfl, ⟨nd, rfl⟩⟩; (try first | exact ⟨rfl, _, World.drewN_drewN _ _ _⟩ | exact ⟨rfl, _, Eq.trans (World.drewN_drewN _ _ _) (congrArg (World.drewN _) (Nat.add_assoc _ _ _))⟩)))
                 go_ret
                 exact ⟨by first | rfl | (simp [errW_none, errW_some] <;> rfl) | (simp [*, errW_none, errW_some] <;> rfl), bel_⟩
                ·
                 replace c21 := bf_.mpr c21
                 subst c21
                 have H1 : (some false) = some r := by rw [ig_ (show ¬ (false = true) by decide)] at H; exact H
                 clear H
                 have H := H1
                 clear H1
                 obtain rfl := si_ H
                 go_enter Tryz.func47, Tryz.ntmps47
                 go_wp2_with (first | ((with_reducible refine gate_dst (N := 2) rfl ?_); (try (refine gate_guard (by rfl) ?_; dsimp only)); refine bxe_ (N := 2) (cs := #[.int .i64 n, .slice ac a.length c0_1, .slice ad O.length c0_2, .slice ae P.length c0_3, .slice af Q.length c0_4, .slice ag U.length c0_5, .int .i64 ah, .slice ai V.length c0_7]) (t := 32) ?_; intro B hg w24 hbox hb; have E := a_ (hbox); have F := a_ (by rw [hg]; exact (bz_ bel_) : w.heap.size ≤ B); have aj := F; replace HB := a_ (bp_ bel_ hb); clear hb hbox hg; obtain ⟨_, _, _, _, _, _, _, _, _, _, _, _, _, _, _, _⟩ := cel8_ E.out; have p515 : 0 ≤ (0 : Int) := (by omega); have p : 0 < (a.length : Int) := dq_; obtain ⟨y, W, b⟩ := ai_ o.out 0 p515 p; cases W; have ak : (0 < a.length) = True := et_ (by omega); (try rw [show ((0 : Int)).toNat = 0 from rfl] at b); (try rw [Addr.add_zero'] at b); replace b := (HB.out.cell (wl_ w _ b)).trans b; replace p515 := et_ p515; replace p := et_ p; have p516 : 0 ≤ ((rd a 0) : Int) := dq_; have q : (rd a 0) < (A.length : Int) := dq_; obtain ⟨z, X, g⟩ := ai_ M.out (rd a 0) p516 q; cases X; replace g := (HB.out.cell (wl_ w _ g)).trans g; replace p516 := et_ p516; replace q := et_ q; have p517 : 0 ≤ (1 : Int) := (by omega); have s : 1 < (a.length : Int) := dq_; obtain ⟨G, Y, c⟩ := ai_ o.out 1 p517 s; obtain rfl : y = G := (by injection Y); (try simp only [show (1 : Int).toNat = 1 from rfl, Nat.reduceMul, Nat.reduceEqDiff, Go.Addr.add, ↓reduceIte] at c); have al : (1 < a.length) = True := et_ (by omega); (try rw [show ((1 : Int)).toNat = 1 from rfl] at c); replace c := (HB.out.cell (wl_ w _ c)).trans c; replace p517 := et_ p517; replace s := et_ s; have p518 : 0 ≤ ((rd a 1) : Int) := dq_; have u : (rd a 1) < (A.length : Int) := dq_; obtain ⟨I, Z, l⟩ := ai_ M.out (rd a 1) p518 u; obtain rfl : z = I := (by injection Z); replace l := (HB.out.cell (wl_ w _ l)).trans l; replace p518 := et_ p518; replace u := et_ u; have p519 : 0 ≤ (2 : Int) := (by omega); have v : 2 < (a.length : Int) := dq_; obtain ⟨J, aa, d⟩ := ai_ o.out 2 p519 v; obtain rfl : y = J := (by injection aa); (try simp only [show (2 : Int).toNat = 2 from rfl, Nat.reduceMul, Nat.reduceEqDiff, Go.Addr.add, ↓reduceIte] at d); have am : (2 < a.length) = True := et_ (by omega); (try rw [show ((2 : Int)).toNat = 2 from rfl] at d); replace d := (HB.out.cell (wl_ w _ d)).trans d; replace p519 := et_ p519; replace v := et_ v; have p520 : 0 ≤ ((rd a 2) : Int) := dq_; have x : (rd a 2) < (A.length : Int) := dq_; obtain ⟨K, ab, m⟩ := ai_ M.out (rd a 2) p520 x; obtain rfl : z = K := (by injection ab); replace m := (HB.out.cell (wl_ w _ m)).trans m; replace p520 := et_ p520; replace x := et_ x) | (go_at_call 84; (with_reducible refine (jigsawref01_Quo.calls k (rd A (rd a 0)) (rd A (rd a 1)) an false _ ax.out).mono ?_); rintro e w' ⟨rfl, ⟨nd, rfl⟩⟩; (try first | exact ⟨rfl, _, World.drewN_drewN _ _ _⟩ | exact ⟨rfl, _, Eq.trans (World.drewN_drewN _ _ _) (congrArg (World.drewN _) (Nat.add_assoc _ _ _))⟩)))
                 go_ret
                 exact ⟨by first | rfl | (simp [errW_none, errW_some] <;> rfl) | (simp [*, errW_none, errW_some] <;> rfl), bel_⟩
               ·
                rw [ig_ c20] at H
                have c20b0 : (n == 6) = false := be_.mpr c20
                have c20b1 : (n != 6) = true := ni_.mpr c20
                by_cases c26 : ay = true
                ·
                 subst c26
                 rw [ip_ rfl] at H
                 obtain rfl := si_ H
                 go_enter Tryz.func47, Tryz.ntmps47
                 go_wp2_with (first | ((with_reducible refine gate_dst (N := 2) rfl ?_); (try (refine gate_guard (by rfl) ?_; dsimp only)); refine bxe_ (N := 2) (cs := #[.int .i64 n, .slice ac a.length c0_1, .slice ad O.length c0_2, .slice ae P.length c0_3, .slice af Q.length c0_4, .slice ag U.length c0_5, .int .i64 ah, .slice ai V.length c0_7]) (t := 32) ?_; intro B hg w27 hbox hb; have E := a_ (hbox); have F := a_ (by rw [hg]; exact (bz_ bel_) : w.heap.size ≤ B); have aj := F; replace HB := a_ (bp_ bel_ hb); clear hb hbox hg; obtain ⟨_, _, _, _, _, _, _, _, _, _, _, _, _, _, _, _⟩ := cel8_ E.out; have p515 : 0 ≤ (0 : Int) := (by omega); have p : 0 < (a.length : Int) := dq_; obtain ⟨y, W, b⟩ := ai_ o.out 0 p515 p; cases W; have ak : (0 < a.length) = True := et_ (by omega); (try rw [show ((0 : Int)).toNat = 0 from rfl] at b); (try rw [Addr.add_zero'] at b); replace b := (HB.out.cell (wl_ w _ b)).trans b; replace p515 := et_ p515; replace p := et_ p; have p516 : 0 ≤ ((rd a 0) : Int) := dq_; have q : (rd a 0) < (A.length : Int) := dq_; obtain ⟨z, X, g⟩ := ai_ M.out (rd a 0) p516 q; cases X; replace g := (HB.out.cell (wl_ w _ g)).trans g; replace p516 := et_ p516; replace q := et_ q; have p517 : 0 ≤ (1 : Int) := (by omega); have s : 1 < (a.length : Int) := dq_; obtain ⟨G, Y, c⟩ := ai_ o.out 1 p517 s; obtain rfl : y = G := (by injection Y); (try simp only [show (1 : Int).toNat = 1 from rfl, Nat.reduceMul, Nat.reduceEqDiff, Go.Addr.add, ↓reduceIte] at c); have al : (1 < a.length) = True := et_ (by omega); (try rw [show ((1 : Int)).toNat = 1 from rfl] at c); replace c := (HB.out.cell (wl_ w _ c)).trans c; replace p517 := et_ p517; replace s := et_ s; have p518 : 0 ≤ ((rd a 1) : Int) := dq_; have u : (rd a 1) < (A.length : Int) := dq_; obtain ⟨I, Z, l⟩ := ai_ M.out (rd a 1) p518 u; obtain rfl : z = I := (by injection Z); replace l := (HB.out.cell (wl_ w _ l)).trans l; replace p518 := et_ p518; replace u := et_ u; have p519 : 0 ≤ (2 : Int) := (by omega); have v : 2 < (a.length : Int) := dq_; obtain ⟨J, aa, d⟩ := ai_ o.out 2 p519 v; obtain rfl : y = J := (by injection aa); (try simp only [show (2 : Int).toNat = 2 from rfl, Nat.reduceMul, Nat.reduceEqDiff, Go.Addr.add, ↓reduceIte] at d); have am : (2 < a.length) = True := et_ (by omega); (try rw [show ((2 : Int)).toNat = 2 from rfl] at d); replace d := (HB.out.cell (wl_ w _ d)).trans d; replace p519 := et_ p519; replace v := et_ v; have p520 : 0 ≤ ((rd a 2) : Int) := dq_; have x : (rd a 2) < (A.length : Int) := dq_; obtain ⟨K, ab, m⟩ := ai_ M.out (rd a 2) p520 x; obtain rfl : z = K := (by injection ab); replace m := (HB.out.cell (wl_ w _ m)).trans m; replace p520 := et_ p520; replace x := et_ x) | (go_at_call 84; (with_reducible refine (jigsawref01_Quo.calls k (rd A (rd a 0)) (rd A (rd a 1)) an true _ ax.out).mono ?_); rintro e w' ⟨rfl, ⟨nd, rfl⟩⟩; (try first | exact ⟨rfl, _, World.drewN_drewN _ _ _⟩ | exact ⟨rfl, _, Eq.trans (World.drewN_drewN _ _ _) (congrArg (World.drewN _) (Nat.add_assoc _ _ _))⟩)))
                 go_ret
                 exact ⟨by first | rfl | (simp [errW_none, errW_some] <;> rfl) | (simp [*, errW_none, errW_some] <;> rfl), bel_⟩
                ·
                 replace c26 := bf_.mpr c26
                 subst c26
                 have H1 : (some false) = some r := by rw [ig_ (show ¬ (false = true) by decide)] at H; exact H
                 clear H
                 have H := H1
                 clear H1
                 obtain rfl := si_ H
                 go_enter Tryz.func47, Tryz.ntmps47
                 go_wp2_with (first | ((with_reducible refine gate_dst (N := 2) rfl ?_); (try (refine gate_guard (by rfl) ?_; dsimp only)); refine bxe_ (N := 2) (cs := #[.int .i64 n, .slice ac a.length c0_1, .slice ad O.length c0_2, .slice ae P.length c0_3, .slice af Q.length c0_4, .slice ag U.length c0_5, .int .i64 ah, .slice ai V.length c0_7]) (t := 32) ?_; intro B hg w29 hbox hb; have E := a_ (hbox); have F := a_ (by rw [hg]; exact (bz_ bel_) : w.heap.size ≤ B); have aj := F; replace HB := a_ (bp_ bel_ hb); clear hb hbox hg; obtain ⟨_, _, _, _, _, _, _, _, _, _, _, _, _, _, _, _⟩ := cel8_ E.out; have p515 : 0 ≤ (0 : Int) := (by omega); have p : 0 < (a.length : Int) := dq_; obtain ⟨y, W, b⟩ := ai_ o.out 0 p515 p; cases W; have ak : (0 < a.length) = True := et_ (by omega); (try rw [show ((0 : Int)).toNat = 0 from rfl] at b); (try rw [Addr.add_zero'] at b); replace b := (HB.out.cell (wl_ w _ b)).trans b; replace p515 := et_ p515; replace p := et_ p; have p516 : 0 ≤ ((rd a 0) : Int) := dq_; have q : (rd a 0) < (A.length : Int) := dq_; obtain ⟨z, X, g⟩ := ai_ M.out (rd a 0) p516 q; cases X; replace g := (HB.out.cell (wl_ w _ g)).trans g; replace p516 := et_ p516; replace q := et_ q; have p517 : 0 ≤ (1 : Int) := (by omega); have s : 1 < (a.length : Int) := dq_; obtain ⟨G, Y, c⟩ := ai_ o.out 1 p517 s; obtain rfl : y = G := (by injection Y); (try simp only [show (1 : Int).toNat = 1 from rfl, Nat.reduceMul, Nat.reduceEqDiff, Go.Addr.add, ↓reduceIte] at c); have al : (1 < a.length) = True := et_ (by omega); (try rw [show ((1 : Int)).toNat = 1 from rfl] at c); replace c := (HB.out.cell (wl_ w _ c)).trans c; replace p517 := et_ p517; replace s := et_ s; have p518 : 0 ≤ ((rd a 1) : Int) := dq_; have u : (rd a 1) < (A.length : Int) := dq_; obtain ⟨I, Z, l⟩ := ai_ M.out (rd a 1) p518 u; obtain rfl : z = I := (by injection Z); replace l := (HB.out.cell (wl_ w _ l)).trans l; replace p518 := et_ p518; replace u := et_ u; have p519 : 0 ≤ (2 : Int) := (by omega); have v : 2 < (a.length : Int) := dq_; obtain ⟨J, aa, d⟩ := ai_ o.out 2 p519 v; obtain rfl : y = J := (by injection aa); (try simp only [show (2 : Int).toNat = 2 from rfl, Nat.reduceMul, Nat.reduceEqDiff, Go.Addr.add, ↓reduceIte] at d); have am : (2 < a.length) = True := et_ (by omega); (try rw [show ((2 : Int)).toNat = 2 from rfl] at d); replace d := (HB.out.cell (wl_ w _ d)).trans d; replace p519 := et_ p519; replace v := et_ v; have p520 : 0 ≤ ((rd a 2) : Int) := dq_; have x : (rd a 2) < (A.length : Int) := dq_; obtain ⟨K, ab, m⟩ := ai_ M.out (rd a 2) p520 x; obtain rfl : z = K := (by injection ab); replace m := (HB.out.cell (wl_ w _ m)).trans m; replace p520 := et_ p520; replace x := et_ x) | (go_at_call 84; (with_reducible refine (jigsawref01_Quo.calls k (rd A (rd a 0)) (rd A (rd a 1)) an false _ ax.out).mono ?_); rintro e w' ⟨rfl, ⟨nd, rfl⟩⟩; (try first | exact ⟨rfl, _, World.drewN_drewN _ _ _⟩ | exact ⟨rfl, _, Eq.trans (World.drewN_drewN _ _ _) (congrArg (World.drewN _) (Nat.add_assoc _ _ _))⟩)))
                 go_ret
                 exact ⟨by first | rfl | (simp [errW_none, errW_some] <;> rfl) | (simp [*, errW_none, errW_some] <;> rfl), bel_⟩
           ·
            rw [ig_ c13] at H
            exact absurd H (by simp)
          ·
           rw [ig_ c12] at H
           exact absurd H (by simp)
         ·
          rw [ig_ c11] at H
          exact absurd H (by simp)
      ·
       rw [ig_ c8] at H
       exact absurd H (by simp)
     ·
      rw [ig_ c7] at H
      exact absurd H (by simp)
    ·
     rw [ig_ c6] at H
     exact absurd H (by simp)
   ·
    rw [ig_ c5] at H
    exact absurd H (by simp)
  ·
   rw [ig_ c4] at H
   exact absurd H (by simp)
 ·
  rw [ig_ c3] at H
  exact absurd H (by simp)

/-! ### jigsawref09_Holds: function 20 -/
def jigsawref09_Holds.f (k : Nat) (a : Int) (b : List Int) (c : List Int) (d : List Int) (e : List Int) (g : List Int) (l : Int) (m : List (List Int)) (o : List Int) : Option (Bool) := if a ≤ 4 then (none) else (if a ≤ 11 then ((jigsawref09_three.f k a b c d e g l m o).bind fun n => (some n)) else (none))
theorem jigsawref09_Holds.mono : ∀ a b c d e g l m n k, LeO (jigsawref09_Holds.f k a b c d e g l m n) (jigsawref09_Holds.f (k + 1) a b c d e g l m n) := by
 intro a b c d e g l m n k
 unfold jigsawref09_Holds.f
 have m0 := @jigsawref09_three.mono
 exact leo_
set_option maxHeartbeats 8000000 in
set_option maxRecDepth 100000 in
theorem jigsawref09_Holds.calls (k : Nat) (a : Int) (o : Option Addr) (c0_1 : Nat) (b : List Int) (p : Option Addr) (c0_2 : Nat) (c : List Int) (q : Option Addr) (c0_3 : Nat) (d : List Int) (s : Option Addr) (c0_4 : Nat) (g : List Int) (u : Option Addr) (c0_5 : Nat) (l : List Int) (n : Int) (v : Option Addr) (c0_7 : Nat) (m : List (List Int)) (A1 : Option Addr) (c1 : Nat) (O : List Int) (r : Bool) (w : World) (x : Kd.C (Kd.int .i64) w o b.length b) (y : b.length ≤ c0_1) (z : Kd.C (Kd.int .i64) w p c.length c) (A : c.length ≤ c0_2) (B : Kd.C (Kd.int .i64) w q d.length d) (E : d.length ≤ c0_3) (F : Kd.C (Kd.int .i64) w s g.length g) (G : g.length ≤ c0_4) (I : Kd.C (Kd.int .i64) w u l.length l) (J : l.length ≤ c0_5) (K : Kd.C (Kd.slice 3 (Kd.int .i64)) w v m.length m) (M : m.length ≤ c0_7) (ah : Kd.C (Kd.int .i64) w A1 O.length O) (ai : O.length ≤ c1) (h : jigsawref09_Holds.f k a b c d g l n m O = some r) :
  Calls Tryz.prog 20 #[.agg #[.int .i64 a, .slice o b.length c0_1, .slice p c.length c0_2, .slice q d.length c0_3, .slice s g.length c0_4, .slice u l.length c0_5, .int .i64 n, .slice v m.length c0_7], .slice A1 O.length c1] w fun e w' => e = .returned (.bool r) ∧ Below w.heap.size w w' := by
 have hu32 := Tryz.underlying32
 have P := a_ x
 have Q := a_ y
 clear x y
 have U := a_ z
 have V := a_ A
 clear z A
 have W := a_ B
 have X := a_ E
 clear B E
 have Y := a_ F
 have Z := a_ G
 clear F G
 have aa := a_ I
 have ab := a_ J
 clear I J
 have ac := a_ K
 have ad := a_ M
 clear K M
 have am := a_ ah
 have an := a_ ai
 clear ah ai
 have HB := a_ (Below.refl w.heap.size w)
 unfold jigsawref09_Holds.f at h
 have H := h
 clear h
 by_cases c3 : a ≤ 4
 ·
  rw [ip_ c3] at H
  exact absurd H (by simp)
 ·
  rw [ig_ c3] at H
  have c3b0 : decide (a ≤ 4) = false := df_ c3
  clear c3
  by_cases c4 : a ≤ 11
  ·
   rw [ip_ c4] at H
   have c4b0 : decide (a ≤ 11) = true := dt_ c4
   clear c4
   replace H := bs_.mp H
   obtain ⟨ak, aj, H⟩ := H
   try dsimp only at H
   have A5 := a_ aj
   clear aj
   obtain rfl := si_ H
   go_enter Tryz.func20, Tryz.ntmps20
   go_wp2_with (first | ((with_reducible refine gate_dst (N := 2) rfl ?_); refine bxe_ (N := 2) (cs := #[.int .i64 a, .slice o b.length c0_1, .slice p c.length c0_2, .slice q d.length c0_3, .slice s g.length c0_4, .slice u l.length c0_5, .int .i64 n, .slice v m.length c0_7]) (t := 32) ?_; intro ae hg w6 hbox hb; have af := a_ (hbox); have ag := a_ (by rw [hg]; exact (bz_ bel_) : w.heap.size ≤ ae); have ao := ag; replace HB := a_ (bp_ bel_ hb); clear hb hbox hg; obtain ⟨_, _, _, _, _, _, _, _, _, _, _, _, _, _, _, _⟩ := cel8_ af.out) | (go_at_call 47; (with_reducible refine (jigsawref09_three.calls k a _ _ b _ _ c _ _ d _ _ g _ _ l n _ _ m _ _ O ak _ ?_ ?_ ?_ ?_ ?_ ?_ ?_ ?_ ?_ ?_ ?_ ?_ ?_ ?_ A5.out).mono ?_); exact ca_ ((cb_ P.out HB.out)); exact Q.out; exact ca_ ((cb_ U.out HB.out)); exact V.out; exact ca_ ((cb_ W.out HB.out)); exact X.out; exact ca_ ((cb_ Y.out HB.out)); exact Z.out; exact ca_ ((cb_ aa.out HB.out)); exact ab.out; exact ca_ ((cb_ ac.out HB.out)); exact ad.out; exact ca_ ((cb_ am.out HB.out)); exact an.out; rintro e w8 ⟨rfl, hb⟩; replace HB := a_ (bp_ bel_ hb); clear hb))
   go_ret
   exact ⟨by first | rfl | (simp [errW_none, errW_some] <;> rfl) | (simp [*, errW_none, errW_some] <;> rfl), bel_⟩
  ·
   rw [ig_ c4] at H
   exact absurd H (by simp)

end Go.Proofs.YtbhhbgoamomacaaGreatDoor.XMulKeeps
