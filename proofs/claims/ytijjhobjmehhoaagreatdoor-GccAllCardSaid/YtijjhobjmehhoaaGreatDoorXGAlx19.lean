-- by xprint.py, a program of this session, over the kit's print
import Derived.Test.YtijjhobjmehhoaaGreatDoorXGAlx0
import Derived.Test.YtijjhobjmehhoaaGreatDoorXGAlx18
import Derived.Test.YtijjhobjmehhoaaGreatDoorSq
namespace Go.Proofs.YtijjhobjmehhoaaGreatDoor.XGccAll
open Go.RowKit Go.Proofs.YtijjhobjmehhoaaGreatDoor.Sq Go.Proofs.YtijjhobjmehhoaaGreatDoorW.PrintWords Go.Proofs.YtijjhobjmehhoaaGreatDoorW.PrintLast Go.Proofs.YtijjhobjmehhoaaGreatDoorW.PrintMore
attribute [local go_sem] max2_int min2_int max_two min_two max_three min_three max_four min_four   -- for this text's walks alone
set_option linter.unusedVariables false
set_option linter.unusedSimpArgs false

/-! ### jigsawref02_Of: function 54 -/
mutual
def jigsawref02_Of.l0 : Nat → List Int → Int → Int → Int → Option (List Int × Int)
 | 0, _, _, _, _ => none
 | k + 1, a, d, c, b => if b < (a.length : Int) then (if 0 ≤ b then (if (rd a b) < (-1000000) then (none) else (if (rd a b) > 1000000 then (none) else (if (rd a b) < d then (if (rd a b) > c then (jigsawref02_Of.l0 k a (rd a b) (rd a b) (wrap64 (b + 1))) else (jigsawref02_Of.l0 k a (rd a b) c (wrap64 (b + 1)))) else (if (rd a b) > c then (jigsawref02_Of.l0 k a d (rd a b) (wrap64 (b + 1))) else (jigsawref02_Of.l0 k a d c (wrap64 (b + 1))))))) else (none)) else (if (wrap64 (c - d)) ≥ 65536 then (none) else (jigsawref02_Of.l1 k a ([] : List Int) 0))
def jigsawref02_Of.l1 : Nat → List Int → List Int → Int → Option (List Int × Int)
 | 0, _, _, _ => none
 | k + 1, b, c, a => if a < (b.length : Int) then (if 0 ≤ a then ((jigsawref02_Has.f k c (rd b a)).bind fun d => (if d = true then (jigsawref02_Of.l1 k b c (wrap64 (a + 1))) else (jigsawref02_Of.l2 k b c a ([] : List Int) false 0))) else (none)) else (some (c, 0))
def jigsawref02_Of.l2 : Nat → List Int → List Int → Int → List Int → Bool → Int → Option (List Int × Int)
 | 0, _, _, _, _, _, _ => none
 | k + 1, d, e, c, a, f, b => if b < (e.length : Int) then (if 0 ≤ b then (if 0 ≤ c then (if c < (d.length : Int) then (if (rd e b) > (rd d c) then (if f = true then (if a.length < 17592186044416 then (jigsawref02_Of.l2 k d e c (a ++ [rd e b]) f (wrap64 (b + 1))) else (none)) else (if a.length < 17592186044416 then ((some (a ++ [rd d c] : List Int)).bind fun g => (if g.length < 17592186044416 then (jigsawref02_Of.l2 k d e c (g ++ [rd e b]) true (wrap64 (b + 1))) else (none))) else (none))) else (if a.length < 17592186044416 then (jigsawref02_Of.l2 k d e c (a ++ [rd e b]) f (wrap64 (b + 1))) else (none))) else (none)) else (none)) else (none)) else (if f = true then (jigsawref02_Of.l1 k d a (wrap64 (c + 1))) else (if 0 ≤ c then (if c < (d.length : Int) then (if a.length < 17592186044416 then (jigsawref02_Of.l1 k d (a ++ [rd d c]) (wrap64 (c + 1))) else (none)) else (none)) else (none)))
end
def jigsawref02_Of.f (k : Nat) (a : List Int) : Option (List Int × Int) := if (a.length : Int) = 0 then (none) else (if 0 < (a.length : Int) then (jigsawref02_Of.l0 k a (rd a 0) (rd a 0) 0) else (none))
theorem jigsawref02_Of.mono_l : ∀ k, (∀ a b c d, LeO (jigsawref02_Of.l0 k a b c d) (jigsawref02_Of.l0 (k + 1) a b c d)) ∧ (∀ a b c, LeO (jigsawref02_Of.l1 k a b c) (jigsawref02_Of.l1 (k + 1) a b c)) ∧ (∀ a b c d e f, LeO (jigsawref02_Of.l2 k a b c d e f) (jigsawref02_Of.l2 (k + 1) a b c d e f))
 | 0 => by refine ⟨?_, ?_, ?_⟩ <;> (intros; exact LeO.none _)
 | k + 1 => by
  obtain ⟨ih0, ih1, ih2⟩ := jigsawref02_Of.mono_l k
  have m0 := @jigsawref02_Has.mono
  refine ⟨?_, ?_, ?_⟩ <;> intros
  all_goals first | unfold jigsawref02_Of.l0 | unfold jigsawref02_Of.l1 | unfold jigsawref02_Of.l2
  all_goals exact leo_
theorem jigsawref02_Of.mono : ∀ a k, LeO (jigsawref02_Of.f k a) (jigsawref02_Of.f (k + 1) a) := by
 intro a k
 obtain ⟨ih0, ih1, ih2⟩ := jigsawref02_Of.mono_l k
 unfold jigsawref02_Of.f
 have m0 := @jigsawref02_Has.mono
 exact leo_
set_option maxHeartbeats 8000000 in
set_option maxRecDepth 100000 in
theorem jigsawref02_Of.calls (k : Nat) (A0 : Option Addr) (c0 : Nat) (l : List Int) (r1 : List Int) (r2 : Int) (w : World) (bp : Kd.C (Kd.int .i64) w A0 l.length l) (bq : l.length ≤ c0) (h : jigsawref02_Of.f k l = some (r1, r2)) :
  Calls Tryz.prog 54 #[.slice A0 l.length c0] w fun e w' => ∃ br : Value, e = .returned (.tuple #[br, .int .i64 r2]) ∧ Kd.R (Kd.int .i64) 3 w' w.heap.size (fun _ => True) br r1 ∧ Below w.heap.size w w' := by
 have t := a_ bp
 have bX := a_ bq
 clear bp bq
 have HB := a_ (Below.refl w.heap.size w)
 unfold jigsawref02_Of.f at h
 have H := h
 clear h
 replace H := gz_ H
 obtain ⟨c2, c2b0, c2b1, H⟩ := H
 have c2b2 : ¬ (l = []) := fun h_ => c2 (by rw [h_]; rfl)
 replace H := gp_ H
 obtain ⟨c3, H⟩ := H
 have c3b0 : decide (0 < (l.length : Int)) = true := dt_ c3
 have c3b1 : decide (0 < l.length) = true := dt_ (by omega)
 clear c3
 have H' := a_ H
 clear H
 have p509 : 0 ≤ (0 : Int) := (by omega)
 have av : 0 < (l.length : Int) := dq_
 obtain ⟨m, bu, Q⟩ := ai_ t.out 0 p509 av
 cases bu
 have bO : (0 < l.length) = True := et_ (by omega)
 (try rw [t0_] at Q)
 (try rw [Addr.add_zero'] at Q)
 replace p509 := et_ p509
 replace av := et_ av
 have p510 : 0 ≤ (0 : Int) := (by omega)
 have aw : 0 < (l.length : Int) := dq_
 obtain ⟨bi, bv, U⟩ := ai_ t.out 0 p510 aw
 obtain rfl : m = bi := (by injection bv)
 have bP : (0 < l.length) = True := et_ (by omega)
 (try rw [t0_] at U)
 (try rw [Addr.add_zero'] at U)
 replace p510 := et_ p510
 replace aw := et_ aw
 go_enter Tryz.func54, Tryz.ntmps54
 go_wp2
 repeat (go_quiet (fail); try go_wp2)
 go_loopg [4, 5, 6] k (fun kq v4 v5 v6 w' => ∃ (O : Int) (I : Int) (a : Int), v4 = .int .i64 O ∧ v5 = .int .i64 I ∧ v6 = .int .i64 a ∧ Aside0 (jigsawref02_Of.l0 kq l O I a = some (r1, r2)) ∧ Aside0 (kq ≤ k) ∧ Aside0 (Below w.heap.size w w'))
 case atStart => exact ⟨(rd l 0), (rd l 0), (0), eq_, eq_, eq_, H', ⟨lr_ _⟩, ⟨bel_⟩⟩
 clear H'
 try clear c2
 try clear c2b0
 try clear c2b1
 try clear c2b2
 try clear p2
 try clear c3
 try clear c3b0
 try clear c3b1
 try clear Q
 try clear U
 try clear p509
 try clear p510
 try clear av
 try clear aw
 obtain ⟨O, I, a, rfl, rfl, rfl, HA, F, HB⟩ := hrel
 cases gk with
 | zero => exact absurd HA.out (by simp [jigsawref02_Of.l0])
 | succ k1 =>
  have H := HA.out
  clear HA
  simp only [jigsawref02_Of.l0] at H
  replace H := ct_ H
  rcases H with ⟨c4b0, H⟩ | ⟨c4b0, H⟩
  ·
   replace H := gu_ H
   obtain ⟨c5b0, H⟩ := H
   replace H := gn_ H
   obtain ⟨c6, H⟩ := H
   have c6b0 : decide ((rd l a) < (-1000000)) = false := df_ c6
   clear c6
   replace H := gn_ H
   obtain ⟨c7, H⟩ := H
   have c7b0 : decide (1000000 < (rd l a)) = false := df_ c7
   clear c7
   replace H := cf_ H
   rcases H with ⟨c8b0, H⟩ | ⟨c8b0, H⟩
   ·
    by_cases c10 : (rd l a) > I
    rotate_left
    ·
     rw [ig_ c10] at H
     have c10b0 : decide (I < (rd l a)) = false := df_ c10
     clear c10
     have H' := a_ H
     clear H
     have p511 : 0 ≤ (a : Int) := dq_
     have v : a < (l.length : Int) := dq_
     obtain ⟨X, ah, p⟩ := ai_ t.out a p511 v
     obtain rfl : m = X := (by injection ah)
     replace p := hx_ HB p
     replace p511 := et_ p511
     replace v := et_ v
     have p512 : 0 ≤ (a : Int) := dq_
     have x : a < (l.length : Int) := dq_
     obtain ⟨Y, ai, q⟩ := ai_ t.out a p512 x
     obtain rfl : m = Y := (by injection ai)
     replace q := hx_ HB q
     replace p512 := et_ p512
     replace x := et_ x
     have p513 : 0 ≤ (a : Int) := dq_
     have y : a < (l.length : Int) := dq_
     obtain ⟨Z, aj, r⟩ := ai_ t.out a p513 y
     obtain rfl : m = Z := (by injection aj)
     replace r := hx_ HB r
     replace p513 := et_ p513
     replace y := et_ y
     have p517 : 0 ≤ (a : Int) := dq_
     have ac : a < (l.length : Int) := dq_
     obtain ⟨aQ, a4, E⟩ := ai_ t.out a p517 ac
     obtain rfl : m = aQ := (by injection a4)
     replace E := hx_ HB E
     replace p517 := et_ p517
     replace ac := et_ ac
     go_wp2
     repeat (go_quiet (fail); try go_wp2)
     go_roundg k1
     case measure => have := F.out; omega
     exact ⟨(O), (I), (wrap64 (a + 1)), eq_, eq_, eq_, H', ⟨by have := F.out; omega⟩, ⟨bel_⟩⟩
    rw [ip_ c10] at H
    have c10b0 : decide (I < (rd l a)) = true := dt_ c10
    clear c10
    have H' := a_ H
    clear H
    have p511 : 0 ≤ (a : Int) := dq_
    have v : a < (l.length : Int) := dq_
    obtain ⟨X, ah, p⟩ := ai_ t.out a p511 v
    obtain rfl : m = X := (by injection ah)
    replace p := hx_ HB p
    replace p511 := et_ p511
    replace v := et_ v
    have p512 : 0 ≤ (a : Int) := dq_
    have x : a < (l.length : Int) := dq_
    obtain ⟨Y, ai, q⟩ := ai_ t.out a p512 x
    obtain rfl : m = Y := (by injection ai)
    replace q := hx_ HB q
    replace p512 := et_ p512
    replace x := et_ x
    have p513 : 0 ≤ (a : Int) := dq_
    have y : a < (l.length : Int) := dq_
    obtain ⟨Z, aj, r⟩ := ai_ t.out a p513 y
    obtain rfl : m = Z := (by injection aj)
    replace r := hx_ HB r
    replace p513 := et_ p513
    replace y := et_ y
    have p517 : 0 ≤ (a : Int) := dq_
    have ac : a < (l.length : Int) := dq_
    obtain ⟨aQ, a4, E⟩ := ai_ t.out a p517 ac
    obtain rfl : m = aQ := (by injection a4)
    replace E := hx_ HB E
    replace p517 := et_ p517
    replace ac := et_ ac
    have p518 : 0 ≤ (a : Int) := dq_
    have aA : a < (l.length : Int) := dq_
    obtain ⟨bk, bx, W⟩ := ai_ t.out a p518 aA
    obtain rfl : m = bk := (by injection bx)
    replace W := hx_ HB W
    replace p518 := et_ p518
    replace aA := et_ aA
    go_wp2
    repeat (go_quiet (fail); try go_wp2)
    go_roundg k1
    case measure => have := F.out; omega
    exact ⟨(O), (rd l a), (wrap64 (a + 1)), eq_, eq_, eq_, H', ⟨by have := F.out; omega⟩, ⟨bel_⟩⟩
   by_cases c9 : (rd l a) > I
   rotate_left
   ·
    rw [ig_ c9] at H
    have c9b0 : decide (I < (rd l a)) = false := df_ c9
    clear c9
    have H' := a_ H
    clear H
    have p511 : 0 ≤ (a : Int) := dq_
    have v : a < (l.length : Int) := dq_
    obtain ⟨X, ah, p⟩ := ai_ t.out a p511 v
    obtain rfl : m = X := (by injection ah)
    replace p := hx_ HB p
    replace p511 := et_ p511
    replace v := et_ v
    have p512 : 0 ≤ (a : Int) := dq_
    have x : a < (l.length : Int) := dq_
    obtain ⟨Y, ai, q⟩ := ai_ t.out a p512 x
    obtain rfl : m = Y := (by injection ai)
    replace q := hx_ HB q
    replace p512 := et_ p512
    replace x := et_ x
    have p513 : 0 ≤ (a : Int) := dq_
    have y : a < (l.length : Int) := dq_
    obtain ⟨Z, aj, r⟩ := ai_ t.out a p513 y
    obtain rfl : m = Z := (by injection aj)
    replace r := hx_ HB r
    replace p513 := et_ p513
    replace y := et_ y
    have p514 : 0 ≤ (a : Int) := dq_
    have aa : a < (l.length : Int) := dq_
    obtain ⟨aM, a2, A⟩ := ai_ t.out a p514 aa
    obtain rfl : m = aM := (by injection a2)
    replace A := hx_ HB A
    replace p514 := et_ p514
    replace aa := et_ aa
    have p515 : 0 ≤ (a : Int) := dq_
    have ab : a < (l.length : Int) := dq_
    obtain ⟨aN, a3, B⟩ := ai_ t.out a p515 ab
    obtain rfl : m = aN := (by injection a3)
    replace B := hx_ HB B
    replace p515 := et_ p515
    replace ab := et_ ab
    go_wp2
    repeat (go_quiet (fail); try go_wp2)
    go_roundg k1
    case measure => have := F.out; omega
    exact ⟨(rd l a), (I), (wrap64 (a + 1)), eq_, eq_, eq_, H', ⟨by have := F.out; omega⟩, ⟨bel_⟩⟩
   rw [ip_ c9] at H
   have c9b0 : decide (I < (rd l a)) = true := dt_ c9
   clear c9
   have H' := a_ H
   clear H
   have p511 : 0 ≤ (a : Int) := dq_
   have v : a < (l.length : Int) := dq_
   obtain ⟨X, ah, p⟩ := ai_ t.out a p511 v
   obtain rfl : m = X := (by injection ah)
   replace p := hx_ HB p
   replace p511 := et_ p511
   replace v := et_ v
   have p512 : 0 ≤ (a : Int) := dq_
   have x : a < (l.length : Int) := dq_
   obtain ⟨Y, ai, q⟩ := ai_ t.out a p512 x
   obtain rfl : m = Y := (by injection ai)
   replace q := hx_ HB q
   replace p512 := et_ p512
   replace x := et_ x
   have p513 : 0 ≤ (a : Int) := dq_
   have y : a < (l.length : Int) := dq_
   obtain ⟨Z, aj, r⟩ := ai_ t.out a p513 y
   obtain rfl : m = Z := (by injection aj)
   replace r := hx_ HB r
   replace p513 := et_ p513
   replace y := et_ y
   have p514 : 0 ≤ (a : Int) := dq_
   have aa : a < (l.length : Int) := dq_
   obtain ⟨aM, a2, A⟩ := ai_ t.out a p514 aa
   obtain rfl : m = aM := (by injection a2)
   replace A := hx_ HB A
   replace p514 := et_ p514
   replace aa := et_ aa
   have p515 : 0 ≤ (a : Int) := dq_
   have ab : a < (l.length : Int) := dq_
   obtain ⟨aN, a3, B⟩ := ai_ t.out a p515 ab
   obtain rfl : m = aN := (by injection a3)
   replace B := hx_ HB B
   replace p515 := et_ p515
   replace ab := et_ ab
   have p516 : 0 ≤ (a : Int) := dq_
   have az : a < (l.length : Int) := dq_
   obtain ⟨bj, bw, V⟩ := ai_ t.out a p516 az
   obtain rfl : m = bj := (by injection bw)
   replace V := hx_ HB V
   replace p516 := et_ p516
   replace az := et_ az
   go_wp2
   repeat (go_quiet (fail); try go_wp2)
   go_roundg k1
   case measure => have := F.out; omega
   exact ⟨(rd l a), (rd l a), (wrap64 (a + 1)), eq_, eq_, eq_, H', ⟨by have := F.out; omega⟩, ⟨bel_⟩⟩
  replace H := gn_ H
  obtain ⟨c11, H⟩ := H
  have c11b0 : decide (65536 ≤ (wrap64 (I - O))) = false := df_ c11
  clear c11
  have H' := a_ H
  clear H
  go_wp2
  repeat (go_quiet (fail); try go_wp2)
  go_loopg [7, 8] k1 (fun kq v7 v8 w' => ∃ (g : List Int) (d : Int), v8 = .int .i64 d ∧ Aside0 (jigsawref02_Of.l1 kq l g d = some (r1, r2)) ∧ Aside0 (kq ≤ k1) ∧ Aside0 (Kd.R (Kd.int .i64) 3 w' w.heap.size (fun _ => True) v7 g) ∧ Aside0 (Below w.heap.size w w'))
  case atStart => exact ⟨(([] : List Int)), (0), eq_, H', ⟨lr_ _⟩, ⟨nil_⟩, ⟨bel_⟩⟩
  clear H'
  try clear c1
  try clear c2
  try clear c2b0
  try clear c2b1
  try clear c2b2
  try clear p2
  try clear c3
  try clear c3b0
  try clear c3b1
  try clear c4
  try clear c4b0
  try clear c5
  try clear c5b0
  try clear p5
  try clear q5
  try clear bK
  try clear bL
  try clear c6
  try clear c6b0
  try clear p6
  try clear c7
  try clear c7b0
  try clear c8
  try clear c8b0
  try clear c9
  try clear c9b0
  try clear c10
  try clear c10b0
  try clear c11
  try clear c11b0
  try clear Q
  try clear U
  try clear p
  try clear q
  try clear r
  try clear A
  try clear B
  try clear V
  try clear E
  try clear W
  try clear p2
  try clear p509
  try clear p510
  try clear p511
  try clear p512
  try clear p513
  try clear p514
  try clear p515
  try clear p516
  try clear p517
  try clear p518
  try clear av
  try clear aw
  try clear v
  try clear x
  try clear y
  try clear aa
  try clear ab
  try clear az
  try clear ac
  try clear aA
  obtain ⟨g, d, rfl, HA, ae, HO_7, HB⟩ := hrel
  cases gk with
  | zero => exact absurd HA.out (by simp [jigsawref02_Of.l1])
  | succ k2 =>
   have H := HA.out
   clear HA
   simp only [jigsawref02_Of.l1] at H
   replace H := cf_ H
   rcases H with ⟨c12b0, H⟩ | ⟨c12b0, H⟩
   ·
    simp only [Option.some.injEq, Prod.mk.injEq] at H
    obtain ⟨rfl, rfl⟩ := H
    go_wp2
    repeat (go_quiet (fail); try go_wp2)
    go_ret2
    exact ⟨_, er_, vR_ HO_7.out, bel_⟩
   replace H := gu_ H
   obtain ⟨c13b0, H⟩ := H
   replace H := bo_ H
   obtain ⟨bz, aI, H⟩ := H
   try dsimp only at H
   replace H := ht_ H
   rcases H with ⟨rfl, H⟩ | ⟨rfl, H⟩
   ·
    have H' := a_ H
    clear H
    have p519 : 0 ≤ (d : Int) := dq_
    have af : d < (l.length : Int) := dq_
    obtain ⟨aR, a5, G⟩ := ai_ t.out d p519 af
    obtain rfl : m = aR := (by injection a5)
    replace G := hx_ HB G
    replace p519 := et_ p519
    replace af := et_ af
    obtain ⟨bV, bW, bA⟩ := Kd.R_slice HO_7.out
    subst bA
    go_wp2_with (first | (go_at_call 67; (with_reducible refine (jigsawref02_Has.calls k2 _ _ g (rd l d) true _ ?_ ?_ aI.out).mono ?_); exact ca_ ((rr_ HO_7.out).2.2); exact (rr_ HO_7.out).2.1; rintro e w' ⟨rfl, ⟨nd, rfl⟩⟩; (try first | exact ⟨rfl, _, World.drewN_drewN _ _ _⟩ | exact ⟨rfl, _, Eq.trans (World.drewN_drewN _ _ _) (congrArg (World.drewN _) (Nat.add_assoc _ _ _))⟩)))
    repeat (go_quiet (first | (go_at_call 67; (with_reducible refine (jigsawref02_Has.calls k2 _ _ g (rd l d) true _ ?_ ?_ aI.out).mono ?_); exact ca_ ((rr_ HO_7.out).2.2); exact (rr_ HO_7.out).2.1; rintro e w' ⟨rfl, ⟨nd, rfl⟩⟩; (try first | exact ⟨rfl, _, World.drewN_drewN _ _ _⟩ | exact ⟨rfl, _, Eq.trans (World.drewN_drewN _ _ _) (congrArg (World.drewN _) (Nat.add_assoc _ _ _))⟩))); try go_wp2_with (first | (go_at_call 67; (with_reducible refine (jigsawref02_Has.calls k2 _ _ g (rd l d) true _ ?_ ?_ aI.out).mono ?_); exact ca_ ((rr_ HO_7.out).2.2); exact (rr_ HO_7.out).2.1; rintro e w' ⟨rfl, ⟨nd, rfl⟩⟩; (try first | exact ⟨rfl, _, World.drewN_drewN _ _ _⟩ | exact ⟨rfl, _, Eq.trans (World.drewN_drewN _ _ _) (congrArg (World.drewN _) (Nat.add_assoc _ _ _))⟩))))
    go_roundg k2
    case measure => have := F.out; have := ae.out; omega
    exact ⟨(g), (wrap64 (d + 1)), eq_, H', ⟨by have := F.out; have := ae.out; omega⟩, ⟨vR_ HO_7.out⟩, ⟨bel_⟩⟩
   have H' := a_ H
   clear H
   have p519 : 0 ≤ (d : Int) := dq_
   have af : d < (l.length : Int) := dq_
   obtain ⟨aR, a5, G⟩ := ai_ t.out d p519 af
   obtain rfl : m = aR := (by injection a5)
   replace G := hx_ HB G
   replace p519 := et_ p519
   replace af := et_ af
   obtain ⟨aC, z, bB⟩ := Kd.R_slice HO_7.out
   subst bB
   go_wp2_with (first | (go_at_call 67; (with_reducible refine (jigsawref02_Has.calls k2 _ _ g (rd l d) false _ ?_ ?_ aI.out).mono ?_); exact ca_ ((rr_ HO_7.out).2.2); exact (rr_ HO_7.out).2.1; rintro e w' ⟨rfl, ⟨nd, rfl⟩⟩; (try first | exact ⟨rfl, _, World.drewN_drewN _ _ _⟩ | exact ⟨rfl, _, Eq.trans (World.drewN_drewN _ _ _) (congrArg (World.drewN _) (Nat.add_assoc _ _ _))⟩)))
   repeat (go_quiet (first | (go_at_call 67; (with_reducible refine (jigsawref02_Has.calls k2 _ _ g (rd l d) false _ ?_ ?_ aI.out).mono ?_); exact ca_ ((rr_ HO_7.out).2.2); exact (rr_ HO_7.out).2.1; rintro e w' ⟨rfl, ⟨nd, rfl⟩⟩; (try first | exact ⟨rfl, _, World.drewN_drewN _ _ _⟩ | exact ⟨rfl, _, Eq.trans (World.drewN_drewN _ _ _) (congrArg (World.drewN _) (Nat.add_assoc _ _ _))⟩))); try go_wp2_with (first | (go_at_call 67; (with_reducible refine (jigsawref02_Has.calls k2 _ _ g (rd l d) false _ ?_ ?_ aI.out).mono ?_); exact ca_ ((rr_ HO_7.out).2.2); exact (rr_ HO_7.out).2.1; rintro e w' ⟨rfl, ⟨nd, rfl⟩⟩; (try first | exact ⟨rfl, _, World.drewN_drewN _ _ _⟩ | exact ⟨rfl, _, Eq.trans (World.drewN_drewN _ _ _) (congrArg (World.drewN _) (Nat.add_assoc _ _ _))⟩))))
   go_loopg [10, 11, 12] k2 (fun kq bs bM bN w' => ∃ (n : List Int) (ad : Bool) (c : Int), bM = .bool ad ∧ bN = .int .i64 c ∧ Aside0 (jigsawref02_Of.l2 kq l g d n ad c = some (r1, r2)) ∧ Aside0 (kq ≤ k2) ∧ Aside0 (Kd.R (Kd.int .i64) 3 w' w.heap.size (fun o => some o ≠ bs.ownBlock) (.slice aC g.length z) g) ∧ Aside0 (Kd.R (Kd.int .i64) 3 w' w.heap.size (fun o => some o ≠ ((.slice aC g.length z) : Value).ownBlock) bs n) ∧ Aside0 (Below w.heap.size w w'))
   case atStart => exact ⟨(([] : List Int)), (false), (0), eq_, eq_, H', ⟨lr_ _⟩, ⟨by refine vR_ ?_; exact rm_ HO_7.out (fun _ hk => (by simp [Value.ownBlock]))⟩, ⟨nil_⟩, ⟨bel_⟩⟩
   clear H'
   try clear c1
   try clear c2
   try clear c2b0
   try clear c2b1
   try clear c2b2
   try clear p2
   try clear c3
   try clear c3b0
   try clear c3b1
   try clear c4
   try clear c4b0
   try clear c5
   try clear c5b0
   try clear p5
   try clear q5
   try clear bK
   try clear bL
   try clear c6
   try clear c6b0
   try clear p6
   try clear c7
   try clear c7b0
   try clear c8
   try clear c8b0
   try clear c9
   try clear c9b0
   try clear c10
   try clear c10b0
   try clear c11
   try clear c11b0
   try clear c12
   try clear c12b0
   try clear c13
   try clear c13b0
   try clear c15
   try clear Q
   try clear U
   try clear p
   try clear q
   try clear r
   try clear A
   try clear B
   try clear V
   try clear E
   try clear W
   try clear G
   try clear p2
   try clear p5
   try clear p509
   try clear p510
   try clear p511
   try clear p512
   try clear p513
   try clear p514
   try clear p515
   try clear p516
   try clear p517
   try clear p518
   try clear p519
   try clear p6
   try clear q5
   try clear av
   try clear aw
   try clear v
   try clear x
   try clear y
   try clear aa
   try clear ab
   try clear az
   try clear ac
   try clear aA
   try clear af
   obtain ⟨n, ad, c, rfl, rfl, HA, ag, HO_7, HO_10, HB⟩ := hrel
   cases gk with
   | zero => exact absurd HA.out (by simp [jigsawref02_Of.l2])
   | succ k3 =>
    have H := HA.out
    clear HA
    simp only [jigsawref02_Of.l2] at H
    replace H := cf_ H
    rcases H with ⟨c18b0, H⟩ | ⟨c18b0, H⟩
    ·
     replace H := ht_ H
     rcases H with ⟨rfl, H⟩ | ⟨rfl, H⟩
     ·
      have H' := a_ H
      clear H
      go_wp2
      repeat (go_quiet (fail); try go_wp2)
      go_roundg k3
      case measure => have := F.out; have := ae.out; have := ag.out; omega
      exact ⟨(n), (wrap64 (d + 1)), eq_, H', ⟨by have := F.out; have := ae.out; have := ag.out; omega⟩, ⟨by refine vR_ ?_; exact rm_ HO_10.out (fun _ hk => trivial)⟩, ⟨bel_⟩⟩
     replace H := gu_ H
     obtain ⟨c33b0, H⟩ := H
     replace H := gu_ H
     obtain ⟨c34b0, H⟩ := H
     replace H := ga_ H
     obtain ⟨LMc35, H⟩ := H
     obtain ⟨bg, aq⟩ : ∃ y_ : List Int, y_ = (n ++ [rd l d]) := ⟨_, rfl⟩
     replace H : (jigsawref02_Of.l1 k3 l bg (wrap64 (d + 1))) = some (r1, r2) := h2_ H aq
     have a0 := a_ aq
     clear aq
     have H' := a_ H
     clear H
     have p539 : 0 ≤ (d : Int) := dq_
     have a9 : d < (l.length : Int) := dq_
     obtain ⟨bo, bF, ay⟩ := ai_ t.out d p539 a9
     obtain rfl : m = bo := (by injection bF)
     replace ay := hx_ HB ay
     replace p539 := et_ p539
     replace a9 := et_ a9
     go_wp2_with (first | ((with_reducible refine gate_builtin (b := .append) (xs := #[.tmp 112, .tmp 117]) rfl ?_); at_builtin; refine Kd.R_append (Kd.int .i64) (w0 := w) w.heap.size rfl (.tmp 112) (.tmp 117) 30 3 (.int .i64 0) 8 rfl Tryz.underlying30 info3 rfl (by decide) (by omega) u10 n (rd l d) [.int .i64 (rd l d)] (fun o => some o ≠ (.slice aC g.length z : Value).ownBlock) (fun _ => False) rfl rfl ?aP (fun _ hk => hk.elim) ?aF ?aO ?aB ?aS ?aL ?_; (case aP => exact rfl); (case aB => exact bel_); (case aF => exact (fun o hk => fr_ (rl_ (vR_ HO_7.out)) o hk)); (case aO => exact (vR_ HO_10.out)); (case aS => exact (bz_ bel_)); (case aL => have := LMc35.out; omega); intro bh w36 ho hb hg hat; rw [← a0.out] at ho; replace HO_7 := a_ (Kd.R_after (ok := (fun _ => True)) (by refine vR_ ?_; exact rm_ HO_7.out (fun _ hk => ⟨trivial, hk⟩)) hg hat); replace HB := a_ (hb); have a1 := a_ (ho); clear HO_10; clear ho hb hg hat))
     repeat (go_quiet (first | ((with_reducible refine gate_builtin (b := .append) (xs := #[.tmp 112, .tmp 117]) rfl ?_); at_builtin; refine Kd.R_append (Kd.int .i64) (w0 := w) w.heap.size rfl (.tmp 112) (.tmp 117) 30 3 (.int .i64 0) 8 rfl Tryz.underlying30 info3 rfl (by decide) (by omega) u10 n (rd l d) [.int .i64 (rd l d)] (fun o => some o ≠ (.slice aC g.length z : Value).ownBlock) (fun _ => False) rfl rfl ?aP (fun _ hk => hk.elim) ?aF ?aO ?aB ?aS ?aL ?_; (case aP => exact rfl); (case aB => exact bel_); (case aF => exact (fun o hk => fr_ (rl_ (vR_ HO_7.out)) o hk)); (case aO => exact (vR_ HO_10.out)); (case aS => exact (bz_ bel_)); (case aL => have := LMc35.out; omega); intro bh w36 ho hb hg hat; rw [← a0.out] at ho; replace HO_7 := a_ (Kd.R_after (ok := (fun _ => True)) (by refine vR_ ?_; exact rm_ HO_7.out (fun _ hk => ⟨trivial, hk⟩)) hg hat); replace HB := a_ (hb); have a1 := a_ (ho); clear HO_10; clear ho hb hg hat)); try go_wp2_with (first | ((with_reducible refine gate_builtin (b := .append) (xs := #[.tmp 112, .tmp 117]) rfl ?_); at_builtin; refine Kd.R_append (Kd.int .i64) (w0 := w) w.heap.size rfl (.tmp 112) (.tmp 117) 30 3 (.int .i64 0) 8 rfl Tryz.underlying30 info3 rfl (by decide) (by omega) u10 n (rd l d) [.int .i64 (rd l d)] (fun o => some o ≠ (.slice aC g.length z : Value).ownBlock) (fun _ => False) rfl rfl ?aP (fun _ hk => hk.elim) ?aF ?aO ?aB ?aS ?aL ?_; (case aP => exact rfl); (case aB => exact bel_); (case aF => exact (fun o hk => fr_ (rl_ (vR_ HO_7.out)) o hk)); (case aO => exact (vR_ HO_10.out)); (case aS => exact (bz_ bel_)); (case aL => have := LMc35.out; omega); intro bh w36 ho hb hg hat; rw [← a0.out] at ho; replace HB := a_ (hb); have a1 := a_ (ho); clear HO_10; clear ho hb hg hat)))
     go_roundg k3
     case measure => have := F.out; have := ae.out; have := ag.out; omega
     exact ⟨(bg), (wrap64 (d + 1)), eq_, H', ⟨by have := F.out; have := ae.out; have := ag.out; omega⟩, ⟨by refine vR_ ?_; exact rm_ a1.out (fun _ hk => trivial)⟩, ⟨bel_⟩⟩
    replace H := gu_ H
    obtain ⟨c19b0, H⟩ := H
    replace H := gu_ H
    obtain ⟨c20b0, H⟩ := H
    replace H := gu_ H
    obtain ⟨c21b0, H⟩ := H
    by_cases c22 : (rd g c) > (rd l d)
    rotate_left
    ·
     rw [ig_ c22] at H
     have c22b0 : decide ((rd l d) < (rd g c)) = false := df_ c22
     clear c22
     replace H := ga_ H
     obtain ⟨LMc30, H⟩ := H
     obtain ⟨be, ap⟩ : ∃ y_ : List Int, y_ = (n ++ [rd g c]) := ⟨_, rfl⟩
     replace H : (jigsawref02_Of.l2 k3 l g d be ad (wrap64 (c + 1))) = some (r1, r2) := h2_ H ap
     have aY := a_ ap
     clear ap
     have H' := a_ H
     clear H
     have p521 : 0 ≤ (c : Int) := dq_
     have J : c < (g.length : Int) := dq_
     obtain ⟨s, aD, aJ⟩ := ai_ (rr_ HO_7.out).2.2 c p521 J
     cases aD
     replace p521 := et_ p521
     replace J := et_ J
     have p522 : 0 ≤ (d : Int) := dq_
     have K : d < (l.length : Int) := dq_
     obtain ⟨al, aE, u⟩ := ai_ t.out d p522 K
     obtain rfl : m = al := (by injection aE)
     replace u := hx_ HB u
     replace p522 := et_ p522
     replace K := et_ K
     have p535 : 0 ≤ (c : Int) := dq_
     have a8 : c < (g.length : Int) := dq_
     obtain ⟨bn, bE, bH⟩ := ai_ (rr_ HO_7.out).2.2 c p535 a8
     obtain rfl : s = bn := (by injection bE)
     replace p535 := et_ p535
     replace a8 := et_ a8
     go_wp2_with (first | ((with_reducible refine gate_builtin (b := .append) (xs := #[.tmp 103, .tmp 108]) rfl ?_); at_builtin; refine Kd.R_append (Kd.int .i64) (w0 := w) w.heap.size rfl (.tmp 103) (.tmp 108) 30 3 (.int .i64 0) 8 rfl Tryz.underlying30 info3 rfl (by decide) (by omega) u10 n (rd g c) [.int .i64 (rd g c)] (fun o => some o ≠ (.slice (some s) g.length z : Value).ownBlock) (fun _ => False) rfl rfl ?aP (fun _ hk => hk.elim) ?aF ?aO ?aB ?aS ?aL ?_; (case aP => exact rfl); (case aB => exact bel_); (case aF => exact (fun o hk => fr_ (rl_ (vR_ HO_7.out)) o hk)); (case aO => exact (vR_ HO_10.out)); (case aS => exact (bz_ bel_)); (case aL => have := LMc30.out; omega); intro bf w31 ho hb hg hat; rw [← aY.out] at ho; replace HO_7 := a_ (Kd.R_after (ok := (fun _ => True)) (by refine vR_ ?_; exact rm_ HO_7.out (fun _ hk => ⟨trivial, hk⟩)) hg hat); replace HB := a_ (hb); have aZ := a_ (ho); clear HO_10; clear ho hb hg hat))
     repeat (go_quiet (first | ((with_reducible refine gate_builtin (b := .append) (xs := #[.tmp 103, .tmp 108]) rfl ?_); at_builtin; refine Kd.R_append (Kd.int .i64) (w0 := w) w.heap.size rfl (.tmp 103) (.tmp 108) 30 3 (.int .i64 0) 8 rfl Tryz.underlying30 info3 rfl (by decide) (by omega) u10 n (rd g c) [.int .i64 (rd g c)] (fun o => some o ≠ (.slice (some s) g.length z : Value).ownBlock) (fun _ => False) rfl rfl ?aP (fun _ hk => hk.elim) ?aF ?aO ?aB ?aS ?aL ?_; (case aP => exact rfl); (case aB => exact bel_); (case aF => exact (fun o hk => fr_ (rl_ (vR_ HO_7.out)) o hk)); (case aO => exact (vR_ HO_10.out)); (case aS => exact (bz_ bel_)); (case aL => have := LMc30.out; omega); intro bf w31 ho hb hg hat; rw [← aY.out] at ho; replace HO_7 := a_ (Kd.R_after (ok := (fun _ => True)) (by refine vR_ ?_; exact rm_ HO_7.out (fun _ hk => ⟨trivial, hk⟩)) hg hat); replace HB := a_ (hb); have aZ := a_ (ho); clear HO_10; clear ho hb hg hat)); try go_wp2_with (first | ((with_reducible refine gate_builtin (b := .append) (xs := #[.tmp 103, .tmp 108]) rfl ?_); at_builtin; refine Kd.R_append (Kd.int .i64) (w0 := w) w.heap.size rfl (.tmp 103) (.tmp 108) 30 3 (.int .i64 0) 8 rfl Tryz.underlying30 info3 rfl (by decide) (by omega) u10 n (rd g c) [.int .i64 (rd g c)] (fun o => some o ≠ (.slice (some s) g.length z : Value).ownBlock) (fun _ => False) rfl rfl ?aP (fun _ hk => hk.elim) ?aF ?aO ?aB ?aS ?aL ?_; (case aP => exact rfl); (case aB => exact bel_); (case aF => exact (fun o hk => fr_ (rl_ (vR_ HO_7.out)) o hk)); (case aO => exact (vR_ HO_10.out)); (case aS => exact (bz_ bel_)); (case aL => have := LMc30.out; omega); intro bf w31 ho hb hg hat; rw [← aY.out] at ho; replace HO_7 := a_ (Kd.R_after (ok := (fun _ => True)) (by refine vR_ ?_; exact rm_ HO_7.out (fun _ hk => ⟨trivial, hk⟩)) hg hat); replace HB := a_ (hb); have aZ := a_ (ho); clear HO_10; clear ho hb hg hat)))
     go_roundg k3
     case measure => have := F.out; have := ae.out; have := ag.out; omega
     exact ⟨(be), (ad), (wrap64 (c + 1)), eq_, eq_, H', ⟨by have := F.out; have := ae.out; have := ag.out; omega⟩, ⟨by refine vR_ ?_; exact rm_ HO_7.out (fun _ hk => hk.2)⟩, ⟨vR_ aZ.out⟩, ⟨bel_⟩⟩
    rw [ip_ c22] at H
    have c22b0 : decide ((rd l d) < (rd g c)) = true := dt_ c22
    clear c22
    replace H := ht_ H
    rcases H with ⟨rfl, H⟩ | ⟨rfl, H⟩
    ·
     replace H := ga_ H
     obtain ⟨LMc24, H⟩ := H
     obtain ⟨ba, ak⟩ : ∃ y_ : List Int, y_ = (n ++ [rd g c]) := ⟨_, rfl⟩
     replace H : (jigsawref02_Of.l2 k3 l g d ba true (wrap64 (c + 1))) = some (r1, r2) := h2_ H ak
     have aT := a_ ak
     clear ak
     have H' := a_ H
     clear H
     have p521 : 0 ≤ (c : Int) := dq_
     have J : c < (g.length : Int) := dq_
     obtain ⟨s, aD, aJ⟩ := ai_ (rr_ HO_7.out).2.2 c p521 J
     cases aD
     replace p521 := et_ p521
     replace J := et_ J
     have p522 : 0 ≤ (d : Int) := dq_
     have K : d < (l.length : Int) := dq_
     obtain ⟨al, aE, u⟩ := ai_ t.out d p522 K
     obtain rfl : m = al := (by injection aE)
     replace u := hx_ HB u
     replace p522 := et_ p522
     replace K := et_ K
     have p523 : 0 ≤ (c : Int) := dq_
     have a6 : c < (g.length : Int) := dq_
     obtain ⟨bl, bC, bG⟩ := ai_ (rr_ HO_7.out).2.2 c p523 a6
     obtain rfl : s = bl := (by injection bC)
     replace p523 := et_ p523
     replace a6 := et_ a6
     go_wp2_with (first | ((with_reducible refine gate_builtin (b := .append) (xs := #[.tmp 103, .tmp 108]) rfl ?_); at_builtin; refine Kd.R_append (Kd.int .i64) (w0 := w) w.heap.size rfl (.tmp 103) (.tmp 108) 30 3 (.int .i64 0) 8 rfl Tryz.underlying30 info3 rfl (by decide) (by omega) u10 n (rd g c) [.int .i64 (rd g c)] (fun o => some o ≠ (.slice (some s) g.length z : Value).ownBlock) (fun _ => False) rfl rfl ?aP (fun _ hk => hk.elim) ?aF ?aO ?aB ?aS ?aL ?_; (case aP => exact rfl); (case aB => exact bel_); (case aF => exact (fun o hk => fr_ (rl_ (vR_ HO_7.out)) o hk)); (case aO => exact (vR_ HO_10.out)); (case aS => exact (bz_ bel_)); (case aL => have := LMc24.out; omega); intro bb w25 ho hb hg hat; rw [← aT.out] at ho; replace HO_7 := a_ (Kd.R_after (ok := (fun _ => True)) (by refine vR_ ?_; exact rm_ HO_7.out (fun _ hk => ⟨trivial, hk⟩)) hg hat); replace HB := a_ (hb); have aU := a_ (ho); clear HO_10; clear ho hb hg hat))
     repeat (go_quiet (first | ((with_reducible refine gate_builtin (b := .append) (xs := #[.tmp 103, .tmp 108]) rfl ?_); at_builtin; refine Kd.R_append (Kd.int .i64) (w0 := w) w.heap.size rfl (.tmp 103) (.tmp 108) 30 3 (.int .i64 0) 8 rfl Tryz.underlying30 info3 rfl (by decide) (by omega) u10 n (rd g c) [.int .i64 (rd g c)] (fun o => some o ≠ (.slice (some s) g.length z : Value).ownBlock) (fun _ => False) rfl rfl ?aP (fun _ hk => hk.elim) ?aF ?aO ?aB ?aS ?aL ?_; (case aP => exact rfl); (case aB => exact bel_); (case aF => exact (fun o hk => fr_ (rl_ (vR_ HO_7.out)) o hk)); (case aO => exact (vR_ HO_10.out)); (case aS => exact (bz_ bel_)); (case aL => have := LMc24.out; omega); intro bb w25 ho hb hg hat; rw [← aT.out] at ho; replace HO_7 := a_ (Kd.R_after (ok := (fun _ => True)) (by refine vR_ ?_; exact rm_ HO_7.out (fun _ hk => ⟨trivial, hk⟩)) hg hat); replace HB := a_ (hb); have aU := a_ (ho); clear HO_10; clear ho hb hg hat)); try go_wp2_with (first | ((with_reducible refine gate_builtin (b := .append) (xs := #[.tmp 103, .tmp 108]) rfl ?_); at_builtin; refine Kd.R_append (Kd.int .i64) (w0 := w) w.heap.size rfl (.tmp 103) (.tmp 108) 30 3 (.int .i64 0) 8 rfl Tryz.underlying30 info3 rfl (by decide) (by omega) u10 n (rd g c) [.int .i64 (rd g c)] (fun o => some o ≠ (.slice (some s) g.length z : Value).ownBlock) (fun _ => False) rfl rfl ?aP (fun _ hk => hk.elim) ?aF ?aO ?aB ?aS ?aL ?_; (case aP => exact rfl); (case aB => exact bel_); (case aF => exact (fun o hk => fr_ (rl_ (vR_ HO_7.out)) o hk)); (case aO => exact (vR_ HO_10.out)); (case aS => exact (bz_ bel_)); (case aL => have := LMc24.out; omega); intro bb w25 ho hb hg hat; rw [← aT.out] at ho; replace HO_7 := a_ (Kd.R_after (ok := (fun _ => True)) (by refine vR_ ?_; exact rm_ HO_7.out (fun _ hk => ⟨trivial, hk⟩)) hg hat); replace HB := a_ (hb); have aU := a_ (ho); clear HO_10; clear ho hb hg hat)))
     go_roundg k3
     case measure => have := F.out; have := ae.out; have := ag.out; omega
     exact ⟨(ba), (true), (wrap64 (c + 1)), eq_, eq_, H', ⟨by have := F.out; have := ae.out; have := ag.out; omega⟩, ⟨by refine vR_ ?_; exact rm_ HO_7.out (fun _ hk => hk.2)⟩, ⟨vR_ aU.out⟩, ⟨bel_⟩⟩
    replace H := ga_ H
    obtain ⟨LMc26, H⟩ := H
    obtain ⟨P, am⟩ : ∃ y_ : List Int, y_ = (n ++ [rd l d]) := ⟨_, rfl⟩
    replace H : (if P.length < 17592186044416 then (jigsawref02_Of.l2 k3 l g d (P ++ [rd g c]) true (wrap64 (c + 1))) else (none)) = some (r1, r2) := h2_ H am
    have aV := a_ am
    clear am
    replace H := ga_ H
    obtain ⟨LMc27, H⟩ := H
    obtain ⟨bc, an⟩ : ∃ y_ : List Int, y_ = (P ++ [rd g c]) := ⟨_, rfl⟩
    replace H : (jigsawref02_Of.l2 k3 l g d bc true (wrap64 (c + 1))) = some (r1, r2) := h2_ H an
    have aW := a_ an
    clear an
    have H' := a_ H
    clear H
    have p521 : 0 ≤ (c : Int) := dq_
    have J : c < (g.length : Int) := dq_
    obtain ⟨s, aD, aJ⟩ := ai_ (rr_ HO_7.out).2.2 c p521 J
    cases aD
    replace p521 := et_ p521
    replace J := et_ J
    have p522 : 0 ≤ (d : Int) := dq_
    have K : d < (l.length : Int) := dq_
    obtain ⟨al, aE, u⟩ := ai_ t.out d p522 K
    obtain rfl : m = al := (by injection aE)
    replace u := hx_ HB u
    replace p522 := et_ p522
    replace K := et_ K
    have p527 : 0 ≤ (d : Int) := dq_
    have a7 : d < (l.length : Int) := dq_
    obtain ⟨bm, bD, ax⟩ := ai_ t.out d p527 a7
    obtain rfl : m = bm := (by injection bD)
    replace ax := hx_ HB ax
    replace p527 := et_ p527
    replace a7 := et_ a7
    go_wp2_with (first | ((with_reducible refine gate_builtin (b := .append) (xs := #[.tmp 96, .tmp 101]) rfl ?_); at_builtin; refine Kd.R_append (Kd.int .i64) (w0 := w) w.heap.size rfl (.tmp 96) (.tmp 101) 30 3 (.int .i64 0) 8 rfl Tryz.underlying30 info3 rfl (by decide) (by omega) u10 n (rd l d) [.int .i64 (rd l d)] (fun o => some o ≠ (.slice (some s) g.length z : Value).ownBlock) (fun _ => False) rfl rfl ?aP (fun _ hk => hk.elim) ?aF ?aO ?aB ?aS ?aL ?_; (case aP => exact rfl); (case aB => exact bel_); (case aF => exact (fun o hk => fr_ (rl_ (vR_ HO_7.out)) o hk)); (case aO => exact (vR_ HO_10.out)); (case aS => exact (bz_ bel_)); (case aL => have := LMc26.out; omega); intro aG w28 ho hb hg hat; rw [← aV.out] at ho; replace HO_7 := a_ (Kd.R_after (ok := (fun _ => True)) (by refine vR_ ?_; exact rm_ HO_7.out (fun _ hk => ⟨trivial, hk⟩)) hg hat); replace HB := a_ (hb); have N := a_ (ho); clear HO_10; clear ho hb hg hat; have p531 : 0 ≤ (c : Int) := dq_; have M : c < (g.length : Int) := dq_; obtain ⟨ao, aH, aK⟩ := ai_ (rr_ HO_7.out).2.2 c p531 M; obtain rfl : s = ao := (by injection aH); replace p531 := et_ p531; replace M := et_ M) | ((with_reducible refine gate_builtin (b := .append) (xs := #[.tmp 103, .tmp 108]) rfl ?_); at_builtin; refine Kd.R_append (Kd.int .i64) (w0 := w) w.heap.size rfl (.tmp 103) (.tmp 108) 30 3 (.int .i64 0) 8 rfl Tryz.underlying30 info3 rfl (by decide) (by omega) aG P (rd g c) [.int .i64 (rd g c)] (fun o => some o ≠ (.slice (some s) g.length z : Value).ownBlock) (fun _ => False) rfl rfl ?aP (fun _ hk => hk.elim) ?aF ?aO ?aB ?aS ?aL ?_; (case aP => exact rfl); (case aB => exact bel_); (case aF => exact (fun o hk => fr_ (rl_ (vR_ HO_7.out)) o hk)); (case aO => exact (vR_ N.out)); (case aS => exact (bz_ bel_)); (case aL => have := LMc27.out; omega); intro bd w29 ho hb hg hat; rw [← aW.out] at ho; replace HO_7 := a_ (Kd.R_after (ok := (fun _ => True)) (vR_ HO_7.out) hg hat); replace HB := a_ (hb); have aX := a_ (ho); clear N; clear ho hb hg hat))
    repeat (go_quiet (first | ((with_reducible refine gate_builtin (b := .append) (xs := #[.tmp 96, .tmp 101]) rfl ?_); at_builtin; refine Kd.R_append (Kd.int .i64) (w0 := w) w.heap.size rfl (.tmp 96) (.tmp 101) 30 3 (.int .i64 0) 8 rfl Tryz.underlying30 info3 rfl (by decide) (by omega) u10 n (rd l d) [.int .i64 (rd l d)] (fun o => some o ≠ (.slice (some s) g.length z : Value).ownBlock) (fun _ => False) rfl rfl ?aP (fun _ hk => hk.elim) ?aF ?aO ?aB ?aS ?aL ?_; (case aP => exact rfl); (case aB => exact bel_); (case aF => exact (fun o hk => fr_ (rl_ (vR_ HO_7.out)) o hk)); (case aO => exact (vR_ HO_10.out)); (case aS => exact (bz_ bel_)); (case aL => have := LMc26.out; omega); intro aG w28 ho hb hg hat; rw [← aV.out] at ho; replace HO_7 := a_ (Kd.R_after (ok := (fun _ => True)) (by refine vR_ ?_; exact rm_ HO_7.out (fun _ hk => ⟨trivial, hk⟩)) hg hat); replace HB := a_ (hb); have N := a_ (ho); clear HO_10; clear ho hb hg hat; have p531 : 0 ≤ (c : Int) := dq_; have M : c < (g.length : Int) := dq_; obtain ⟨ao, aH, aK⟩ := ai_ (rr_ HO_7.out).2.2 c p531 M; obtain rfl : s = ao := (by injection aH); replace p531 := et_ p531; replace M := et_ M) | ((with_reducible refine gate_builtin (b := .append) (xs := #[.tmp 103, .tmp 108]) rfl ?_); at_builtin; refine Kd.R_append (Kd.int .i64) (w0 := w) w.heap.size rfl (.tmp 103) (.tmp 108) 30 3 (.int .i64 0) 8 rfl Tryz.underlying30 info3 rfl (by decide) (by omega) aG P (rd g c) [.int .i64 (rd g c)] (fun o => some o ≠ (.slice (some s) g.length z : Value).ownBlock) (fun _ => False) rfl rfl ?aP (fun _ hk => hk.elim) ?aF ?aO ?aB ?aS ?aL ?_; (case aP => exact rfl); (case aB => exact bel_); (case aF => exact (fun o hk => fr_ (rl_ (vR_ HO_7.out)) o hk)); (case aO => exact (vR_ N.out)); (case aS => exact (bz_ bel_)); (case aL => have := LMc27.out; omega); intro bd w29 ho hb hg hat; rw [← aW.out] at ho; replace HO_7 := a_ (Kd.R_after (ok := (fun _ => True)) (vR_ HO_7.out) hg hat); replace HB := a_ (hb); have aX := a_ (ho); clear N; clear ho hb hg hat)); try go_wp2_with (first | ((with_reducible refine gate_builtin (b := .append) (xs := #[.tmp 96, .tmp 101]) rfl ?_); at_builtin; refine Kd.R_append (Kd.int .i64) (w0 := w) w.heap.size rfl (.tmp 96) (.tmp 101) 30 3 (.int .i64 0) 8 rfl Tryz.underlying30 info3 rfl (by decide) (by omega) u10 n (rd l d) [.int .i64 (rd l d)] (fun o => some o ≠ (.slice (some s) g.length z : Value).ownBlock) (fun _ => False) rfl rfl ?aP (fun _ hk => hk.elim) ?aF ?aO ?aB ?aS ?aL ?_; (case aP => exact rfl); (case aB => exact bel_); (case aF => exact (fun o hk => fr_ (rl_ (vR_ HO_7.out)) o hk)); (case aO => exact (vR_ HO_10.out)); (case aS => exact (bz_ bel_)); (case aL => have := LMc26.out; omega); intro aG w28 ho hb hg hat; rw [← aV.out] at ho; replace HO_7 := a_ (Kd.R_after (ok := (fun _ => True)) (by refine vR_ ?_; exact rm_ HO_7.out (fun _ hk => ⟨trivial, hk⟩)) hg hat); replace HB := a_ (hb); have N := a_ (ho); clear HO_10; clear ho hb hg hat; have p531 : 0 ≤ (c : Int) := dq_; have M : c < (g.length : Int) := dq_; obtain ⟨ao, aH, aK⟩ := ai_ (rr_ HO_7.out).2.2 c p531 M; obtain rfl : s = ao := (by injection aH); replace p531 := et_ p531; replace M := et_ M) | ((with_reducible refine gate_builtin (b := .append) (xs := #[.tmp 103, .tmp 108]) rfl ?_); at_builtin; refine Kd.R_append (Kd.int .i64) (w0 := w) w.heap.size rfl (.tmp 103) (.tmp 108) 30 3 (.int .i64 0) 8 rfl Tryz.underlying30 info3 rfl (by decide) (by omega) aG P (rd g c) [.int .i64 (rd g c)] (fun o => some o ≠ (.slice (some s) g.length z : Value).ownBlock) (fun _ => False) rfl rfl ?aP (fun _ hk => hk.elim) ?aF ?aO ?aB ?aS ?aL ?_; (case aP => exact rfl); (case aB => exact bel_); (case aF => exact (fun o hk => fr_ (rl_ (vR_ HO_7.out)) o hk)); (case aO => exact (vR_ N.out)); (case aS => exact (bz_ bel_)); (case aL => have := LMc27.out; omega); intro bd w29 ho hb hg hat; rw [← aW.out] at ho; replace HO_7 := a_ (Kd.R_after (ok := (fun _ => True)) (vR_ HO_7.out) hg hat); replace HB := a_ (hb); have aX := a_ (ho); clear N; clear ho hb hg hat)))
    go_roundg k3
    case measure => have := F.out; have := ae.out; have := ag.out; omega
    exact ⟨(bc), (true), (wrap64 (c + 1)), eq_, eq_, H', ⟨by have := F.out; have := ae.out; have := ag.out; omega⟩, ⟨by refine vR_ ?_; exact rm_ HO_7.out (fun _ hk => hk.2)⟩, ⟨vR_ aX.out⟩, ⟨bel_⟩⟩

end Go.Proofs.YtijjhobjmehhoaaGreatDoor.XGccAll
