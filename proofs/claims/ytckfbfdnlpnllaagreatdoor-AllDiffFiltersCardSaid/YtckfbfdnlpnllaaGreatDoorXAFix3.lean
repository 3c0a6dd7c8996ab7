-- by xprint.py, a program of this session, over the kit's print
import Derived.Test.YtckfbfdnlpnllaaGreatDoorXAFix0
import Derived.Test.YtckfbfdnlpnllaaGreatDoorXAFix2
import Derived.Test.YtckfbfdnlpnllaaGreatDoorSq
namespace Go.Proofs.YtckfbfdnlpnllaaGreatDoor.XAllDiffFilters
open Go.RowKit Go.Proofs.YtckfbfdnlpnllaaGreatDoor.Sq Go.Proofs.YtckfbfdnlpnllaaGreatDoorW.PrintWords Go.Proofs.YtckfbfdnlpnllaaGreatDoorW.PrintLast Go.Proofs.YtckfbfdnlpnllaaGreatDoorW.PrintMore
attribute [local go_sem] max2_int min2_int max_two min_two max_three min_three max_four min_four   -- for this text's walks alone
set_option linter.unusedVariables false
set_option linter.unusedSimpArgs false

/-! ### jigsawref02_Of: function 52 -/
mutual
def jigsawref02_Of.l0 : Nat → List Int → Int → Int → Int → Option (List Int × Int)
 | 0, _, _, _, _ => none
 | k + 1, a, d, c, b => if b < (a.length : Int) then (if 0 ≤ b then (if (rd a b) < (-1000000) then (none) else (if (rd a b) > 1000000 then (none) else (if (rd a b) < d then (if (rd a b) > c then (jigsawref02_Of.l0 k a (rd a b) (rd a b) (wrap64 (b + 1))) else (jigsawref02_Of.l0 k a (rd a b) c (wrap64 (b + 1)))) else (if (rd a b) > c then (jigsawref02_Of.l0 k a d (rd a b) (wrap64 (b + 1))) else (jigsawref02_Of.l0 k a d c (wrap64 (b + 1))))))) else (none)) else (if (wrap64 (c - d)) ≥ 65536 then (none) else (jigsawref02_Of.l1 k a ([] : List Int) 0))
def jigsawref02_Of.l1 : Nat → List Int → List Int → Int → Option (List Int × Int)
 | 0, _, _, _ => none
 | k + 1, b, c, a => if a < (b.length : Int) then (if 0 ≤ a then ((jigsawref02_Has.f k c (rd b a)).bind fun d => (if d = true then (jigsawref02_Of.l1 k b c (wrap64 (a + 1))) else (jigsawref02_Of.l2 k b c a ([] : List Int) false 0))) else (none)) else (some (c, 0))
def jigsawref02_Of.l2 : Nat → List Int → List Int → Int → List Int → Bool → Int → Option (List Int × Int)
 | 0, _, _, _, _, _, _ => none
 | k + 1, d, e, c, a, f, b => if b < (e.length : Int) then (if 0 ≤ b then (if 0 ≤ c then (if c < (d.length : Int) then (if (rd e b) > (rd d c) then (if f = true then (if a.length < 17592186044416 then (jigsawref02_Of.l2 k d e c (a ++ [rd e b]) f (wrap64 (b + 1))) else (none)) else (if a.length < 17592186044416 then ((some (a ++ [rd d c] : List Int)).bind fun g => (if g.length < 17592186044416 then (jigsawref02_Of.l2 k d e c (g ++ [rd e b]) true (wrap64 (b + 1))) else (none))) else (none))) else (if a.length < 17592186044416 then (jigsawref02_Of.l2 k d e c (a ++ [rd e b]) f (wrap64 (b + 1))) else (none))) else (none)) else (none)) else (none)) else (if f = true then (jigsawref02_Of.l1 k d a (wrap64 (c + 1))) else (if 0 ≤ c then (if c < (d.length : Int) then (if a.length < 17592186044416 then (jigsawref02_Of.l1 k d (a ++ [rd d c]) (wrap64 (c + 1))) else (none)) else (none)) else (none)))
end
def jigsawref02_Of.f (k : Nat) (a : List Int) : Option (List Int × Int) := if (a.length : Int) = 0 then (none) else (if 0 < (a.length : Int) then (jigsawref02_Of.l0 k a (rd a 0) (rd a 0) 0) else (none))
theorem jigsawref02_Of.mono_l : ∀ k, (∀ a b c d, LeO (jigsawref02_Of.l0 k a b c d) (jigsawref02_Of.l0 (k + 1) a b c d)) ∧ (∀ a b c, LeO (jigsawref02_Of.l1 k a b c) (jigsawref02_Of.l1 (k + 1) a b c)) ∧ (∀ a b c d e f, LeO (jigsawref02_Of.l2 k a b c d e f) (jigsawref02_Of.l2 (k + 1) a b c d e f))
 | 0 => by refine ⟨?_, ?_, ?_⟩ <;> (intros; exact LeO.none _)
 | k + 1 => by
  obtain ⟨ih0, ih1, ih2⟩ := jigsawref02_Of.mono_l k
  have m0 := @jigsawref02_Has.mono
  refine ⟨?_, ?_, ?_⟩ <;> intros
  all_goals first | unfold jigsawref02_Of.l0 | unfold jigsawref02_Of.l1 | unfold jigsawref02_Of.l2
  all_goals exact leo_
theorem jigsawref02_Of.mono : ∀ a k, LeO (jigsawref02_Of.f k a) (jigsawref02_Of.f (k + 1) a) := by
 intro a k
 obtain ⟨ih0, ih1, ih2⟩ := jigsawref02_Of.mono_l k
 unfold jigsawref02_Of.f
 have m0 := @jigsawref02_Has.mono
 exact leo_
set_option maxHeartbeats 8000000 in
set_option maxRecDepth 100000 in
theorem jigsawref02_Of.calls (k : Nat) (A0 : Option Addr) (c0 : Nat) (l : List Int) (r1 : List Int) (r2 : Int) (w : World) (bq : Kd.C (Kd.int .i64) w A0 l.length l) (br : l.length ≤ c0) (h : jigsawref02_Of.f k l = some (r1, r2)) :
  Calls Tryz.prog 52 #[.slice A0 l.length c0] w fun e w' => ∃ bs : Value, e = .returned (.tuple #[bs, .int .i64 r2]) ∧ Kd.R (Kd.int .i64) 3 w' w.heap.size (fun _ => True) bs r1 ∧ Below w.heap.size w w' := by
 have t := a_ bq
 have b0 := a_ br
 clear bq br
 have HB := a_ (Below.refl w.heap.size w)
 unfold jigsawref02_Of.f at h
 have H := h
 clear h
 by_cases c2 : (l.length : Int) = 0
 ·
  rw [ip_ c2] at H
  exact ab_ H
 rw [ig_ c2] at H
 have c2b0 : ((l.length : Int) == 0) = false := be_.mpr c2
 have c2b1 : ((l.length : Int) != 0) = true := ni_.mpr c2
 have c2b2 : ¬ (l = []) := fun h_ => c2 (by rw [h_]; rfl)
 by_cases c3 : 0 < (l.length : Int)
 rotate_left
 ·
  rw [ig_ c3] at H
  exact ab_ H
 rw [ip_ c3] at H
 have c3b0 : decide (0 < (l.length : Int)) = true := dt_ c3
 have c3b1 : decide (0 < l.length) = true := dt_ (by omega)
 clear c3
 have H' := a_ H
 clear H
 have p127 : 0 ≤ (0 : Int) := (by omega)
 have av : 0 < (l.length : Int) := dq_
 obtain ⟨m, bx, Q⟩ := ai_ t.out 0 p127 av
 cases bx
 have bO : (0 < l.length) = True := et_ (by omega)
 (try rw [t0_] at Q)
 (try rw [Addr.add_zero'] at Q)
 replace p127 := et_ p127
 replace av := et_ av
 have p128 : 0 ≤ (0 : Int) := (by omega)
 have aw : 0 < (l.length : Int) := dq_
 obtain ⟨bi, bz, U⟩ := ai_ t.out 0 p128 aw
 obtain rfl : m = bi := (by injection bz)
 have bP : (0 < l.length) = True := et_ (by omega)
 (try rw [t0_] at U)
 (try rw [Addr.add_zero'] at U)
 replace p128 := et_ p128
 replace aw := et_ aw
 go_enter Tryz.func52, Tryz.ntmps52
 go_wp2
 repeat (go_quiet (fail); try go_wp2)
 go_loopg [4, 5, 6] k (fun kq v4 v5 v6 w' => ∃ (O : Int) (I : Int) (a : Int), v4 = .int .i64 O ∧ v5 = .int .i64 I ∧ v6 = .int .i64 a ∧ Aside0 (jigsawref02_Of.l0 kq l O I a = some (r1, r2)) ∧ Aside0 (kq ≤ k) ∧ Aside0 (Below w.heap.size w w'))
 case atStart => exact ⟨(rd l 0), (rd l 0), (0), eq_, eq_, eq_, H', ⟨lr_ _⟩, ⟨bel_⟩⟩
 clear H'
 try clear p1
 try clear q1
 try clear bu
 try clear bv
 try clear c2
 try clear c2b0
 try clear c2b1
 try clear c2b2
 try clear p2
 try clear c3
 try clear c3b0
 try clear c3b1
 try clear Q
 try clear U
 try clear p127
 try clear p128
 try clear av
 try clear aw
 obtain ⟨O, I, a, rfl, rfl, rfl, HA, F, HB⟩ := hrel
 cases gk with
 | zero => exact absurd HA.out (by simp [jigsawref02_Of.l0])
 | succ k1 =>
  have H := HA.out
  clear HA
  simp only [jigsawref02_Of.l0] at H
  by_cases c4 : a < (l.length : Int)
  ·
   rw [ip_ c4] at H
   have c4b0 : decide (a < (l.length : Int)) = true := dt_ c4
   clear c4
   by_cases c5 : 0 ≤ a
   rotate_left
   ·
    rw [ig_ c5] at H
    exact ab_ H
   rw [ip_ c5] at H
   have c5b0 : decide (0 ≤ a) = true := dt_ c5
   clear c5
   by_cases c6 : (rd l a) < (-1000000)
   ·
    rw [ip_ c6] at H
    exact ab_ H
   rw [ig_ c6] at H
   have c6b0 : decide ((rd l a) < (-1000000)) = false := df_ c6
   clear c6
   by_cases c7 : (rd l a) > 1000000
   ·
    rw [ip_ c7] at H
    exact ab_ H
   rw [ig_ c7] at H
   have c7b0 : decide (1000000 < (rd l a)) = false := df_ c7
   clear c7
   by_cases c8 : (rd l a) < O
   rotate_left
   ·
    rw [ig_ c8] at H
    have c8b0 : decide ((rd l a) < O) = false := df_ c8
    clear c8
    by_cases c10 : (rd l a) > I
    rotate_left
    ·
     rw [ig_ c10] at H
     have c10b0 : decide (I < (rd l a)) = false := df_ c10
     clear c10
     have H' := a_ H
     clear H
     have p129 : 0 ≤ (a : Int) := dq_
     have v : a < (l.length : Int) := dq_
     obtain ⟨X, ah, p⟩ := ai_ t.out a p129 v
     obtain rfl : m = X := (by injection ah)
     replace p := hx_ HB p
     replace p129 := et_ p129
     replace v := et_ v
     have p130 : 0 ≤ (a : Int) := dq_
     have x : a < (l.length : Int) := dq_
     obtain ⟨Y, ai, q⟩ := ai_ t.out a p130 x
     obtain rfl : m = Y := (by injection ai)
     replace q := hx_ HB q
     replace p130 := et_ p130
     replace x := et_ x
     have p131 : 0 ≤ (a : Int) := dq_
     have y : a < (l.length : Int) := dq_
     obtain ⟨Z, aj, r⟩ := ai_ t.out a p131 y
     obtain rfl : m = Z := (by injection aj)
     replace r := hx_ HB r
     replace p131 := et_ p131
     replace y := et_ y
     have p135 : 0 ≤ (a : Int) := dq_
     have ac : a < (l.length : Int) := dq_
     obtain ⟨aQ, a4, E⟩ := ai_ t.out a p135 ac
     obtain rfl : m = aQ := (by injection a4)
     replace E := hx_ HB E
     replace p135 := et_ p135
     replace ac := et_ ac
     go_wp2
     repeat (go_quiet (fail); try go_wp2)
     go_roundg k1
     case measure => have := F.out; omega
     exact ⟨(O), (I), (wrap64 (a + 1)), eq_, eq_, eq_, H', ⟨by have := F.out; omega⟩, ⟨bel_⟩⟩
    rw [ip_ c10] at H
    have c10b0 : decide (I < (rd l a)) = true := dt_ c10
    clear c10
    have H' := a_ H
    clear H
    have p129 : 0 ≤ (a : Int) := dq_
    have v : a < (l.length : Int) := dq_
    obtain ⟨X, ah, p⟩ := ai_ t.out a p129 v
    obtain rfl : m = X := (by injection ah)
    replace p := hx_ HB p
    replace p129 := et_ p129
    replace v := et_ v
    have p130 : 0 ≤ (a : Int) := dq_
    have x : a < (l.length : Int) := dq_
    obtain ⟨Y, ai, q⟩ := ai_ t.out a p130 x
    obtain rfl : m = Y := (by injection ai)
    replace q := hx_ HB q
    replace p130 := et_ p130
    replace x := et_ x
    have p131 : 0 ≤ (a : Int) := dq_
    have y : a < (l.length : Int) := dq_
    obtain ⟨Z, aj, r⟩ := ai_ t.out a p131 y
    obtain rfl : m = Z := (by injection aj)
    replace r := hx_ HB r
    replace p131 := et_ p131
    replace y := et_ y
    have p135 : 0 ≤ (a : Int) := dq_
    have ac : a < (l.length : Int) := dq_
    obtain ⟨aQ, a4, E⟩ := ai_ t.out a p135 ac
    obtain rfl : m = aQ := (by injection a4)
    replace E := hx_ HB E
    replace p135 := et_ p135
    replace ac := et_ ac
    have p136 : 0 ≤ (a : Int) := dq_
    have aA : a < (l.length : Int) := dq_
    obtain ⟨bl, bB, W⟩ := ai_ t.out a p136 aA
    obtain rfl : m = bl := (by injection bB)
    replace W := hx_ HB W
    replace p136 := et_ p136
    replace aA := et_ aA
    go_wp2
    repeat (go_quiet (fail); try go_wp2)
    go_roundg k1
    case measure => have := F.out; omega
    exact ⟨(O), (rd l a), (wrap64 (a + 1)), eq_, eq_, eq_, H', ⟨by have := F.out; omega⟩, ⟨bel_⟩⟩
   rw [ip_ c8] at H
   have c8b0 : decide ((rd l a) < O) = true := dt_ c8
   clear c8
   by_cases c9 : (rd l a) > I
   rotate_left
   ·
    rw [ig_ c9] at H
    have c9b0 : decide (I < (rd l a)) = false := df_ c9
    clear c9
    have H' := a_ H
    clear H
    have p129 : 0 ≤ (a : Int) := dq_
    have v : a < (l.length : Int) := dq_
    obtain ⟨X, ah, p⟩ := ai_ t.out a p129 v
    obtain rfl : m = X := (by injection ah)
    replace p := hx_ HB p
    replace p129 := et_ p129
    replace v := et_ v
    have p130 : 0 ≤ (a : Int) := dq_
    have x : a < (l.length : Int) := dq_
    obtain ⟨Y, ai, q⟩ := ai_ t.out a p130 x
    obtain rfl : m = Y := (by injection ai)
    replace q := hx_ HB q
    replace p130 := et_ p130
    replace x := et_ x
    have p131 : 0 ≤ (a : Int) := dq_
    have y : a < (l.length : Int) := dq_
    obtain ⟨Z, aj, r⟩ := ai_ t.out a p131 y
    obtain rfl : m = Z := (by injection aj)
    replace r := hx_ HB r
    replace p131 := et_ p131
    replace y := et_ y
    have p132 : 0 ≤ (a : Int) := dq_
    have aa : a < (l.length : Int) := dq_
    obtain ⟨aM, a2, A⟩ := ai_ t.out a p132 aa
    obtain rfl : m = aM := (by injection a2)
    replace A := hx_ HB A
    replace p132 := et_ p132
    replace aa := et_ aa
    have p133 : 0 ≤ (a : Int) := dq_
    have ab : a < (l.length : Int) := dq_
    obtain ⟨aN, a3, B⟩ := ai_ t.out a p133 ab
    obtain rfl : m = aN := (by injection a3)
    replace B := hx_ HB B
    replace p133 := et_ p133
    replace ab := et_ ab
    go_wp2
    repeat (go_quiet (fail); try go_wp2)
    go_roundg k1
    case measure => have := F.out; omega
    exact ⟨(rd l a), (I), (wrap64 (a + 1)), eq_, eq_, eq_, H', ⟨by have := F.out; omega⟩, ⟨bel_⟩⟩
   rw [ip_ c9] at H
   have c9b0 : decide (I < (rd l a)) = true := dt_ c9
   clear c9
   have H' := a_ H
   clear H
   have p129 : 0 ≤ (a : Int) := dq_
   have v : a < (l.length : Int) := dq_
   obtain ⟨X, ah, p⟩ := ai_ t.out a p129 v
   obtain rfl : m = X := (by injection ah)
   replace p := hx_ HB p
   replace p129 := et_ p129
   replace v := et_ v
   have p130 : 0 ≤ (a : Int) := dq_
   have x : a < (l.length : Int) := dq_
   obtain ⟨Y, ai, q⟩ := ai_ t.out a p130 x
   obtain rfl : m = Y := (by injection ai)
   replace q := hx_ HB q
   replace p130 := et_ p130
   replace x := et_ x
   have p131 : 0 ≤ (a : Int) := dq_
   have y : a < (l.length : Int) := dq_
   obtain ⟨Z, aj, r⟩ := ai_ t.out a p131 y
   obtain rfl : m = Z := (by injection aj)
   replace r := hx_ HB r
   replace p131 := et_ p131
   replace y := et_ y
   have p132 : 0 ≤ (a : Int) := dq_
   have aa : a < (l.length : Int) := dq_
   obtain ⟨aM, a2, A⟩ := ai_ t.out a p132 aa
   obtain rfl : m = aM := (by injection a2)
   replace A := hx_ HB A
   replace p132 := et_ p132
   replace aa := et_ aa
   have p133 : 0 ≤ (a : Int) := dq_
   have ab : a < (l.length : Int) := dq_
   obtain ⟨aN, a3, B⟩ := ai_ t.out a p133 ab
   obtain rfl : m = aN := (by injection a3)
   replace B := hx_ HB B
   replace p133 := et_ p133
   replace ab := et_ ab
   have p134 : 0 ≤ (a : Int) := dq_
   have az : a < (l.length : Int) := dq_
   obtain ⟨bk, bA, V⟩ := ai_ t.out a p134 az
   obtain rfl : m = bk := (by injection bA)
   replace V := hx_ HB V
   replace p134 := et_ p134
   replace az := et_ az
   go_wp2
   repeat (go_quiet (fail); try go_wp2)
   go_roundg k1
   case measure => have := F.out; omega
   exact ⟨(rd l a), (rd l a), (wrap64 (a + 1)), eq_, eq_, eq_, H', ⟨by have := F.out; omega⟩, ⟨bel_⟩⟩
  rw [ig_ c4] at H
  have c4b0 : decide (a < (l.length : Int)) = false := df_ c4
  clear c4
  by_cases c11 : (wrap64 (I - O)) ≥ 65536
  ·
   rw [ip_ c11] at H
   exact ab_ H
  rw [ig_ c11] at H
  have c11b0 : decide (65536 ≤ (wrap64 (I - O))) = false := df_ c11
  clear c11
  have H' := a_ H
  clear H
  go_wp2
  repeat (go_quiet (fail); try go_wp2)
  go_loopg [7, 8] k1 (fun kq v7 v8 w' => ∃ (g : List Int) (d : Int), v8 = .int .i64 d ∧ Aside0 (jigsawref02_Of.l1 kq l g d = some (r1, r2)) ∧ Aside0 (kq ≤ k1) ∧ Aside0 (Kd.R (Kd.int .i64) 3 w' w.heap.size (fun _ => True) v7 g) ∧ Aside0 (Below w.heap.size w w'))
  case atStart => exact ⟨(([] : List Int)), (0), eq_, H', ⟨lr_ _⟩, ⟨nil_⟩, ⟨bel_⟩⟩
  clear H'
  try clear c1
  try clear p1
  try clear q1
  try clear bu
  try clear bv
  try clear c2
  try clear c2b0
  try clear c2b1
  try clear c2b2
  try clear p2
  try clear c3
  try clear c3b0
  try clear c3b1
  try clear c4
  try clear c4b0
  try clear c5
  try clear c5b0
  try clear c6
  try clear c6b0
  try clear p6
  try clear c7
  try clear c7b0
  try clear c8
  try clear c8b0
  try clear c9
  try clear c9b0
  try clear c10
  try clear c10b0
  try clear c11
  try clear c11b0
  try clear Q
  try clear U
  try clear p
  try clear q
  try clear r
  try clear A
  try clear B
  try clear V
  try clear E
  try clear W
  try clear p1
  try clear p127
  try clear p128
  try clear p129
  try clear p130
  try clear p131
  try clear p132
  try clear p133
  try clear p134
  try clear p135
  try clear p136
  try clear p2
  try clear q1
  try clear av
  try clear aw
  try clear v
  try clear x
  try clear y
  try clear aa
  try clear ab
  try clear az
  try clear ac
  try clear aA
  obtain ⟨g, d, rfl, HA, ae, HO_7, HB⟩ := hrel
  cases gk with
  | zero => exact absurd HA.out (by simp [jigsawref02_Of.l1])
  | succ k2 =>
   have H := HA.out
   clear HA
   simp only [jigsawref02_Of.l1] at H
   by_cases c12 : d < (l.length : Int)
   rotate_left
   ·
    rw [ig_ c12] at H
    have c12b0 : decide (d < (l.length : Int)) = false := df_ c12
    clear c12
    simp only [Option.some.injEq, Prod.mk.injEq] at H
    obtain ⟨rfl, rfl⟩ := H
    go_wp2
    repeat (go_quiet (fail); try go_wp2)
    go_ret2
    exact ⟨_, er_, vR_ HO_7.out, bel_⟩
   rw [ip_ c12] at H
   have c12b0 : decide (d < (l.length : Int)) = true := dt_ c12
   clear c12
   by_cases c13 : 0 ≤ d
   rotate_left
   ·
    rw [ig_ c13] at H
    exact ab_ H
   rw [ip_ c13] at H
   have c13b0 : decide (0 ≤ d) = true := dt_ c13
   clear c13
   replace H := bo_ H
   obtain ⟨bC, aI, H⟩ := H
   try dsimp only at H
   by_cases c15 : bC = true
   ·
    subst c15
    rw [ip_ rfl] at H
    have H' := a_ H
    clear H
    have p137 : 0 ≤ (d : Int) := dq_
    have af : d < (l.length : Int) := dq_
    obtain ⟨aR, a5, G⟩ := ai_ t.out d p137 af
    obtain rfl : m = aR := (by injection a5)
    replace G := hx_ HB G
    replace p137 := et_ p137
    replace af := et_ af
    obtain ⟨bV, bW, bD⟩ := Kd.R_slice HO_7.out
    subst bD
    go_wp2_with (first | (go_at_call 70; (with_reducible refine (jigsawref02_Has.calls k2 _ _ g (rd l d) true _ ?_ ?_ aI.out).mono ?_); exact ca_ ((rr_ HO_7.out).2.2); exact (rr_ HO_7.out).2.1; rintro e w' ⟨rfl, ⟨nd, rfl⟩⟩; (try first | exact ⟨rfl, _, World.drewN_drewN _ _ _⟩ | exact ⟨rfl, _, Eq.trans (World.drewN_drewN _ _ _) (congrArg (World.drewN _) (Nat.add_assoc _ _ _))⟩)))
    repeat (go_quiet (first | (go_at_call 70; (with_reducible refine (jigsawref02_Has.calls k2 _ _ g (rd l d) true _ ?_ ?_ aI.out).mono ?_); exact ca_ ((rr_ HO_7.out).2.2); exact (rr_ HO_7.out).2.1; rintro e w' ⟨rfl, ⟨nd, rfl⟩⟩; (try first | exact ⟨rfl, _, World.drewN_drewN _ _ _⟩ | exact ⟨rfl, _, Eq.trans (World.drewN_drewN _ _ _) (congrArg (World.drewN _) (Nat.add_assoc _ _ _))⟩))); try go_wp2_with (first | (go_at_call 70; (with_reducible refine (jigsawref02_Has.calls k2 _ _ g (rd l d) true _ ?_ ?_ aI.out).mono ?_); exact ca_ ((rr_ HO_7.out).2.2); exact (rr_ HO_7.out).2.1; rintro e w' ⟨rfl, ⟨nd, rfl⟩⟩; (try first | exact ⟨rfl, _, World.drewN_drewN _ _ _⟩ | exact ⟨rfl, _, Eq.trans (World.drewN_drewN _ _ _) (congrArg (World.drewN _) (Nat.add_assoc _ _ _))⟩))))
    go_roundg k2
    case measure => have := F.out; have := ae.out; omega
    exact ⟨(g), (wrap64 (d + 1)), eq_, H', ⟨by have := F.out; have := ae.out; omega⟩, ⟨vR_ HO_7.out⟩, ⟨bel_⟩⟩
   replace c15 := bf_.mpr c15
   subst c15
   have H1 : (jigsawref02_Of.l2 k2 l g d ([] : List Int) false 0) = some (r1, r2) := by rw [ig_ (show ¬ (false = true) by decide)] at H; exact H
   clear H
   have H := H1
   clear H1
   have H' := a_ H
   clear H
   have p137 : 0 ≤ (d : Int) := dq_
   have af : d < (l.length : Int) := dq_
   obtain ⟨aR, a5, G⟩ := ai_ t.out d p137 af
   obtain rfl : m = aR := (by injection a5)
   replace G := hx_ HB G
   replace p137 := et_ p137
   replace af := et_ af
   obtain ⟨aC, z, bE⟩ := Kd.R_slice HO_7.out
   subst bE
   go_wp2_with (first | (go_at_call 70; (with_reducible refine (jigsawref02_Has.calls k2 _ _ g (rd l d) false _ ?_ ?_ aI.out).mono ?_); exact ca_ ((rr_ HO_7.out).2.2); exact (rr_ HO_7.out).2.1; rintro e w' ⟨rfl, ⟨nd, rfl⟩⟩; (try first | exact ⟨rfl, _, World.drewN_drewN _ _ _⟩ | exact ⟨rfl, _, Eq.trans (World.drewN_drewN _ _ _) (congrArg (World.drewN _) (Nat.add_assoc _ _ _))⟩)))
   repeat (go_quiet (first | (go_at_call 70; (with_reducible refine (jigsawref02_Has.calls k2 _ _ g (rd l d) false _ ?_ ?_ aI.out).mono ?_); exact ca_ ((rr_ HO_7.out).2.2); exact (rr_ HO_7.out).2.1; rintro e w' ⟨rfl, ⟨nd, rfl⟩⟩; (try first | exact ⟨rfl, _, World.drewN_drewN _ _ _⟩ | exact ⟨rfl, _, Eq.trans (World.drewN_drewN _ _ _) (congrArg (World.drewN _) (Nat.add_assoc _ _ _))⟩))); try go_wp2_with (first | (go_at_call 70; (with_reducible refine (jigsawref02_Has.calls k2 _ _ g (rd l d) false _ ?_ ?_ aI.out).mono ?_); exact ca_ ((rr_ HO_7.out).2.2); exact (rr_ HO_7.out).2.1; rintro e w' ⟨rfl, ⟨nd, rfl⟩⟩; (try first | exact ⟨rfl, _, World.drewN_drewN _ _ _⟩ | exact ⟨rfl, _, Eq.trans (World.drewN_drewN _ _ _) (congrArg (World.drewN _) (Nat.add_assoc _ _ _))⟩))))
   go_loopg [10, 11, 12] k2 (fun kq bw bM bN w' => ∃ (n : List Int) (ad : Bool) (c : Int), bM = .bool ad ∧ bN = .int .i64 c ∧ Aside0 (jigsawref02_Of.l2 kq l g d n ad c = some (r1, r2)) ∧ Aside0 (kq ≤ k2) ∧ Aside0 (Kd.R (Kd.int .i64) 3 w' w.heap.size (fun o => some o ≠ bw.ownBlock) (.slice aC g.length z) g) ∧ Aside0 (Kd.R (Kd.int .i64) 3 w' w.heap.size (fun o => some o ≠ ((.slice aC g.length z) : Value).ownBlock) bw n) ∧ Aside0 (Below w.heap.size w w'))
   case atStart => exact ⟨(([] : List Int)), (false), (0), eq_, eq_, H', ⟨lr_ _⟩, ⟨by refine vR_ ?_; exact rm_ HO_7.out (fun _ hk => (by simp [Value.ownBlock]))⟩, ⟨nil_⟩, ⟨bel_⟩⟩
   clear H'
   try clear c1
   try clear p1
   try clear q1
   try clear bu
   try clear bv
   try clear c2
   try clear c2b0
   try clear c2b1
   try clear c2b2
   try clear p2
   try clear c3
   try clear c3b0
   try clear c3b1
   try clear c4
   try clear c4b0
   try clear c5
   try clear c5b0
   try clear c6
   try clear c6b0
   try clear p6
   try clear c7
   try clear c7b0
   try clear c8
   try clear c8b0
   try clear c9
   try clear c9b0
   try clear c10
   try clear c10b0
   try clear c11
   try clear c11b0
   try clear c12
   try clear c12b0
   try clear p12
   try clear b1
   try clear bX
   try clear bY
   try clear c13
   try clear c13b0
   try clear p13
   try clear b2
   try clear bZ
   try clear c15
   try clear Q
   try clear U
   try clear p
   try clear q
   try clear r
   try clear A
   try clear B
   try clear V
   try clear E
   try clear W
   try clear G
   try clear p1
   try clear p127
   try clear p128
   try clear p129
   try clear p130
   try clear p131
   try clear p132
   try clear p133
   try clear p134
   try clear p135
   try clear p136
   try clear p137
   try clear p2
   try clear p6
   try clear q1
   try clear av
   try clear aw
   try clear v
   try clear x
   try clear y
   try clear aa
   try clear ab
   try clear az
   try clear ac
   try clear aA
   try clear af
   obtain ⟨n, ad, c, rfl, rfl, HA, ag, HO_7, HO_10, HB⟩ := hrel
   cases gk with
   | zero => exact absurd HA.out (by simp [jigsawref02_Of.l2])
   | succ k3 =>
    have H := HA.out
    clear HA
    simp only [jigsawref02_Of.l2] at H
    by_cases c18 : c < (g.length : Int)
    rotate_left
    ·
     rw [ig_ c18] at H
     have c18b0 : decide (c < (g.length : Int)) = false := df_ c18
     clear c18
     by_cases c32 : ad = true
     ·
      subst c32
      rw [ip_ rfl] at H
      have H' := a_ H
      clear H
      go_wp2
      repeat (go_quiet (fail); try go_wp2)
      go_roundg k3
      case measure => have := F.out; have := ae.out; have := ag.out; omega
      exact ⟨(n), (wrap64 (d + 1)), eq_, H', ⟨by have := F.out; have := ae.out; have := ag.out; omega⟩, ⟨by refine vR_ ?_; exact rm_ HO_10.out (fun _ hk => trivial)⟩, ⟨bel_⟩⟩
     replace c32 := bf_.mpr c32
     subst c32
     have H1 : (if 0 ≤ d then (if d < (l.length : Int) then (if n.length < 17592186044416 then (jigsawref02_Of.l1 k3 l (n ++ [rd l d]) (wrap64 (d + 1))) else (none)) else (none)) else (none)) = some (r1, r2) := by rw [ig_ (show ¬ (false = true) by decide)] at H; exact H
     clear H
     have H := H1
     clear H1
     by_cases c33 : 0 ≤ d
     rotate_left
     ·
      rw [ig_ c33] at H
      exact ab_ H
     rw [ip_ c33] at H
     have c33b0 : decide (0 ≤ d) = true := dt_ c33
     clear c33
     by_cases c34 : d < (l.length : Int)
     rotate_left
     ·
      rw [ig_ c34] at H
      exact ab_ H
     rw [ip_ c34] at H
     have c34b0 : decide (d < (l.length : Int)) = true := dt_ c34
     clear c34
     by_cases c35 : n.length < 17592186044416
     rotate_left
     ·
      rw [ig_ c35] at H
      exact ab_ H
     rw [ip_ c35] at H
     have LMc35 := a_ c35
     clear c35
     obtain ⟨bg, aq⟩ : ∃ y_ : List Int, y_ = (n ++ [rd l d]) := ⟨_, rfl⟩
     replace H : (jigsawref02_Of.l1 k3 l bg (wrap64 (d + 1))) = some (r1, r2) := h2_ H aq
     have a0 := a_ aq
     clear aq
     have H' := a_ H
     clear H
     have p157 : 0 ≤ (d : Int) := dq_
     have a9 : d < (l.length : Int) := dq_
     obtain ⟨bp, bI, ay⟩ := ai_ t.out d p157 a9
     obtain rfl : m = bp := (by injection bI)
     replace ay := hx_ HB ay
     replace p157 := et_ p157
     replace a9 := et_ a9
     go_wp2_with (first | ((with_reducible refine gate_builtin (b := .append) (xs := #[.tmp 112, .tmp 117]) rfl ?_); at_builtin; refine Kd.R_append (Kd.int .i64) (w0 := w) w.heap.size rfl (.tmp 112) (.tmp 117) 30 3 (.int .i64 0) 8 rfl Tryz.underlying30 info3 rfl (by decide) (by omega) u10 n (rd l d) [.int .i64 (rd l d)] (fun o => some o ≠ (.slice aC g.length z : Value).ownBlock) (fun _ => False) rfl rfl ?aP (fun _ hk => hk.elim) ?aF ?aO ?aB ?aS ?aL ?_; (case aP => exact rfl); (case aB => exact bel_); (case aF => exact (fun o hk => fr_ (rl_ (vR_ HO_7.out)) o hk)); (case aO => exact (vR_ HO_10.out)); (case aS => exact (bz_ bel_)); (case aL => have := LMc35.out; omega); intro bh w36 ho hb hg hat; rw [← a0.out] at ho; replace HO_7 := a_ (Kd.R_after (ok := (fun _ => True)) (by refine vR_ ?_; exact rm_ HO_7.out (fun _ hk => ⟨trivial, hk⟩)) hg hat); replace HB := a_ (hb); have a1 := a_ (ho); clear HO_10; clear ho hb hg hat))
     repeat (go_quiet (first | ((with_reducible refine gate_builtin (b := .append) (xs := #[.tmp 112, .tmp 117]) rfl ?_); at_builtin; refine Kd.R_append (Kd.int .i64) (w0 := w) w.heap.size rfl (.tmp 112) (.tmp 117) 30 3 (.int .i64 0) 8 rfl Tryz.underlying30 info3 rfl (by decide) (by omega) u10 n (rd l d) [.int .i64 (rd l d)] (fun o => some o ≠ (.slice aC g.length z : Value).ownBlock) (fun _ => False) rfl rfl ?aP (fun _ hk => hk.elim) ?aF ?aO ?aB ?aS ?aL ?_; (case aP => exact rfl); (case aB => exact bel_); (case aF => exact (fun o hk => fr_ (rl_ (vR_ HO_7.out)) o hk)); (case aO => exact (vR_ HO_10.out)); (case aS => exact (bz_ bel_)); (case aL => have := LMc35.out; omega); intro bh w36 ho hb hg hat; rw [← a0.out] at ho; replace HO_7 := a_ (Kd.R_after (ok := (fun _ => True)) (by refine vR_ ?_; exact rm_ HO_7.out (fun _ hk => ⟨trivial, hk⟩)) hg hat); replace HB := a_ (hb); have a1 := a_ (ho); clear HO_10; clear ho hb hg hat)); try go_wp2_with (first | ((with_reducible refine gate_builtin (b := .append) (xs := #[.tmp 112, .tmp 117]) rfl ?_); at_builtin; refine Kd.R_append (Kd.int .i64) (w0 := w) w.heap.size rfl (.tmp 112) (.tmp 117) 30 3 (.int .i64 0) 8 rfl Tryz.underlying30 info3 rfl (by decide) (by omega) u10 n (rd l d) [.int .i64 (rd l d)] (fun o => some o ≠ (.slice aC g.length z : Value).ownBlock) (fun _ => False) rfl rfl ?aP (fun _ hk => hk.elim) ?aF ?aO ?aB ?aS ?aL ?_; (case aP => exact rfl); (case aB => exact bel_); (case aF => exact (fun o hk => fr_ (rl_ (vR_ HO_7.out)) o hk)); (case aO => exact (vR_ HO_10.out)); (case aS => exact (bz_ bel_)); (case aL => have := LMc35.out; omega); intro bh w36 ho hb hg hat; rw [← a0.out] at ho; replace HB := a_ (hb); have a1 := a_ (ho); clear HO_10; clear ho hb hg hat)))
     go_roundg k3
     case measure => have := F.out; have := ae.out; have := ag.out; omega
     exact ⟨(bg), (wrap64 (d + 1)), eq_, H', ⟨by have := F.out; have := ae.out; have := ag.out; omega⟩, ⟨by refine vR_ ?_; exact rm_ a1.out (fun _ hk => trivial)⟩, ⟨bel_⟩⟩
    rw [ip_ c18] at H
    have c18b0 : decide (c < (g.length : Int)) = true := dt_ c18
    clear c18
    by_cases c19 : 0 ≤ c
    rotate_left
    ·
     rw [ig_ c19] at H
     exact ab_ H
    rw [ip_ c19] at H
    have c19b0 : decide (0 ≤ c) = true := dt_ c19
    clear c19
    by_cases c20 : 0 ≤ d
    rotate_left
    ·
     rw [ig_ c20] at H
     exact ab_ H
    rw [ip_ c20] at H
    have c20b0 : decide (0 ≤ d) = true := dt_ c20
    clear c20
    by_cases c21 : d < (l.length : Int)
    rotate_left
    ·
     rw [ig_ c21] at H
     exact ab_ H
    rw [ip_ c21] at H
    have c21b0 : decide (d < (l.length : Int)) = true := dt_ c21
    clear c21
    by_cases c22 : (rd g c) > (rd l d)
    rotate_left
    ·
     rw [ig_ c22] at H
     have c22b0 : decide ((rd l d) < (rd g c)) = false := df_ c22
     clear c22
     by_cases c30 : n.length < 17592186044416
     rotate_left
     ·
      rw [ig_ c30] at H
      exact ab_ H
     rw [ip_ c30] at H
     have LMc30 := a_ c30
     clear c30
     obtain ⟨be, ap⟩ : ∃ y_ : List Int, y_ = (n ++ [rd g c]) := ⟨_, rfl⟩
     replace H : (jigsawref02_Of.l2 k3 l g d be ad (wrap64 (c + 1))) = some (r1, r2) := h2_ H ap
     have aY := a_ ap
     clear ap
     have H' := a_ H
     clear H
     have p139 : 0 ≤ (c : Int) := dq_
     have J : c < (g.length : Int) := dq_
     obtain ⟨s, aD, aJ⟩ := ai_ (rr_ HO_7.out).2.2 c p139 J
     cases aD
     replace p139 := et_ p139
     replace J := et_ J
     have p140 : 0 ≤ (d : Int) := dq_
     have K : d < (l.length : Int) := dq_
     obtain ⟨al, aE, u⟩ := ai_ t.out d p140 K
     obtain rfl : m = al := (by injection aE)
     replace u := hx_ HB u
     replace p140 := et_ p140
     replace K := et_ K
     have p153 : 0 ≤ (c : Int) := dq_
     have a8 : c < (g.length : Int) := dq_
     obtain ⟨bo, bH, bK⟩ := ai_ (rr_ HO_7.out).2.2 c p153 a8
     obtain rfl : s = bo := (by injection bH)
     replace p153 := et_ p153
     replace a8 := et_ a8
     go_wp2_with (first | ((with_reducible refine gate_builtin (b := .append) (xs := #[.tmp 103, .tmp 108]) rfl ?_); at_builtin; refine Kd.R_append (Kd.int .i64) (w0 := w) w.heap.size rfl (.tmp 103) (.tmp 108) 30 3 (.int .i64 0) 8 rfl Tryz.underlying30 info3 rfl (by decide) (by omega) u10 n (rd g c) [.int .i64 (rd g c)] (fun o => some o ≠ (.slice (some s) g.length z : Value).ownBlock) (fun _ => False) rfl rfl ?aP (fun _ hk => hk.elim) ?aF ?aO ?aB ?aS ?aL ?_; (case aP => exact rfl); (case aB => exact bel_); (case aF => exact (fun o hk => fr_ (rl_ (vR_ HO_7.out)) o hk)); (case aO => exact (vR_ HO_10.out)); (case aS => exact (bz_ bel_)); (case aL => have := LMc30.out; omega); intro bf w31 ho hb hg hat; rw [← aY.out] at ho; replace HO_7 := a_ (Kd.R_after (ok := (fun _ => True)) (by refine vR_ ?_; exact rm_ HO_7.out (fun _ hk => ⟨trivial, hk⟩)) hg hat); replace HB := a_ (hb); have aZ := a_ (ho); clear HO_10; clear ho hb hg hat))
     repeat (go_quiet (first | ((with_reducible refine gate_builtin (b := .append) (xs := #[.tmp 103, .tmp 108]) rfl ?_); at_builtin; refine Kd.R_append (Kd.int .i64) (w0 := w) w.heap.size rfl (.tmp 103) (.tmp 108) 30 3 (.int .i64 0) 8 rfl Tryz.underlying30 info3 rfl (by decide) (by omega) u10 n (rd g c) [.int .i64 (rd g c)] (fun o => some o ≠ (.slice (some s) g.length z : Value).ownBlock) (fun _ => False) rfl rfl ?aP (fun _ hk => hk.elim) ?aF ?aO ?aB ?aS ?aL ?_; (case aP => exact rfl); (case aB => exact bel_); (case aF => exact (fun o hk => fr_ (rl_ (vR_ HO_7.out)) o hk)); (case aO => exact (vR_ HO_10.out)); (case aS => exact (bz_ bel_)); (case aL => have := LMc30.out; omega); intro bf w31 ho hb hg hat; rw [← aY.out] at ho; replace HO_7 := a_ (Kd.R_after (ok := (fun _ => True)) (by refine vR_ ?_; exact rm_ HO_7.out (fun _ hk => ⟨trivial, hk⟩)) hg hat); replace HB := a_ (hb); have aZ := a_ (ho); clear HO_10; clear ho hb hg hat)); try go_wp2_with (first | ((with_reducible refine gate_builtin (b := .append) (xs := #[.tmp 103, .tmp 108]) rfl ?_); at_builtin; refine Kd.R_append (Kd.int .i64) (w0 := w) w.heap.size rfl (.tmp 103) (.tmp 108) 30 3 (.int .i64 0) 8 rfl Tryz.underlying30 info3 rfl (by decide) (by omega) u10 n (rd g c) [.int .i64 (rd g c)] (fun o => some o ≠ (.slice (some s) g.length z : Value).ownBlock) (fun _ => False) rfl rfl ?aP (fun _ hk => hk.elim) ?aF ?aO ?aB ?aS ?aL ?_; (case aP => exact rfl); (case aB => exact bel_); (case aF => exact (fun o hk => fr_ (rl_ (vR_ HO_7.out)) o hk)); (case aO => exact (vR_ HO_10.out)); (case aS => exact (bz_ bel_)); (case aL => have := LMc30.out; omega); intro bf w31 ho hb hg hat; rw [← aY.out] at ho; replace HO_7 := a_ (Kd.R_after (ok := (fun _ => True)) (by refine vR_ ?_; exact rm_ HO_7.out (fun _ hk => ⟨trivial, hk⟩)) hg hat); replace HB := a_ (hb); have aZ := a_ (ho); clear HO_10; clear ho hb hg hat)))
     go_roundg k3
     case measure => have := F.out; have := ae.out; have := ag.out; omega
     exact ⟨(be), (ad), (wrap64 (c + 1)), eq_, eq_, H', ⟨by have := F.out; have := ae.out; have := ag.out; omega⟩, ⟨by refine vR_ ?_; exact rm_ HO_7.out (fun _ hk => hk.2)⟩, ⟨vR_ aZ.out⟩, ⟨bel_⟩⟩
    rw [ip_ c22] at H
    have c22b0 : decide ((rd l d) < (rd g c)) = true := dt_ c22
    clear c22
    by_cases c23 : ad = true
    ·
     subst c23
     rw [ip_ rfl] at H
     by_cases c24 : n.length < 17592186044416
     rotate_left
     ·
      rw [ig_ c24] at H
      exact ab_ H
     rw [ip_ c24] at H
     have LMc24 := a_ c24
     clear c24
     obtain ⟨ba, ak⟩ : ∃ y_ : List Int, y_ = (n ++ [rd g c]) := ⟨_, rfl⟩
     replace H : (jigsawref02_Of.l2 k3 l g d ba true (wrap64 (c + 1))) = some (r1, r2) := h2_ H ak
     have aT := a_ ak
     clear ak
     have H' := a_ H
     clear H
     have p139 : 0 ≤ (c : Int) := dq_
     have J : c < (g.length : Int) := dq_
     obtain ⟨s, aD, aJ⟩ := ai_ (rr_ HO_7.out).2.2 c p139 J
     cases aD
     replace p139 := et_ p139
     replace J := et_ J
     have p140 : 0 ≤ (d : Int) := dq_
     have K : d < (l.length : Int) := dq_
     obtain ⟨al, aE, u⟩ := ai_ t.out d p140 K
     obtain rfl : m = al := (by injection aE)
     replace u := hx_ HB u
     replace p140 := et_ p140
     replace K := et_ K
     have p141 : 0 ≤ (c : Int) := dq_
     have a6 : c < (g.length : Int) := dq_
     obtain ⟨bm, bF, bJ⟩ := ai_ (rr_ HO_7.out).2.2 c p141 a6
     obtain rfl : s = bm := (by injection bF)
     replace p141 := et_ p141
     replace a6 := et_ a6
     go_wp2_with (first | ((with_reducible refine gate_builtin (b := .append) (xs := #[.tmp 103, .tmp 108]) rfl ?_); at_builtin; refine Kd.R_append (Kd.int .i64) (w0 := w) w.heap.size rfl (.tmp 103) (.tmp 108) 30 3 (.int .i64 0) 8 rfl Tryz.underlying30 info3 rfl (by decide) (by omega) u10 n (rd g c) [.int .i64 (rd g c)] (fun o => some o ≠ (.slice (some s) g.length z : Value).ownBlock) (fun _ => False) rfl rfl ?aP (fun _ hk => hk.elim) ?aF ?aO ?aB ?aS ?aL ?_; (case aP => exact rfl); (case aB => exact bel_); (case aF => exact (fun o hk => fr_ (rl_ (vR_ HO_7.out)) o hk)); (case aO => exact (vR_ HO_10.out)); (case aS => exact (bz_ bel_)); (case aL => have := LMc24.out; omega); intro bb w25 ho hb hg hat; rw [← aT.out] at ho; replace HO_7 := a_ (Kd.R_after (ok := (fun _ => True)) (by refine vR_ ?_; exact rm_ HO_7.out (fun _ hk => ⟨trivial, hk⟩)) hg hat); replace HB := a_ (hb); have aU := a_ (ho); clear HO_10; clear ho hb hg hat))
     repeat (go_quiet (first | ((with_reducible refine gate_builtin (b := .append) (xs := #[.tmp 103, .tmp 108]) rfl ?_); at_builtin; refine Kd.R_append (Kd.int .i64) (w0 := w) w.heap.size rfl (.tmp 103) (.tmp 108) 30 3 (.int .i64 0) 8 rfl Tryz.underlying30 info3 rfl (by decide) (by omega) u10 n (rd g c) [.int .i64 (rd g c)] (fun o => some o ≠ (.slice (some s) g.length z : Value).ownBlock) (fun _ => False) rfl rfl ?aP (fun _ hk => hk.elim) ?aF ?aO ?aB ?aS ?aL ?_; (case aP => exact rfl); (case aB => exact bel_); (case aF => exact (fun o hk => fr_ (rl_ (vR_ HO_7.out)) o hk)); (case aO => exact (vR_ HO_10.out)); (case aS => exact (bz_ bel_)); (case aL => have := LMc24.out; omega); intro bb w25 ho hb hg hat; rw [← aT.out] at ho; replace HO_7 := a_ (Kd.R_after (ok := (fun _ => True)) (by refine vR_ ?_; exact rm_ HO_7.out (fun _ hk => ⟨trivial, hk⟩)) hg hat); replace HB := a_ (hb); have aU := a_ (ho); clear HO_10; clear ho hb hg hat)); try go_wp2_with (first | ((with_reducible refine gate_builtin (b := .append) (xs := #[.tmp 103, .tmp 108]) rfl ?_); at_builtin; refine Kd.R_append (Kd.int .i64) (w0 := w) w.heap.size rfl (.tmp 103) (.tmp 108) 30 3 (.int .i64 0) 8 rfl Tryz.underlying30 info3 rfl (by decide) (by omega) u10 n (rd g c) [.int .i64 (rd g c)] (fun o => some o ≠ (.slice (some s) g.length z : Value).ownBlock) (fun _ => False) rfl rfl ?aP (fun _ hk => hk.elim) ?aF ?aO ?aB ?aS ?aL ?_; (case aP => exact rfl); (case aB => exact bel_); (case aF => exact (fun o hk => fr_ (rl_ (vR_ HO_7.out)) o hk)); (case aO => exact (vR_ HO_10.out)); (case aS => exact (bz_ bel_)); (case aL => have := LMc24.out; omega); intro bb w25 ho hb hg hat; rw [← aT.out] at ho; replace HO_7 := a_ (Kd.R_after (ok := (fun _ => True)) (by refine vR_ ?_; exact rm_ HO_7.out (fun _ hk => ⟨trivial, hk⟩)) hg hat); replace HB := a_ (hb); have aU := a_ (ho); clear HO_10; clear ho hb hg hat)))
     go_roundg k3
     case measure => have := F.out; have := ae.out; have := ag.out; omega
     exact ⟨(ba), (true), (wrap64 (c + 1)), eq_, eq_, H', ⟨by have := F.out; have := ae.out; have := ag.out; omega⟩, ⟨by refine vR_ ?_; exact rm_ HO_7.out (fun _ hk => hk.2)⟩, ⟨vR_ aU.out⟩, ⟨bel_⟩⟩
    replace c23 := bf_.mpr c23
    subst c23
    have H1 : (if n.length < 17592186044416 then ((some (n ++ [rd l d] : List Int)).bind fun P => (if P.length < 17592186044416 then (jigsawref02_Of.l2 k3 l g d (P ++ [rd g c]) true (wrap64 (c + 1))) else (none))) else (none)) = some (r1, r2) := by rw [ig_ (show ¬ (false = true) by decide)] at H; exact H
    clear H
    have H := H1
    clear H1
    by_cases c26 : n.length < 17592186044416
    rotate_left
    ·
     rw [ig_ c26] at H
     exact ab_ H
    rw [ip_ c26] at H
    have LMc26 := a_ c26
    clear c26
    obtain ⟨P, am⟩ : ∃ y_ : List Int, y_ = (n ++ [rd l d]) := ⟨_, rfl⟩
    replace H : (if P.length < 17592186044416 then (jigsawref02_Of.l2 k3 l g d (P ++ [rd g c]) true (wrap64 (c + 1))) else (none)) = some (r1, r2) := h2_ H am
    have aV := a_ am
    clear am
    by_cases c27 : P.length < 17592186044416
    rotate_left
    ·
     rw [ig_ c27] at H
     exact ab_ H
    rw [ip_ c27] at H
    have LMc27 := a_ c27
    clear c27
    obtain ⟨bc, an⟩ : ∃ y_ : List Int, y_ = (P ++ [rd g c]) := ⟨_, rfl⟩
    replace H : (jigsawref02_Of.l2 k3 l g d bc true (wrap64 (c + 1))) = some (r1, r2) := h2_ H an
    have aW := a_ an
    clear an
    have H' := a_ H
    clear H
    have p139 : 0 ≤ (c : Int) := dq_
    have J : c < (g.length : Int) := dq_
    obtain ⟨s, aD, aJ⟩ := ai_ (rr_ HO_7.out).2.2 c p139 J
    cases aD
    replace p139 := et_ p139
    replace J := et_ J
    have p140 : 0 ≤ (d : Int) := dq_
    have K : d < (l.length : Int) := dq_
    obtain ⟨al, aE, u⟩ := ai_ t.out d p140 K
    obtain rfl : m = al := (by injection aE)
    replace u := hx_ HB u
    replace p140 := et_ p140
    replace K := et_ K
    have p145 : 0 ≤ (d : Int) := dq_
    have a7 : d < (l.length : Int) := dq_
    obtain ⟨bn, bG, ax⟩ := ai_ t.out d p145 a7
    obtain rfl : m = bn := (by injection bG)
    replace ax := hx_ HB ax
    replace p145 := et_ p145
    replace a7 := et_ a7
    go_wp2_with (first | ((with_reducible refine gate_builtin (b := .append) (xs := #[.tmp 96, .tmp 101]) rfl ?_); at_builtin; refine Kd.R_append (Kd.int .i64) (w0 := w) w.heap.size rfl (.tmp 96) (.tmp 101) 30 3 (.int .i64 0) 8 rfl Tryz.underlying30 info3 rfl (by decide) (by omega) u10 n (rd l d) [.int .i64 (rd l d)] (fun o => some o ≠ (.slice (some s) g.length z : Value).ownBlock) (fun _ => False) rfl rfl ?aP (fun _ hk => hk.elim) ?aF ?aO ?aB ?aS ?aL ?_; (case aP => exact rfl); (case aB => exact bel_); (case aF => exact (fun o hk => fr_ (rl_ (vR_ HO_7.out)) o hk)); (case aO => exact (vR_ HO_10.out)); (case aS => exact (bz_ bel_)); (case aL => have := LMc26.out; omega); intro aG w28 ho hb hg hat; rw [← aV.out] at ho; replace HO_7 := a_ (Kd.R_after (ok := (fun _ => True)) (by refine vR_ ?_; exact rm_ HO_7.out (fun _ hk => ⟨trivial, hk⟩)) hg hat); replace HB := a_ (hb); have N := a_ (ho); clear HO_10; clear ho hb hg hat; have p149 : 0 ≤ (c : Int) := dq_; have M : c < (g.length : Int) := dq_; obtain ⟨ao, aH, aK⟩ := ai_ (rr_ HO_7.out).2.2 c p149 M; obtain rfl : s = ao := (by injection aH); replace p149 := et_ p149; replace M := et_ M) | ((with_reducible refine gate_builtin (b := .append) (xs := #[.tmp 103, .tmp 108]) rfl ?_); at_builtin; refine Kd.R_append (Kd.int .i64) (w0 := w) w.heap.size rfl (.tmp 103) (.tmp 108) 30 3 (.int .i64 0) 8 rfl Tryz.underlying30 info3 rfl (by decide) (by omega) aG P (rd g c) [.int .i64 (rd g c)] (fun o => some o ≠ (.slice (some s) g.length z : Value).ownBlock) (fun _ => False) rfl rfl ?aP (fun _ hk => hk.elim) ?aF ?aO ?aB ?aS ?aL ?_; (case aP => exact rfl); (case aB => exact bel_); (case aF => exact (fun o hk => fr_ (rl_ (vR_ HO_7.out)) o hk)); (case aO => exact (vR_ N.out)); (case aS => exact (bz_ bel_)); (case aL => have := LMc27.out; omega); intro bd w29 ho hb hg hat; rw [← aW.out] at ho; replace HO_7 := a_ (Kd.R_after (ok := (fun _ => True)) (vR_ HO_7.out) hg hat); replace HB := a_ (hb); have aX := a_ (ho); clear N; clear ho hb hg hat))
    repeat (go_quiet (first | ((with_reducible refine gate_builtin (b := .append) (xs := #[.tmp 96, .tmp 101]) rfl ?_); at_builtin; refine Kd.R_append (Kd.int .i64) (w0 := w) w.heap.size rfl (.tmp 96) (.tmp 101) 30 3 (.int .i64 0) 8 rfl Tryz.underlying30 info3 rfl (by decide) (by omega) u10 n (rd l d) [.int .i64 (rd l d)] (fun o => some o ≠ (.slice (some s) g.length z : Value).ownBlock) (fun _ => False) rfl rfl ?aP (fun _ hk => hk.elim) ?aF ?aO ?aB ?aS ?aL ?_; (case aP => exact rfl); (case aB => exact bel_); (case aF => exact (fun o hk => fr_ (rl_ (vR_ HO_7.out)) o hk)); (case aO => exact (vR_ HO_10.out)); (case aS => exact (bz_ bel_)); (case aL => have := LMc26.out; omega); intro aG w28 ho hb hg hat; rw [← aV.out] at ho; replace HO_7 := a_ (Kd.R_after (ok := (fun _ => True)) (by refine vR_ ?_; exact rm_ HO_7.out (fun _ hk => ⟨trivial, hk⟩)) hg hat); replace HB := a_ (hb); have N := a_ (ho); clear HO_10; clear ho hb hg hat; have p149 : 0 ≤ (c : Int) := dq_; have M : c < (g.length : Int) := dq_; obtain ⟨ao, aH, aK⟩ := ai_ (rr_ HO_7.out).2.2 c p149 M; obtain rfl : s = ao := (by injection aH); replace p149 := et_ p149; replace M := et_ M) | ((with_reducible refine gate_builtin (b := .append) (xs := #[.tmp 103, .tmp 108]) rfl ?_); at_builtin; refine Kd.R_append (Kd.int .i64) (w0 := w) w.heap.size rfl (.tmp 103) (.tmp 108) 30 3 (.int .i64 0) 8 rfl Tryz.underlying30 info3 rfl (by decide) (by omega) aG P (rd g c) [.int .i64 (rd g c)] (fun o => some o ≠ (.slice (some s) g.length z : Value).ownBlock) (fun _ => False) rfl rfl ?aP (fun _ hk => hk.elim) ?aF ?aO ?aB ?aS ?aL ?_; (case aP => exact rfl); (case aB => exact bel_); (case aF => exact (fun o hk => fr_ (rl_ (vR_ HO_7.out)) o hk)); (case aO => exact (vR_ N.out)); (case aS => exact (bz_ bel_)); (case aL => have := LMc27.out; omega); intro bd w29 ho hb hg hat; rw [← aW.out] at ho; replace HO_7 := a_ (Kd.R_after (ok := (fun _ => True)) (vR_ HO_7.out) hg hat); replace HB := a_ (hb); have aX := a_ (ho); clear N; clear ho hb hg hat)); try go_wp2_with (first | ((with_reducible refine gate_builtin (b := .append) (xs := #[.tmp 96, .tmp 101]) rfl ?_); at_builtin; refine Kd.R_append (Kd.int .i64) (w0 := w) w.heap.size rfl (.tmp 96) (.tmp 101) 30 3 (.int .i64 0) 8 rfl Tryz.underlying30 info3 rfl (by decide) (by omega) u10 n (rd l d) [.int .i64 (rd l d)] (fun o => some o ≠ (.slice (some s) g.length z : Value).ownBlock) (fun _ => False) rfl rfl ?aP (fun _ hk => hk.elim) ?aF ?aO ?aB ?aS ?aL ?_; (case aP => exact rfl); (case aB => exact bel_); (case aF => exact (fun o hk => fr_ (rl_ (vR_ HO_7.out)) o hk)); (case aO => exact (vR_ HO_10.out)); (case aS => exact (bz_ bel_)); (case aL => have := LMc26.out; omega); intro aG w28 ho hb hg hat; rw [← aV.out] at ho; replace HO_7 := a_ (Kd.R_after (ok := (fun _ => True)) (by refine vR_ ?_; exact rm_ HO_7.out (fun _ hk => ⟨trivial, hk⟩)) hg hat); replace HB := a_ (hb); have N := a_ (ho); clear HO_10; clear ho hb hg hat; have p149 : 0 ≤ (c : Int) := dq_; have M : c < (g.length : Int) := dq_; obtain ⟨ao, aH, aK⟩ := ai_ (rr_ HO_7.out).2.2 c p149 M; obtain rfl : s = ao := (by injection aH); replace p149 := et_ p149; replace M := et_ M) | ((with_reducible refine gate_builtin (b := .append) (xs := #[.tmp 103, .tmp 108]) rfl ?_); at_builtin; refine Kd.R_append (Kd.int .i64) (w0 := w) w.heap.size rfl (.tmp 103) (.tmp 108) 30 3 (.int .i64 0) 8 rfl Tryz.underlying30 info3 rfl (by decide) (by omega) aG P (rd g c) [.int .i64 (rd g c)] (fun o => some o ≠ (.slice (some s) g.length z : Value).ownBlock) (fun _ => False) rfl rfl ?aP (fun _ hk => hk.elim) ?aF ?aO ?aB ?aS ?aL ?_; (case aP => exact rfl); (case aB => exact bel_); (case aF => exact (fun o hk => fr_ (rl_ (vR_ HO_7.out)) o hk)); (case aO => exact (vR_ N.out)); (case aS => exact (bz_ bel_)); (case aL => have := LMc27.out; omega); intro bd w29 ho hb hg hat; rw [← aW.out] at ho; replace HO_7 := a_ (Kd.R_after (ok := (fun _ => True)) (vR_ HO_7.out) hg hat); replace HB := a_ (hb); have aX := a_ (ho); clear N; clear ho hb hg hat)))
    go_roundg k3
    case measure => have := F.out; have := ae.out; have := ag.out; omega
    exact ⟨(bc), (true), (wrap64 (c + 1)), eq_, eq_, H', ⟨by have := F.out; have := ae.out; have := ag.out; omega⟩, ⟨by refine vR_ ?_; exact rm_ HO_7.out (fun _ hk => hk.2)⟩, ⟨vR_ aX.out⟩, ⟨bel_⟩⟩

end Go.Proofs.YtckfbfdnlpnllaaGreatDoor.XAllDiffFilters
