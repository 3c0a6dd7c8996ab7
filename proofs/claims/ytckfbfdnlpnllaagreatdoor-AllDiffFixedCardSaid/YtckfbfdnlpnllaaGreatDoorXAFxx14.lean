-- by xprint.py, a program of this session, over the kit's print
import Derived.Test.YtckfbfdnlpnllaaGreatDoorXAFxx0
import Derived.Test.YtckfbfdnlpnllaaGreatDoorSq
namespace Go.Proofs.YtckfbfdnlpnllaaGreatDoor.XAllDiffFixed
open Go.RowKit Go.Proofs.YtckfbfdnlpnllaaGreatDoor.Sq Go.Proofs.YtckfbfdnlpnllaaGreatDoorW.PrintWords Go.Proofs.YtckfbfdnlpnllaaGreatDoorW.PrintLast Go.Proofs.YtckfbfdnlpnllaaGreatDoorW.PrintMore
attribute [local go_sem] max2_int min2_int max_two min_two max_three min_three max_four min_four   -- for this text's walks alone
set_option linter.unusedVariables false
set_option linter.unusedSimpArgs false

/-! ### jigsawref09_Holds: function 20 -/
mutual
def jigsawref09_Holds.l0 : Nat → List Int → Int → Int → List Int → List Int → List Int → List Int → List Int → Int → List (List Int) → Option (Bool)
 | 0, _, _, _, _, _, _, _, _, _, _ => none
 | k + 1, n, m, b, a, c, d, e, f, g, l => if m < (a.length : Int) then (jigsawref09_Holds.l1 k n m 0 b a c d e f g l) else (some true)
def jigsawref09_Holds.l1 : Nat → List Int → Int → Int → Int → List Int → List Int → List Int → List Int → List Int → Int → List (List Int) → Option (Bool)
 | 0, _, _, _, _, _, _, _, _, _, _, _ => none
 | k + 1, o, m, n, b, a, c, d, e, f, g, l => if n < m then (if 0 ≤ m then (if m < (a.length : Int) then (if 0 ≤ (rd a m) then (if (rd a m) < (o.length : Int) then (if 0 ≤ n then (if n < (a.length : Int) then (if 0 ≤ (rd a n) then (if (rd a n) < (o.length : Int) then (if (rd o (rd a m)) = (rd o (rd a n)) then (some false) else (jigsawref09_Holds.l1 k o m (wrap64 (n + 1)) b a c d e f g l)) else (none)) else (none)) else (none)) else (none)) else (none)) else (none)) else (none)) else (none)) else (jigsawref09_Holds.l0 k o (wrap64 (m + 1)) b a c d e f g l)
end
def jigsawref09_Holds.f (k : Nat) (a : Int) (b : List Int) (c : List Int) (d : List Int) (e : List Int) (g : List Int) (l : Int) (m : List (List Int)) (n : List Int) : Option (Bool) := if a ≤ 4 then (none) else (if a ≤ 11 then (none) else (if a ≤ 16 then (none) else (if a = 17 then (jigsawref09_Holds.l0 k n 0 a b c d e g l m) else (none))))
theorem jigsawref09_Holds.mono_l : ∀ k, (∀ a b c d e f g l m n, LeO (jigsawref09_Holds.l0 k a b c d e f g l m n) (jigsawref09_Holds.l0 (k + 1) a b c d e f g l m n)) ∧ (∀ a b c d e f g l m n o, LeO (jigsawref09_Holds.l1 k a b c d e f g l m n o) (jigsawref09_Holds.l1 (k + 1) a b c d e f g l m n o))
 | 0 => by refine ⟨?_, ?_⟩ <;> (intros; exact LeO.none _)
 | k + 1 => by
  obtain ⟨ih0, ih1⟩ := jigsawref09_Holds.mono_l k
  refine ⟨?_, ?_⟩ <;> intros
  all_goals first | unfold jigsawref09_Holds.l0 | unfold jigsawref09_Holds.l1
  all_goals exact leo_
theorem jigsawref09_Holds.mono : ∀ a b c d e g l m n k, LeO (jigsawref09_Holds.f k a b c d e g l m n) (jigsawref09_Holds.f (k + 1) a b c d e g l m n) := by
 intro a b c d e g l m n k
 obtain ⟨ih0, ih1⟩ := jigsawref09_Holds.mono_l k
 unfold jigsawref09_Holds.f
 exact leo_
set_option maxHeartbeats 8000000 in
set_option maxRecDepth 100000 in
theorem jigsawref09_Holds.calls (k : Nat) (g : Int) (A : Option Addr) (c0_1 : Nat) (a : List Int) (B : Option Addr) (c0_2 : Nat) (p : List Int) (E : Option Addr) (c0_3 : Nat) (q : List Int) (F : Option Addr) (c0_4 : Nat) (s : List Int) (G : Option Addr) (c0_5 : Nat) (u : List Int) (y : Int) (I : Option Addr) (c0_7 : Nat) (v : List (List Int)) (A1 : Option Addr) (c1 : Nat) (x : List Int) (r : Bool) (w : World) (ac : Kd.C (Kd.int .i64) w A a.length a) (ad : a.length ≤ c0_1) (an : Kd.C (Kd.int .i64) w B p.length p) (ae : p.length ≤ c0_2) (ao : Kd.C (Kd.int .i64) w E q.length q) (af : q.length ≤ c0_3) (ap : Kd.C (Kd.int .i64) w F s.length s) (ag : s.length ≤ c0_4) (aq : Kd.C (Kd.int .i64) w G u.length u) (ah : u.length ≤ c0_5) (ar : Kd.C (Kd.slice 3 (Kd.int .i64)) w I v.length v) (ai : v.length ≤ c0_7) (au : Kd.C (Kd.int .i64) w A1 x.length x) (av : x.length ≤ c1) (h : jigsawref09_Holds.f k g a p q s u y v x = some r) :
  Calls Tryz.prog 20 #[.agg #[.int .i64 g, .slice A a.length c0_1, .slice B p.length c0_2, .slice E q.length c0_3, .slice F s.length c0_4, .slice G u.length c0_5, .int .i64 y, .slice I v.length c0_7], .slice A1 x.length c1] w fun e w' => e = .returned (.bool r) ∧ Below w.heap.size w w' := by
 have hu32 := Tryz.underlying32
 have Q := a_ ac
 have ax := a_ ad
 clear ac ad
 have ay := a_ ae
 clear an ae
 have az := a_ af
 clear ao af
 have aA := a_ ag
 clear ap ag
 have aB := a_ ah
 clear aq ah
 have aC := a_ ai
 clear ar ai
 have aj := a_ au
 have aF := a_ av
 clear au av
 have HB := a_ (Below.refl w.heap.size w)
 unfold jigsawref09_Holds.f at h
 have H := h
 clear h
 by_cases c3 : g ≤ 4
 ·
  rw [ip_ c3] at H
  exact ab_ H
 rw [ig_ c3] at H
 have c3b0 : decide (g ≤ 4) = false := df_ c3
 clear c3
 by_cases c4 : g ≤ 11
 ·
  rw [ip_ c4] at H
  exact ab_ H
 rw [ig_ c4] at H
 have c4b0 : decide (g ≤ 11) = false := df_ c4
 clear c4
 by_cases c5 : g ≤ 16
 ·
  rw [ip_ c5] at H
  exact ab_ H
 rw [ig_ c5] at H
 have c5b0 : decide (g ≤ 16) = false := df_ c5
 clear c5
 by_cases c6 : g = 17
 rotate_left
 ·
  rw [ig_ c6] at H
  exact ab_ H
 rw [ip_ c6] at H
 have c6b0 : (g == 17) = true := beq_iff_eq.mpr c6
 have c6b1 : (g != 17) = false := bn_.mpr c6
 clear c6
 have H' := a_ H
 clear H
 go_enter Tryz.func20, Tryz.ntmps20
 go_wp2_with (first | ((with_reducible refine gate_dst (N := 2) rfl ?_); refine bxe_ (N := 2) (cs := #[.int .i64 g, .slice A a.length c0_1, .slice B p.length c0_2, .slice E q.length c0_3, .slice F s.length c0_4, .slice G u.length c0_5, .int .i64 y, .slice I v.length c0_7]) (t := 32) ?_; intro z hg w7 hbox hb; have d := a_ (hbox); have P := a_ (by rw [hg]; exact (bz_ bel_) : w.heap.size ≤ z); have ak := P; replace HB := hq_ hb; clear hb hbox hg; obtain ⟨_, _, _, _, _, _, _, _, _, _, _, _, _, _, _, _⟩ := cel8_ d.out))
 repeat (go_quiet (first | ((with_reducible refine gate_dst (N := 2) rfl ?_); refine bxe_ (N := 2) (cs := #[.int .i64 g, .slice A a.length c0_1, .slice B p.length c0_2, .slice E q.length c0_3, .slice F s.length c0_4, .slice G u.length c0_5, .int .i64 y, .slice I v.length c0_7]) (t := 32) ?_; intro z hg w7 hbox hb; have d := a_ (hbox); have P := a_ (by rw [hg]; exact (bz_ bel_) : w.heap.size ≤ z); have ak := P; replace HB := hq_ hb; clear hb hbox hg; obtain ⟨_, _, _, _, _, _, _, _, _, _, _, _, _, _, _, _⟩ := cel8_ d.out)); try go_wp2_with (first | ((with_reducible refine gate_dst (N := 2) rfl ?_); refine bxe_ (N := 2) (cs := #[.int .i64 g, .slice A a.length c0_1, .slice B p.length c0_2, .slice E q.length c0_3, .slice F s.length c0_4, .slice G u.length c0_5, .int .i64 y, .slice I v.length c0_7]) (t := 32) ?_; intro z hg w7 hbox hb; have d := a_ (hbox); have P := a_ (by rw [hg]; exact (bz_ bel_) : w.heap.size ≤ z); have ak := P; replace HB := hq_ hb; clear hb hbox hg; obtain ⟨_, _, _, _, _, _, _, _, _, _, _, _, _, _, _, _⟩ := cel8_ d.out)))
 go_loopg [5] k (fun kq v5 w' => ∃ (b : Int), v5 = .int .i64 b ∧ Aside0 (jigsawref09_Holds.l0 kq x b g a p q s u y v = some r) ∧ Aside0 (kq ≤ k) ∧ Aside0 (w'.heap[z]? = some (.cells #[.int .i64 g, (.slice A a.length c0_1), (.slice B p.length c0_2), (.slice E q.length c0_3), (.slice F s.length c0_4), (.slice G u.length c0_5), .int .i64 y, (.slice I v.length c0_7)] 32 (0, 0))) ∧ Aside0 (Below w.heap.size w w'))
 case atStart => exact ⟨(0), eq_, H', ⟨lr_ _⟩, ⟨bk_ d.out⟩, ⟨bel_⟩⟩
 clear H'
 try clear c1
 try clear c2
 try clear p2
 try clear c3
 try clear c3b0
 try clear c4
 try clear c4b0
 try clear c5
 try clear c5b0
 try clear c6
 try clear c6b0
 try clear c6b1
 obtain ⟨b, rfl, HA, al, d, HB⟩ := hrel
 cases gk with
 | zero => exact absurd HA.out (by simp [jigsawref09_Holds.l0])
 | succ k1 =>
  have H := HA.out
  clear HA
  simp only [jigsawref09_Holds.l0] at H
  by_cases c9 : b < (a.length : Int)
  rotate_left
  ·
   rw [ig_ c9] at H
   have c9b0 : decide (b < (a.length : Int)) = false := df_ c9
   clear c9
   obtain rfl := si_ H
   obtain ⟨_, _, _, _, _, _, _, _, _, _, _, _, _, _, _, _⟩ := cel8_ d.out
   go_wp2
   repeat (go_quiet (fail); try go_wp2)
   go_ret
   exact ⟨er_, bel_⟩
  rw [ip_ c9] at H
  have c9b0 : decide (b < (a.length : Int)) = true := dt_ c9
  clear c9
  have H' := a_ H
  clear H
  obtain ⟨_, _, _, _, _, _, _, _, _, _, _, _, _, _, _, _⟩ := cel8_ d.out
  go_wp2
  repeat (go_quiet (fail); try go_wp2)
  go_loopg [6] k1 (fun kq v6 w' => ∃ (c : Int), v6 = .int .i64 c ∧ Aside0 (jigsawref09_Holds.l1 kq x b c g a p q s u y v = some r) ∧ Aside0 (kq ≤ k1) ∧ Aside0 (w'.heap[z]? = some (.cells #[.int .i64 g, (.slice A a.length c0_1), (.slice B p.length c0_2), (.slice E q.length c0_3), (.slice F s.length c0_4), (.slice G u.length c0_5), .int .i64 y, (.slice I v.length c0_7)] 32 (0, 0))) ∧ Aside0 (Below w.heap.size w w'))
  case atStart => exact ⟨(0), eq_, H', ⟨lr_ _⟩, ⟨bk_ d.out⟩, ⟨bel_⟩⟩
  clear H'
  try clear c1
  try clear c2
  try clear p2
  try clear c3
  try clear c3b0
  try clear c4
  try clear c4b0
  try clear c5
  try clear c5b0
  try clear c6
  try clear c6b0
  try clear c6b1
  try clear c9
  try clear c9b0
  try clear p2
  obtain ⟨c, rfl, HA, am, d, HB⟩ := hrel
  cases gk with
  | zero => exact absurd HA.out (by simp [jigsawref09_Holds.l1])
  | succ k2 =>
   have H := HA.out
   clear HA
   simp only [jigsawref09_Holds.l1] at H
   by_cases c11 : c < b
   rotate_left
   ·
    rw [ig_ c11] at H
    have c11b0 : decide (c < b) = false := df_ c11
    clear c11
    have H' := a_ H
    clear H
    go_wp2
    repeat (go_quiet (fail); try go_wp2)
    go_roundg k2
    case measure => have := al.out; have := am.out; omega
    exact ⟨(wrap64 (b + 1)), eq_, H', ⟨by have := al.out; have := am.out; omega⟩, ⟨bk_ d.out⟩, ⟨bel_⟩⟩
   rw [ip_ c11] at H
   have c11b0 : decide (c < b) = true := dt_ c11
   clear c11
   by_cases c12 : 0 ≤ b
   rotate_left
   ·
    rw [ig_ c12] at H
    exact ab_ H
   rw [ip_ c12] at H
   have c12b0 : decide (0 ≤ b) = true := dt_ c12
   clear c12
   by_cases c13 : b < (a.length : Int)
   rotate_left
   ·
    rw [ig_ c13] at H
    exact ab_ H
   rw [ip_ c13] at H
   have c13b0 : decide (b < (a.length : Int)) = true := dt_ c13
   clear c13
   by_cases c14 : 0 ≤ (rd a b)
   rotate_left
   ·
    rw [ig_ c14] at H
    exact ab_ H
   rw [ip_ c14] at H
   have c14b0 : decide (0 ≤ (rd a b)) = true := dt_ c14
   clear c14
   by_cases c15 : (rd a b) < (x.length : Int)
   rotate_left
   ·
    rw [ig_ c15] at H
    exact ab_ H
   rw [ip_ c15] at H
   have c15b0 : decide ((rd a b) < (x.length : Int)) = true := dt_ c15
   clear c15
   by_cases c16 : 0 ≤ c
   rotate_left
   ·
    rw [ig_ c16] at H
    exact ab_ H
   rw [ip_ c16] at H
   have c16b0 : decide (0 ≤ c) = true := dt_ c16
   clear c16
   by_cases c17 : c < (a.length : Int)
   rotate_left
   ·
    rw [ig_ c17] at H
    exact ab_ H
   rw [ip_ c17] at H
   have c17b0 : decide (c < (a.length : Int)) = true := dt_ c17
   clear c17
   by_cases c18 : 0 ≤ (rd a c)
   rotate_left
   ·
    rw [ig_ c18] at H
    exact ab_ H
   rw [ip_ c18] at H
   have c18b0 : decide (0 ≤ (rd a c)) = true := dt_ c18
   clear c18
   by_cases c19 : (rd a c) < (x.length : Int)
   rotate_left
   ·
    rw [ig_ c19] at H
    exact ab_ H
   rw [ip_ c19] at H
   have c19b0 : decide ((rd a c) < (x.length : Int)) = true := dt_ c19
   clear c19
   by_cases c20 : (rd x (rd a b)) = (rd x (rd a c))
   ·
    rw [ip_ c20] at H
    have c20b0 : ((rd x (rd a b)) == (rd x (rd a c))) = true := beq_iff_eq.mpr c20
    have c20b1 : ((rd x (rd a b)) != (rd x (rd a c))) = false := bn_.mpr c20
    clear c20
    obtain rfl := si_ H
    obtain ⟨_, _, _, _, _, _, _, _, _, _, _, _, _, _, _, _⟩ := cel8_ d.out
    have p405 : 0 ≤ (b : Int) := dq_
    have J : b < (a.length : Int) := dq_
    obtain ⟨U, Y, l⟩ := ai_ Q.out b p405 J
    cases Y
    replace l := hx_ HB l
    replace p405 := et_ p405
    replace J := et_ J
    have p406 : 0 ≤ ((rd a b) : Int) := dq_
    have K : (rd a b) < (x.length : Int) := dq_
    obtain ⟨V, Z, m⟩ := ai_ aj.out (rd a b) p406 K
    cases Z
    replace m := hx_ HB m
    replace p406 := et_ p406
    replace K := et_ K
    have p407 : 0 ≤ (c : Int) := dq_
    have M : c < (a.length : Int) := dq_
    obtain ⟨W, aa, n⟩ := ai_ Q.out c p407 M
    obtain rfl : U = W := (by injection aa)
    replace n := hx_ HB n
    replace p407 := et_ p407
    replace M := et_ M
    have p408 : 0 ≤ ((rd a c) : Int) := dq_
    have O : (rd a c) < (x.length : Int) := dq_
    obtain ⟨X, ab, o⟩ := ai_ aj.out (rd a c) p408 O
    obtain rfl : V = X := (by injection ab)
    replace o := hx_ HB o
    replace p408 := et_ p408
    replace O := et_ O
    go_wp2
    repeat (go_quiet (fail); try go_wp2)
    go_ret
    exact ⟨er_, bel_⟩
   rw [ig_ c20] at H
   have c20b0 : ((rd x (rd a b)) == (rd x (rd a c))) = false := be_.mpr c20
   have c20b1 : ((rd x (rd a b)) != (rd x (rd a c))) = true := ni_.mpr c20
   have H' := a_ H
   clear H
   obtain ⟨_, _, _, _, _, _, _, _, _, _, _, _, _, _, _, _⟩ := cel8_ d.out
   have p405 : 0 ≤ (b : Int) := dq_
   have J : b < (a.length : Int) := dq_
   obtain ⟨U, Y, l⟩ := ai_ Q.out b p405 J
   cases Y
   replace l := hx_ HB l
   replace p405 := et_ p405
   replace J := et_ J
   have p406 : 0 ≤ ((rd a b) : Int) := dq_
   have K : (rd a b) < (x.length : Int) := dq_
   obtain ⟨V, Z, m⟩ := ai_ aj.out (rd a b) p406 K
   cases Z
   replace m := hx_ HB m
   replace p406 := et_ p406
   replace K := et_ K
   have p407 : 0 ≤ (c : Int) := dq_
   have M : c < (a.length : Int) := dq_
   obtain ⟨W, aa, n⟩ := ai_ Q.out c p407 M
   obtain rfl : U = W := (by injection aa)
   replace n := hx_ HB n
   replace p407 := et_ p407
   replace M := et_ M
   have p408 : 0 ≤ ((rd a c) : Int) := dq_
   have O : (rd a c) < (x.length : Int) := dq_
   obtain ⟨X, ab, o⟩ := ai_ aj.out (rd a c) p408 O
   obtain rfl : V = X := (by injection ab)
   replace o := hx_ HB o
   replace p408 := et_ p408
   replace O := et_ O
   go_wp2
   repeat (go_quiet (fail); try go_wp2)
   go_roundg k2
   case measure => have := al.out; have := am.out; omega
   exact ⟨(wrap64 (c + 1)), eq_, H', ⟨by have := al.out; have := am.out; omega⟩, ⟨bk_ d.out⟩, ⟨bel_⟩⟩

end Go.Proofs.YtckfbfdnlpnllaaGreatDoor.XAllDiffFixed
