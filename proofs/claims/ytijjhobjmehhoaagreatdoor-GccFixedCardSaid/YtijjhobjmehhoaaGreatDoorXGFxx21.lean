-- by xprint.py, a program of this session, over the kit's print
import Derived.Test.YtijjhobjmehhoaaGreatDoorXGFxx0
import Derived.Test.YtijjhobjmehhoaaGreatDoorSq
namespace Go.Proofs.YtijjhobjmehhoaaGreatDoor.XGccFixed
open Go.RowKit Go.Proofs.YtijjhobjmehhoaaGreatDoor.Sq Go.Proofs.YtijjhobjmehhoaaGreatDoorW.PrintWords Go.Proofs.YtijjhobjmehhoaaGreatDoorW.PrintLast Go.Proofs.YtijjhobjmehhoaaGreatDoorW.PrintMore
attribute [local go_sem] max2_int min2_int max_two min_two max_three min_three max_four min_four   -- for this text's walks alone
set_option linter.unusedVariables false
set_option linter.unusedSimpArgs false

/-! ### jigsawref09_gcc: function 46 -/
mutual
def jigsawref09_gcc.l0 : Nat → List Int → Int → Int → List Int → List Int → List Int → List Int → List Int → Int → List (List Int) → Option (Bool)
 | 0, _, _, _, _, _, _, _, _, _, _ => none
 | k + 1, n, m, b, c, d, a, e, f, g, l => if m < (a.length : Int) then (jigsawref09_gcc.l1 k n m 0 0 b c d a e f g l) else (some true)
def jigsawref09_gcc.l1 : Nat → List Int → Int → Int → Int → Int → List Int → List Int → List Int → List Int → List Int → Int → List (List Int) → Option (Bool)
 | 0, _, _, _, _, _, _, _, _, _, _, _, _ => none
 | k + 1, o, m, p, n, e, a, f, b, c, d, g, l => if n < (a.length : Int) then (if 0 ≤ n then (if 0 ≤ (rd a n) then (if (rd a n) < (o.length : Int) then (if 0 ≤ m then (if m < (b.length : Int) then (if (rd o (rd a n)) = (rd b m) then (jigsawref09_gcc.l1 k o m (wrap64 (p + 1)) (wrap64 (n + 1)) e a f b c d g l) else (jigsawref09_gcc.l1 k o m p (wrap64 (n + 1)) e a f b c d g l)) else (none)) else (none)) else (none)) else (none)) else (none)) else (if 0 ≤ m then (if m < (c.length : Int) then (if p < (rd c m) then (some false) else (if m < (d.length : Int) then (if p > (rd d m) then (some false) else (jigsawref09_gcc.l0 k o (wrap64 (m + 1)) e a f b c d g l)) else (none))) else (none)) else (none))
end
def jigsawref09_gcc.f (k : Nat) (a : Int) (b : List Int) (c : List Int) (d : List Int) (e : List Int) (g : List Int) (l : Int) (m : List (List Int)) (n : List Int) : Option (Bool) := jigsawref09_gcc.l0 k n 0 a b c d e g l m
theorem jigsawref09_gcc.mono_l : ∀ k, (∀ a b c d e f g l m n, LeO (jigsawref09_gcc.l0 k a b c d e f g l m n) (jigsawref09_gcc.l0 (k + 1) a b c d e f g l m n)) ∧ (∀ a b c d e f g l m n o p, LeO (jigsawref09_gcc.l1 k a b c d e f g l m n o p) (jigsawref09_gcc.l1 (k + 1) a b c d e f g l m n o p))
 | 0 => by refine ⟨?_, ?_⟩ <;> (intros; exact LeO.none _)
 | k + 1 => by
  obtain ⟨ih0, ih1⟩ := jigsawref09_gcc.mono_l k
  refine ⟨?_, ?_⟩ <;> intros
  all_goals first | unfold jigsawref09_gcc.l0 | unfold jigsawref09_gcc.l1
  all_goals exact leo_
theorem jigsawref09_gcc.mono : ∀ a b c d e g l m n k, LeO (jigsawref09_gcc.f k a b c d e g l m n) (jigsawref09_gcc.f (k + 1) a b c d e g l m n) := by
 intro a b c d e g l m n k
 obtain ⟨ih0, ih1⟩ := jigsawref09_gcc.mono_l k
 unfold jigsawref09_gcc.f
 exact leo_
set_option maxHeartbeats 8000000 in
set_option maxRecDepth 100000 in
theorem jigsawref09_gcc.calls (k : Nat) (z : Int) (F : Option Addr) (c0_1 : Nat) (b : List Int) (G : Option Addr) (c0_2 : Nat) (u : List Int) (I : Option Addr) (c0_3 : Nat) (d : List Int) (J : Option Addr) (c0_4 : Nat) (l : List Int) (K : Option Addr) (c0_5 : Nat) (n : List Int) (A : Int) (M : Option Addr) (c0_7 : Nat) (v : List (List Int)) (A1 : Option Addr) (c1 : Nat) (E : List Int) (r : Bool) (w : World) (ae : Kd.C (Kd.int .i64) w F b.length b) (af : b.length ≤ c0_1) (av : Kd.C (Kd.int .i64) w G u.length u) (ag : u.length ≤ c0_2) (ah : Kd.C (Kd.int .i64) w I d.length d) (ai : d.length ≤ c0_3) (aj : Kd.C (Kd.int .i64) w J l.length l) (ak : l.length ≤ c0_4) (al : Kd.C (Kd.int .i64) w K n.length n) (am : n.length ≤ c0_5) (aw : Kd.C (Kd.slice 3 (Kd.int .i64)) w M v.length v) (an : v.length ≤ c0_7) (aB : Kd.C (Kd.int .i64) w A1 E.length E) (aC : E.length ≤ c1) (h : jigsawref09_gcc.f k z b u d l n A v E = some r) :
  Calls Tryz.prog 46 #[.agg #[.int .i64 z, .slice F b.length c0_1, .slice G u.length c0_2, .slice I d.length c0_3, .slice J l.length c0_4, .slice K n.length c0_5, .int .i64 A, .slice M v.length c0_7], .slice A1 E.length c1] w fun e w' => e = .returned (.bool r) ∧ Below w.heap.size w w' := by
 have hu32 := Tryz.underlying32
 have ao := a_ ae
 have aF := a_ af
 clear ae af
 have aG := a_ ag
 clear av ag
 have ap := a_ ah
 have aH := a_ ai
 clear ah ai
 have Z := a_ aj
 have aI := a_ ak
 clear aj ak
 have aq := a_ al
 have aJ := a_ am
 clear al am
 have aK := a_ an
 clear aw an
 have aD := a_ aB
 have aO := a_ aC
 clear aB aC
 have HB := a_ (Below.refl w.heap.size w)
 unfold jigsawref09_gcc.f at h
 have H := h
 clear h
 have H' := a_ H
 clear H
 go_enter Tryz.func46, Tryz.ntmps46
 go_wp2_with (first | ((with_reducible refine gate_dst (N := 2) rfl ?_); refine bxe_ (N := 2) (cs := #[.int .i64 z, .slice F b.length c0_1, .slice G u.length c0_2, .slice I d.length c0_3, .slice J l.length c0_4, .slice K n.length c0_5, .int .i64 A, .slice M v.length c0_7]) (t := 32) ?_; intro B hg w3 hbox hb; have g := a_ (hbox); have V := a_ (by rw [hg]; exact (bz_ bel_) : w.heap.size ≤ B); have ar := V; replace HB := hq_ hb; clear hb hbox hg))
 repeat (go_quiet (first | ((with_reducible refine gate_dst (N := 2) rfl ?_); refine bxe_ (N := 2) (cs := #[.int .i64 z, .slice F b.length c0_1, .slice G u.length c0_2, .slice I d.length c0_3, .slice J l.length c0_4, .slice K n.length c0_5, .int .i64 A, .slice M v.length c0_7]) (t := 32) ?_; intro B hg w3 hbox hb; have g := a_ (hbox); have V := a_ (by rw [hg]; exact (bz_ bel_) : w.heap.size ≤ B); have ar := V; replace HB := hq_ hb; clear hb hbox hg)); try go_wp2_with (first | ((with_reducible refine gate_dst (N := 2) rfl ?_); refine bxe_ (N := 2) (cs := #[.int .i64 z, .slice F b.length c0_1, .slice G u.length c0_2, .slice I d.length c0_3, .slice J l.length c0_4, .slice K n.length c0_5, .int .i64 A, .slice M v.length c0_7]) (t := 32) ?_; intro B hg w3 hbox hb; have g := a_ (hbox); have V := a_ (by rw [hg]; exact (bz_ bel_) : w.heap.size ≤ B); have ar := V; replace HB := hq_ hb; clear hb hbox hg)))
 go_loopg [5] k (fun kq v5 w' => ∃ (a : Int), v5 = .int .i64 a ∧ Aside0 (jigsawref09_gcc.l0 kq E a z b u d l n A v = some r) ∧ Aside0 (kq ≤ k) ∧ Aside0 (w'.heap[B]? = some (.cells #[.int .i64 z, (.slice F b.length c0_1), (.slice G u.length c0_2), (.slice I d.length c0_3), (.slice J l.length c0_4), (.slice K n.length c0_5), .int .i64 A, (.slice M v.length c0_7)] 32 (0, 0))) ∧ Aside0 (Below w.heap.size w w'))
 case atStart => exact ⟨(0), eq_, H', ⟨lr_ _⟩, ⟨bk_ g.out⟩, ⟨bel_⟩⟩
 clear H'
 try clear c1
 try clear p2
 obtain ⟨a, rfl, HA, X, g, HB⟩ := hrel
 cases gk with
 | zero => exact absurd HA.out (by simp [jigsawref09_gcc.l0])
 | succ k1 =>
  have H := HA.out
  clear HA
  simp only [jigsawref09_gcc.l0] at H
  by_cases c4 : a < (d.length : Int)
  rotate_left
  ·
   rw [ig_ c4] at H
   have c4b0 : decide (a < (d.length : Int)) = false := df_ c4
   clear c4
   obtain rfl := si_ H
   obtain ⟨_, _, _, _, _, _, _, _, _, _, _, _, _, _, _, _⟩ := cel8_ g.out
   go_wp2
   repeat (go_quiet (fail); try go_wp2)
   go_ret
   exact ⟨er_, bel_⟩
  rw [ip_ c4] at H
  have c4b0 : decide (a < (d.length : Int)) = true := dt_ c4
  clear c4
  have H' := a_ H
  clear H
  obtain ⟨_, _, _, _, _, _, _, _, _, _, _, _, _, _, _, _⟩ := cel8_ g.out
  go_wp2
  repeat (go_quiet (fail); try go_wp2)
  go_loopg [6, 7] k1 (fun kq v6 v7 w' => ∃ (x : Int) (c : Int), v6 = .int .i64 x ∧ v7 = .int .i64 c ∧ Aside0 (jigsawref09_gcc.l1 kq E a x c z b u d l n A v = some r) ∧ Aside0 (kq ≤ k1) ∧ Aside0 (w'.heap[B]? = some (.cells #[.int .i64 z, (.slice F b.length c0_1), (.slice G u.length c0_2), (.slice I d.length c0_3), (.slice J l.length c0_4), (.slice K n.length c0_5), .int .i64 A, (.slice M v.length c0_7)] 32 (0, 0))) ∧ Aside0 (Below w.heap.size w w'))
  case atStart => exact ⟨(0), (0), eq_, eq_, H', ⟨lr_ _⟩, ⟨bk_ g.out⟩, ⟨bel_⟩⟩
  clear H'
  try clear c1
  try clear p2
  try clear c4
  try clear c4b0
  try clear p2
  obtain ⟨x, c, rfl, rfl, HA, Y, g, HB⟩ := hrel
  cases gk with
  | zero => exact absurd HA.out (by simp [jigsawref09_gcc.l1])
  | succ k2 =>
   have H := HA.out
   clear HA
   simp only [jigsawref09_gcc.l1] at H
   by_cases c6 : c < (b.length : Int)
   rotate_left
   ·
    rw [ig_ c6] at H
    have c6b0 : decide (c < (b.length : Int)) = false := df_ c6
    clear c6
    by_cases c15 : 0 ≤ a
    rotate_left
    ·
     rw [ig_ c15] at H
     exact ab_ H
    rw [ip_ c15] at H
    have c15b0 : decide (0 ≤ a) = true := dt_ c15
    clear c15
    by_cases c16 : a < (l.length : Int)
    rotate_left
    ·
     rw [ig_ c16] at H
     exact ab_ H
    rw [ip_ c16] at H
    have c16b0 : decide (a < (l.length : Int)) = true := dt_ c16
    clear c16
    by_cases c17 : x < (rd l a)
    ·
     rw [ip_ c17] at H
     have c17b0 : decide (x < (rd l a)) = true := dt_ c17
     clear c17
     obtain rfl := si_ H
     obtain ⟨_, _, _, _, _, _, _, _, _, _, _, _, _, _, _, _⟩ := cel8_ g.out
     have p549 : 0 ≤ (a : Int) := dq_
     have y : a < (l.length : Int) := dq_
     obtain ⟨au, W, m⟩ := ai_ Z.out a p549 y
     cases W
     replace m := hx_ HB m
     replace p549 := et_ p549
     replace y := et_ y
     go_wp2
     repeat (go_quiet (fail); try go_wp2)
     go_ret
     exact ⟨er_, bel_⟩
    rw [ig_ c17] at H
    have c17b0 : decide (x < (rd l a)) = false := df_ c17
    clear c17
    by_cases c19 : a < (n.length : Int)
    rotate_left
    ·
     rw [ig_ c19] at H
     exact ab_ H
    rw [ip_ c19] at H
    have c19b0 : decide (a < (n.length : Int)) = true := dt_ c19
    clear c19
    by_cases c20 : x > (rd n a)
    ·
     rw [ip_ c20] at H
     have c20b0 : decide ((rd n a) < x) = true := dt_ c20
     clear c20
     obtain rfl := si_ H
     obtain ⟨_, _, _, _, _, _, _, _, _, _, _, _, _, _, _, _⟩ := cel8_ g.out
     have p549 : 0 ≤ (a : Int) := dq_
     have y : a < (l.length : Int) := dq_
     obtain ⟨au, W, m⟩ := ai_ Z.out a p549 y
     cases W
     replace m := hx_ HB m
     replace p549 := et_ p549
     replace y := et_ y
     have p550 : 0 ≤ (a : Int) := dq_
     have U : a < (n.length : Int) := dq_
     obtain ⟨aA, ad, s⟩ := ai_ aq.out a p550 U
     cases ad
     replace s := hx_ HB s
     replace p550 := et_ p550
     replace U := et_ U
     go_wp2
     repeat (go_quiet (fail); try go_wp2)
     go_ret
     exact ⟨er_, bel_⟩
    rw [ig_ c20] at H
    have c20b0 : decide ((rd n a) < x) = false := df_ c20
    clear c20
    have H' := a_ H
    clear H
    obtain ⟨_, _, _, _, _, _, _, _, _, _, _, _, _, _, _, _⟩ := cel8_ g.out
    have p549 : 0 ≤ (a : Int) := dq_
    have y : a < (l.length : Int) := dq_
    obtain ⟨au, W, m⟩ := ai_ Z.out a p549 y
    cases W
    replace m := hx_ HB m
    replace p549 := et_ p549
    replace y := et_ y
    have p550 : 0 ≤ (a : Int) := dq_
    have U : a < (n.length : Int) := dq_
    obtain ⟨aA, ad, s⟩ := ai_ aq.out a p550 U
    cases ad
    replace s := hx_ HB s
    replace p550 := et_ p550
    replace U := et_ U
    go_wp2
    repeat (go_quiet (fail); try go_wp2)
    go_roundg k2
    case measure => have := X.out; have := Y.out; omega
    exact ⟨(wrap64 (a + 1)), eq_, H', ⟨by have := X.out; have := Y.out; omega⟩, ⟨bk_ g.out⟩, ⟨bel_⟩⟩
   rw [ip_ c6] at H
   have c6b0 : decide (c < (b.length : Int)) = true := dt_ c6
   clear c6
   by_cases c7 : 0 ≤ c
   rotate_left
   ·
    rw [ig_ c7] at H
    exact ab_ H
   rw [ip_ c7] at H
   have c7b0 : decide (0 ≤ c) = true := dt_ c7
   clear c7
   by_cases c8 : 0 ≤ (rd b c)
   rotate_left
   ·
    rw [ig_ c8] at H
    exact ab_ H
   rw [ip_ c8] at H
   have c8b0 : decide (0 ≤ (rd b c)) = true := dt_ c8
   clear c8
   by_cases c9 : (rd b c) < (E.length : Int)
   rotate_left
   ·
    rw [ig_ c9] at H
    exact ab_ H
   rw [ip_ c9] at H
   have c9b0 : decide ((rd b c) < (E.length : Int)) = true := dt_ c9
   clear c9
   by_cases c10 : 0 ≤ a
   rotate_left
   ·
    rw [ig_ c10] at H
    exact ab_ H
   rw [ip_ c10] at H
   have c10b0 : decide (0 ≤ a) = true := dt_ c10
   clear c10
   by_cases c11 : a < (d.length : Int)
   rotate_left
   ·
    rw [ig_ c11] at H
    exact ab_ H
   rw [ip_ c11] at H
   have c11b0 : decide (a < (d.length : Int)) = true := dt_ c11
   clear c11
   by_cases c12 : (rd E (rd b c)) = (rd d a)
   rotate_left
   ·
    rw [ig_ c12] at H
    have c12b0 : ((rd E (rd b c)) == (rd d a)) = false := be_.mpr c12
    have c12b1 : ((rd E (rd b c)) != (rd d a)) = true := ni_.mpr c12
    have H' := a_ H
    clear H
    obtain ⟨_, _, _, _, _, _, _, _, _, _, _, _, _, _, _, _⟩ := cel8_ g.out
    have p546 : 0 ≤ (c : Int) := dq_
    have O : c < (b.length : Int) := dq_
    obtain ⟨ax, aa, o⟩ := ai_ ao.out c p546 O
    cases aa
    replace o := hx_ HB o
    replace p546 := et_ p546
    replace O := et_ O
    have p547 : 0 ≤ ((rd b c) : Int) := dq_
    have P : (rd b c) < (E.length : Int) := dq_
    obtain ⟨ay, ab, p⟩ := ai_ aD.out (rd b c) p547 P
    cases ab
    replace p := hx_ HB p
    replace p547 := et_ p547
    replace P := et_ P
    have p548 : 0 ≤ (a : Int) := dq_
    have Q : a < (d.length : Int) := dq_
    obtain ⟨az, ac, q⟩ := ai_ ap.out a p548 Q
    cases ac
    replace q := hx_ HB q
    replace p548 := et_ p548
    replace Q := et_ Q
    go_wp2
    repeat (go_quiet (fail); try go_wp2)
    go_roundg k2
    case measure => have := X.out; have := Y.out; omega
    exact ⟨(x), (wrap64 (c + 1)), eq_, eq_, H', ⟨by have := X.out; have := Y.out; omega⟩, ⟨bk_ g.out⟩, ⟨bel_⟩⟩
   rw [ip_ c12] at H
   have c12b0 : ((rd E (rd b c)) == (rd d a)) = true := beq_iff_eq.mpr c12
   have c12b1 : ((rd E (rd b c)) != (rd d a)) = false := bn_.mpr c12
   clear c12
   have H' := a_ H
   clear H
   obtain ⟨_, _, _, _, _, _, _, _, _, _, _, _, _, _, _, _⟩ := cel8_ g.out
   have p546 : 0 ≤ (c : Int) := dq_
   have O : c < (b.length : Int) := dq_
   obtain ⟨ax, aa, o⟩ := ai_ ao.out c p546 O
   cases aa
   replace o := hx_ HB o
   replace p546 := et_ p546
   replace O := et_ O
   have p547 : 0 ≤ ((rd b c) : Int) := dq_
   have P : (rd b c) < (E.length : Int) := dq_
   obtain ⟨ay, ab, p⟩ := ai_ aD.out (rd b c) p547 P
   cases ab
   replace p := hx_ HB p
   replace p547 := et_ p547
   replace P := et_ P
   have p548 : 0 ≤ (a : Int) := dq_
   have Q : a < (d.length : Int) := dq_
   obtain ⟨az, ac, q⟩ := ai_ ap.out a p548 Q
   cases ac
   replace q := hx_ HB q
   replace p548 := et_ p548
   replace Q := et_ Q
   go_wp2
   repeat (go_quiet (fail); try go_wp2)
   go_roundg k2
   case measure => have := X.out; have := Y.out; omega
   exact ⟨(wrap64 (x + 1)), (wrap64 (c + 1)), eq_, eq_, H', ⟨by have := X.out; have := Y.out; omega⟩, ⟨bk_ g.out⟩, ⟨bel_⟩⟩

/-! ### jigsawref09_Holds: function 20 -/
def jigsawref09_Holds.f (k : Nat) (a : Int) (b : List Int) (c : List Int) (d : List Int) (e : List Int) (g : List Int) (l : Int) (m : List (List Int)) (o : List Int) : Option (Bool) := if a ≤ 4 then (none) else (if a ≤ 11 then (none) else (if a ≤ 16 then (none) else (if a = 17 then (none) else (if a = 18 then (none) else (if a = 19 then (none) else (if a = 20 then (none) else (if a = 21 then ((jigsawref09_gcc.f k a b c d e g l m o).bind fun n => (some n)) else (none))))))))
theorem jigsawref09_Holds.mono : ∀ a b c d e g l m n k, LeO (jigsawref09_Holds.f k a b c d e g l m n) (jigsawref09_Holds.f (k + 1) a b c d e g l m n) := by
 intro a b c d e g l m n k
 unfold jigsawref09_Holds.f
 have m0 := @jigsawref09_gcc.mono
 exact leo_
set_option maxHeartbeats 8000000 in
set_option maxRecDepth 100000 in
theorem jigsawref09_Holds.calls (k : Nat) (a : Int) (s : Option Addr) (c0_1 : Nat) (c : List Int) (u : Option Addr) (c0_2 : Nat) (d : List Int) (v : Option Addr) (c0_3 : Nat) (g : List Int) (x : Option Addr) (c0_4 : Nat) (l : List Int) (y : Option Addr) (c0_5 : Nat) (m : List Int) (o : Int) (z : Option Addr) (c0_7 : Nat) (n : List (List Int)) (A1 : Option Addr) (c1 : Nat) (U : List Int) (r : Bool) (w : World) (W : Kd.C (Kd.int .i64) w s c.length c) (X : c.length ≤ c0_1) (Y : Kd.C (Kd.int .i64) w u d.length d) (Z : d.length ≤ c0_2) (aa : Kd.C (Kd.int .i64) w v g.length g) (ab : g.length ≤ c0_3) (ac : Kd.C (Kd.int .i64) w x l.length l) (ad : l.length ≤ c0_4) (ae : Kd.C (Kd.int .i64) w y m.length m) (af : m.length ≤ c0_5) (ag : Kd.C (Kd.slice 3 (Kd.int .i64)) w z n.length n) (ah : n.length ≤ c0_7) (am : Kd.C (Kd.int .i64) w A1 U.length U) (an : U.length ≤ c1) (h : jigsawref09_Holds.f k a c d g l m o n U = some r) :
  Calls Tryz.prog 20 #[.agg #[.int .i64 a, .slice s c.length c0_1, .slice u d.length c0_2, .slice v g.length c0_3, .slice x l.length c0_4, .slice y m.length c0_5, .int .i64 o, .slice z n.length c0_7], .slice A1 U.length c1] w fun e w' => e = .returned (.bool r) ∧ Below w.heap.size w w' := by
 have hu32 := Tryz.underlying32
 have A := a_ W
 have B := a_ X
 clear W X
 have E := a_ Y
 have F := a_ Z
 clear Y Z
 have G := a_ aa
 have I := a_ ab
 clear aa ab
 have J := a_ ac
 have K := a_ ad
 clear ac ad
 have M := a_ ae
 have O := a_ af
 clear ae af
 have P := a_ ag
 have Q := a_ ah
 clear ag ah
 have aj := a_ am
 have ak := a_ an
 clear am an
 have HB := a_ (Below.refl w.heap.size w)
 unfold jigsawref09_Holds.f at h
 have H := h
 clear h
 by_cases c3 : a ≤ 4
 ·
  rw [ip_ c3] at H
  exact ab_ H
 rw [ig_ c3] at H
 have c3b0 : decide (a ≤ 4) = false := df_ c3
 clear c3
 by_cases c4 : a ≤ 11
 ·
  rw [ip_ c4] at H
  exact ab_ H
 rw [ig_ c4] at H
 have c4b0 : decide (a ≤ 11) = false := df_ c4
 clear c4
 by_cases c5 : a ≤ 16
 ·
  rw [ip_ c5] at H
  exact ab_ H
 rw [ig_ c5] at H
 have c5b0 : decide (a ≤ 16) = false := df_ c5
 clear c5
 by_cases c6 : a = 17
 ·
  rw [ip_ c6] at H
  exact ab_ H
 rw [ig_ c6] at H
 have c6b0 : (a == 17) = false := be_.mpr c6
 have c6b1 : (a != 17) = true := ni_.mpr c6
 by_cases c7 : a = 18
 ·
  rw [ip_ c7] at H
  exact ab_ H
 rw [ig_ c7] at H
 have c7b0 : (a == 18) = false := be_.mpr c7
 have c7b1 : (a != 18) = true := ni_.mpr c7
 by_cases c8 : a = 19
 ·
  rw [ip_ c8] at H
  exact ab_ H
 rw [ig_ c8] at H
 have c8b0 : (a == 19) = false := be_.mpr c8
 have c8b1 : (a != 19) = true := ni_.mpr c8
 by_cases c9 : a = 20
 ·
  rw [ip_ c9] at H
  exact ab_ H
 rw [ig_ c9] at H
 have c9b0 : (a == 20) = false := be_.mpr c9
 have c9b1 : (a != 20) = true := ni_.mpr c9
 by_cases c10 : a = 21
 rotate_left
 ·
  rw [ig_ c10] at H
  exact ab_ H
 rw [ip_ c10] at H
 have c10b0 : (a == 21) = true := beq_iff_eq.mpr c10
 have c10b1 : (a != 21) = false := bn_.mpr c10
 clear c10
 replace H := bo_ H
 obtain ⟨V, al, H⟩ := H
 try dsimp only at H
 obtain rfl := si_ H
 go_enter Tryz.func20, Tryz.ntmps20
 go_wp2_with (first | ((with_reducible refine gate_dst (N := 2) rfl ?_); refine bxe_ (N := 2) (cs := #[.int .i64 a, .slice s c.length c0_1, .slice u d.length c0_2, .slice v g.length c0_3, .slice x l.length c0_4, .slice y m.length c0_5, .int .i64 o, .slice z n.length c0_7]) (t := 32) ?_; intro p hg w12 hbox hb; have b := a_ (hbox); have q := a_ (by rw [hg]; exact (bz_ bel_) : w.heap.size ≤ p); have ai := q; replace HB := hq_ hb; clear hb hbox hg; obtain ⟨_, _, _, _, _, _, _, _, _, _, _, _, _, _, _, _⟩ := cel8_ b.out) | (go_at_call 46; (with_reducible refine (jigsawref09_gcc.calls k a _ _ c _ _ d _ _ g _ _ l _ _ m o _ _ n _ _ U V _ ?_ ?_ ?_ ?_ ?_ ?_ ?_ ?_ ?_ ?_ ?_ ?_ ?_ ?_ al.out).mono ?_); exact ca_ ((cb_ A.out HB.out)); exact B.out; exact ca_ ((cb_ E.out HB.out)); exact F.out; exact ca_ ((cb_ G.out HB.out)); exact I.out; exact ca_ ((cb_ J.out HB.out)); exact K.out; exact ca_ ((cb_ M.out HB.out)); exact O.out; exact ca_ ((cb_ P.out HB.out)); exact Q.out; exact ca_ ((cb_ aj.out HB.out)); exact ak.out; rintro e w14 ⟨rfl, hb⟩; replace b := a_ (bq_ b.out hb); replace HB := hq_ hb; clear hb))
 repeat (go_quiet (first | ((with_reducible refine gate_dst (N := 2) rfl ?_); refine bxe_ (N := 2) (cs := #[.int .i64 a, .slice s c.length c0_1, .slice u d.length c0_2, .slice v g.length c0_3, .slice x l.length c0_4, .slice y m.length c0_5, .int .i64 o, .slice z n.length c0_7]) (t := 32) ?_; intro p hg w12 hbox hb; have b := a_ (hbox); have q := a_ (by rw [hg]; exact (bz_ bel_) : w.heap.size ≤ p); have ai := q; replace HB := hq_ hb; clear hb hbox hg; obtain ⟨_, _, _, _, _, _, _, _, _, _, _, _, _, _, _, _⟩ := cel8_ b.out) | (go_at_call 46; (with_reducible refine (jigsawref09_gcc.calls k a _ _ c _ _ d _ _ g _ _ l _ _ m o _ _ n _ _ U V _ ?_ ?_ ?_ ?_ ?_ ?_ ?_ ?_ ?_ ?_ ?_ ?_ ?_ ?_ al.out).mono ?_); exact ca_ ((cb_ A.out HB.out)); exact B.out; exact ca_ ((cb_ E.out HB.out)); exact F.out; exact ca_ ((cb_ G.out HB.out)); exact I.out; exact ca_ ((cb_ J.out HB.out)); exact K.out; exact ca_ ((cb_ M.out HB.out)); exact O.out; exact ca_ ((cb_ P.out HB.out)); exact Q.out; exact ca_ ((cb_ aj.out HB.out)); exact ak.out; rintro e w14 ⟨rfl, hb⟩; replace b := a_ (bq_ b.out hb); replace HB := hq_ hb; clear hb)); try go_wp2_with (first | ((with_reducible refine gate_dst (N := 2) rfl ?_); refine bxe_ (N := 2) (cs := #[.int .i64 a, .slice s c.length c0_1, .slice u d.length c0_2, .slice v g.length c0_3, .slice x l.length c0_4, .slice y m.length c0_5, .int .i64 o, .slice z n.length c0_7]) (t := 32) ?_; intro p hg w12 hbox hb; have b := a_ (hbox); have q := a_ (by rw [hg]; exact (bz_ bel_) : w.heap.size ≤ p); have ai := q; replace HB := hq_ hb; clear hb hbox hg; obtain ⟨_, _, _, _, _, _, _, _, _, _, _, _, _, _, _, _⟩ := cel8_ b.out) | (go_at_call 46; (with_reducible refine (jigsawref09_gcc.calls k a _ _ c _ _ d _ _ g _ _ l _ _ m o _ _ n _ _ U V _ ?_ ?_ ?_ ?_ ?_ ?_ ?_ ?_ ?_ ?_ ?_ ?_ ?_ ?_ al.out).mono ?_); exact ca_ ((cb_ A.out HB.out)); exact B.out; exact ca_ ((cb_ E.out HB.out)); exact F.out; exact ca_ ((cb_ G.out HB.out)); exact I.out; exact ca_ ((cb_ J.out HB.out)); exact K.out; exact ca_ ((cb_ M.out HB.out)); exact O.out; exact ca_ ((cb_ P.out HB.out)); exact Q.out; exact ca_ ((cb_ aj.out HB.out)); exact ak.out; rintro e w14 ⟨rfl, hb⟩; replace HB := hq_ hb; clear hb)))
 go_ret
 exact ⟨er_, bel_⟩

end Go.Proofs.YtijjhobjmehhoaaGreatDoor.XGccFixed
