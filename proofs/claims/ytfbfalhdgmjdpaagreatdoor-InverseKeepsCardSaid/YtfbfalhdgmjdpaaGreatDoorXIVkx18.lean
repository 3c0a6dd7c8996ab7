-- by xprint.py, a program of this session, over the kit's print
import Derived.Test.YtfbfalhdgmjdpaaGreatDoorXIVkx0
import Derived.Test.YtfbfalhdgmjdpaaGreatDoorSq
namespace Go.Proofs.YtfbfalhdgmjdpaaGreatDoor.XInverseKeeps
open Go.RowKit Go.Proofs.YtfbfalhdgmjdpaaGreatDoor.Sq Go.Proofs.YtfbfalhdgmjdpaaGreatDoorW.PrintWords Go.Proofs.YtfbfalhdgmjdpaaGreatDoorW.PrintLast Go.Proofs.YtfbfalhdgmjdpaaGreatDoorW.PrintMore
attribute [local go_sem] max2_int min2_int max_two min_two max_three min_three max_four min_four   -- for this text's walks alone
set_option linter.unusedVariables false
set_option linter.unusedSimpArgs false

/-! ### jigsawref09_pairs: function 47 -/
mutual
def jigsawref09_pairs.l1 : Nat → List Int → Int → Int → Int → List Int → List Int → List Int → List Int → List Int → Int → List (List Int) → Option (Bool)
 | 0, _, _, _, _, _, _, _, _, _, _, _ => none
 | k + 1, o, m, n, a, b, c, d, e, f, g, l => if n < m then (jigsawref09_pairs.l2 k o m n 0 a b c d e f g l) else (some true)
def jigsawref09_pairs.l2 : Nat → List Int → Int → Int → Int → Int → List Int → List Int → List Int → List Int → List Int → Int → List (List Int) → Option (Bool)
 | 0, _, _, _, _, _, _, _, _, _, _, _, _ => none
 | k + 1, d, p, e, c, f, a, b, g, l, m, n, o => if c < p then (if 0 ≤ e then (if e < (a.length : Int) then (if 0 ≤ (rd a e) then (if (rd a e) < (d.length : Int) then (if 0 ≤ c then (if c < (b.length : Int) then (if 0 ≤ (rd b c) then (if (rd b c) < (d.length : Int) then (if (rd d (rd a e)) < 1 then (some false) else (if (rd d (rd a e)) > p then (some false) else (if (rd d (rd b c)) < 1 then (some false) else (if (rd d (rd b c)) > p then (some false) else (if (((rd d (rd a e)) == (wrap64 (c + 1))) != ((rd d (rd b c)) == (wrap64 (e + 1)))) = true then (some false) else (jigsawref09_pairs.l2 k d p e (wrap64 (c + 1)) f a b g l m n o)))))) else (none)) else (none)) else (none)) else (none)) else (none)) else (none)) else (none)) else (none)) else (jigsawref09_pairs.l1 k d p (wrap64 (e + 1)) f a b g l m n o)
end
def jigsawref09_pairs.f (k : Nat) (a : Int) (b : List Int) (c : List Int) (d : List Int) (e : List Int) (g : List Int) (l : Int) (m : List (List Int)) (n : List Int) : Option (Bool) := if a = 22 then (none) else (jigsawref09_pairs.l1 k n (b.length : Int) 0 a b c d e g l m)
theorem jigsawref09_pairs.mono_l : ∀ k, (∀ b c d e f g l m n o a, LeO (jigsawref09_pairs.l1 k b c d e f g l m n o a) (jigsawref09_pairs.l1 (k + 1) b c d e f g l m n o a)) ∧ (∀ b c d e f g l m n o a p, LeO (jigsawref09_pairs.l2 k b c d e f g l m n o a p) (jigsawref09_pairs.l2 (k + 1) b c d e f g l m n o a p))
 | 0 => by refine ⟨?_, ?_⟩ <;> (intros; exact LeO.none _)
 | k + 1 => by
  obtain ⟨ih0, ih1⟩ := jigsawref09_pairs.mono_l k
  refine ⟨?_, ?_⟩ <;> intros
  all_goals first | unfold jigsawref09_pairs.l1 | unfold jigsawref09_pairs.l2
  all_goals exact leo_
theorem jigsawref09_pairs.mono : ∀ a b c d e g l m n k, LeO (jigsawref09_pairs.f k a b c d e g l m n) (jigsawref09_pairs.f (k + 1) a b c d e g l m n) := by
 intro a b c d e g l m n k
 obtain ⟨ih0, ih1⟩ := jigsawref09_pairs.mono_l k
 unfold jigsawref09_pairs.f
 exact leo_
set_option maxHeartbeats 8000000 in
set_option maxRecDepth 100000 in
theorem jigsawref09_pairs.calls (k : Nat) (F : Int) (W : Option Addr) (c0_1 : Nat) (c : List Int) (X : Option Addr) (c0_2 : Nat) (d : List Int) (Y : Option Addr) (c0_3 : Nat) (G : List Int) (Z : Option Addr) (c0_4 : Nat) (I : List Int) (aa : Option Addr) (c0_5 : Nat) (J : List Int) (Q : Int) (ab : Option Addr) (c0_7 : Nat) (K : List (List Int)) (A1 : Option Addr) (c1 : Nat) (o : List Int) (r : Bool) (w : World) (ad : Kd.C (Kd.int .i64) w W c.length c) (ae : c.length ≤ c0_1) (af : Kd.C (Kd.int .i64) w X d.length d) (ag : d.length ≤ c0_2) (an : Kd.C (Kd.int .i64) w Y G.length G) (ah : G.length ≤ c0_3) (ao : Kd.C (Kd.int .i64) w Z I.length I) (ai : I.length ≤ c0_4) (ap : Kd.C (Kd.int .i64) w aa J.length J) (aj : J.length ≤ c0_5) (aq : Kd.C (Kd.slice 3 (Kd.int .i64)) w ab K.length K) (ak : K.length ≤ c0_7) (au : Kd.C (Kd.int .i64) w A1 o.length o) (av : o.length ≤ c1) (h : jigsawref09_pairs.f k F c d G I J Q K o = some r) :
  Calls Tryz.prog 47 #[.agg #[.int .i64 F, .slice W c.length c0_1, .slice X d.length c0_2, .slice Y G.length c0_3, .slice Z I.length c0_4, .slice aa J.length c0_5, .int .i64 Q, .slice ab K.length c0_7], .slice A1 o.length c1] w fun e w' => e = .returned (.bool r) ∧ Below w.heap.size w w' := by
 have hu32 := Tryz.underlying32
 have O := a_ ad
 have ay := a_ ae
 clear ad ae
 have P := a_ af
 have az := a_ ag
 clear af ag
 have aA := a_ ah
 clear an ah
 have aB := a_ ai
 clear ao ai
 have aC := a_ aj
 clear ap aj
 have aD := a_ ak
 clear aq ak
 have M := a_ au
 have aG := a_ av
 clear au av
 have HB := a_ (Below.refl w.heap.size w)
 unfold jigsawref09_pairs.f at h
 have H := h
 clear h
 by_cases c3 : F = 22
 ·
  rw [ip_ c3] at H
  exact ab_ H
 rw [ig_ c3] at H
 have c3b0 : (F == 22) = false := be_.mpr c3
 have c3b1 : (F != 22) = true := ni_.mpr c3
 have H' := a_ H
 clear H
 go_enter Tryz.func47, Tryz.ntmps47
 go_wp2_with (first | ((with_reducible refine gate_dst (N := 2) rfl ?_); refine bxe_ (N := 2) (cs := #[.int .i64 F, .slice W c.length c0_1, .slice X d.length c0_2, .slice Y G.length c0_3, .slice Z I.length c0_4, .slice aa J.length c0_5, .int .i64 Q, .slice ab K.length c0_7]) (t := 32) ?_; intro ac hg w4 hbox hb; have v := a_ (hbox); have ar := a_ (by rw [hg]; exact (bz_ bel_) : w.heap.size ≤ ac); have aE := ar; replace HB := hq_ hb; clear hb hbox hg; obtain ⟨_, _, _, _, _, _, _, _, _, _, _, _, _, _, _, _⟩ := cel8_ v.out))
 go_loopg [9] k (fun kq v9 w' => ∃ (b : Int), v9 = .int .i64 b ∧ Aside0 (jigsawref09_pairs.l1 kq o (c.length : Int) b F c d G I J Q K = some r) ∧ Aside0 (kq ≤ k) ∧ Aside0 (w'.heap[ac]? = some (.cells #[.int .i64 F, (.slice W c.length c0_1), (.slice X d.length c0_2), (.slice Y G.length c0_3), (.slice Z I.length c0_4), (.slice aa J.length c0_5), .int .i64 Q, (.slice ab K.length c0_7)] 32 (0, 0))) ∧ Aside0 (Below w.heap.size w w'))
 case atStart => exact ⟨(0), eq_, H', ⟨lr_ _⟩, ⟨bk_ v.out⟩, ⟨bel_⟩⟩
 clear H'
 try clear c1
 try clear p2
 try clear c3
 try clear c3b0
 try clear c3b1
 try clear c4
 obtain ⟨b, rfl, HA, al, v, HB⟩ := hrel
 cases gk with
 | zero => exact absurd HA.out (by simp [jigsawref09_pairs.l1])
 | succ k1 =>
  have H := HA.out
  clear HA
  simp only [jigsawref09_pairs.l1] at H
  by_cases c6 : b < (c.length : Int)
  rotate_left
  ·
   rw [ig_ c6] at H
   have c6b0 : decide (b < (c.length : Int)) = false := df_ c6
   clear c6
   obtain rfl := si_ H
   go_wp2
   go_ret
   exact ⟨er_, bel_⟩
  rw [ip_ c6] at H
  have c6b0 : decide (b < (c.length : Int)) = true := dt_ c6
  clear c6
  have H' := a_ H
  clear H
  go_wp2
  go_loopg [10] k1 (fun kq ax w' => ∃ (a : Int), ax = .int .i64 a ∧ Aside0 (jigsawref09_pairs.l2 kq o (c.length : Int) b a F c d G I J Q K = some r) ∧ Aside0 (kq ≤ k1) ∧ Aside0 (w'.heap[ac]? = some (.cells #[.int .i64 F, (.slice W c.length c0_1), (.slice X d.length c0_2), (.slice Y G.length c0_3), (.slice Z I.length c0_4), (.slice aa J.length c0_5), .int .i64 Q, (.slice ab K.length c0_7)] 32 (0, 0))) ∧ Aside0 (Below w.heap.size w w'))
  case atStart => exact ⟨(0), eq_, H', ⟨lr_ _⟩, ⟨bk_ v.out⟩, ⟨bel_⟩⟩
  clear H'
  try clear c1
  try clear p2
  try clear c3
  try clear c3b0
  try clear c3b1
  try clear c4
  try clear c6
  try clear c6b0
  try clear p2
  obtain ⟨a, rfl, HA, am, v, HB⟩ := hrel
  cases gk with
  | zero => exact absurd HA.out (by simp [jigsawref09_pairs.l2])
  | succ k2 =>
   have H := HA.out
   clear HA
   simp only [jigsawref09_pairs.l2] at H
   by_cases c7 : a < (c.length : Int)
   rotate_left
   ·
    rw [ig_ c7] at H
    have c7b0 : decide (a < (c.length : Int)) = false := df_ c7
    clear c7
    have H' := a_ H
    clear H
    go_wp2
    go_roundg k2
    case measure => have := al.out; have := am.out; omega
    exact ⟨(wrap64 (b + 1)), eq_, H', ⟨by have := al.out; have := am.out; omega⟩, ⟨bk_ v.out⟩, ⟨bel_⟩⟩
   rw [ip_ c7] at H
   have c7b0 : decide (a < (c.length : Int)) = true := dt_ c7
   clear c7
   by_cases c8 : 0 ≤ b
   rotate_left
   ·
    rw [ig_ c8] at H
    exact ab_ H
   rw [ip_ c8] at H
   have c8b0 : decide (0 ≤ b) = true := dt_ c8
   clear c8
   by_cases c9 : b < (c.length : Int)
   rotate_left
   ·
    rw [ig_ c9] at H
    exact ab_ H
   rw [ip_ c9] at H
   have c9b0 : decide (b < (c.length : Int)) = true := dt_ c9
   clear c9
   by_cases c10 : 0 ≤ (rd c b)
   rotate_left
   ·
    rw [ig_ c10] at H
    exact ab_ H
   rw [ip_ c10] at H
   have c10b0 : decide (0 ≤ (rd c b)) = true := dt_ c10
   clear c10
   by_cases c11 : (rd c b) < (o.length : Int)
   rotate_left
   ·
    rw [ig_ c11] at H
    exact ab_ H
   rw [ip_ c11] at H
   have c11b0 : decide ((rd c b) < (o.length : Int)) = true := dt_ c11
   clear c11
   by_cases c12 : 0 ≤ a
   rotate_left
   ·
    rw [ig_ c12] at H
    exact ab_ H
   rw [ip_ c12] at H
   have c12b0 : decide (0 ≤ a) = true := dt_ c12
   clear c12
   by_cases c13 : a < (d.length : Int)
   rotate_left
   ·
    rw [ig_ c13] at H
    exact ab_ H
   rw [ip_ c13] at H
   have c13b0 : decide (a < (d.length : Int)) = true := dt_ c13
   clear c13
   by_cases c14 : 0 ≤ (rd d a)
   rotate_left
   ·
    rw [ig_ c14] at H
    exact ab_ H
   rw [ip_ c14] at H
   have c14b0 : decide (0 ≤ (rd d a)) = true := dt_ c14
   clear c14
   by_cases c15 : (rd d a) < (o.length : Int)
   rotate_left
   ·
    rw [ig_ c15] at H
    exact ab_ H
   rw [ip_ c15] at H
   have c15b0 : decide ((rd d a) < (o.length : Int)) = true := dt_ c15
   clear c15
   by_cases c16 : (rd o (rd c b)) < 1
   ·
    rw [ip_ c16] at H
    have c16b0 : decide ((rd o (rd c b)) < 1) = true := dt_ c16
    clear c16
    obtain rfl := si_ H
    obtain ⟨_, _, _, _, _, _, _, _, _, _, _, _, _, _, _, _⟩ := cel8_ v.out
    have p533 : 0 ≤ (b : Int) := dq_
    have p : b < (c.length : Int) := dq_
    obtain ⟨U, z, g⟩ := ai_ O.out b p533 p
    cases z
    replace g := hx_ HB g
    replace p533 := et_ p533
    replace p := et_ p
    have p534 : 0 ≤ ((rd c b) : Int) := dq_
    have q : (rd c b) < (o.length : Int) := dq_
    obtain ⟨x, A, l⟩ := ai_ M.out (rd c b) p534 q
    cases A
    replace l := hx_ HB l
    replace p534 := et_ p534
    replace q := et_ q
    have p535 : 0 ≤ (a : Int) := dq_
    have s : a < (d.length : Int) := dq_
    obtain ⟨V, B, m⟩ := ai_ P.out a p535 s
    cases B
    replace m := hx_ HB m
    replace p535 := et_ p535
    replace s := et_ s
    have p536 : 0 ≤ ((rd d a) : Int) := dq_
    have u : (rd d a) < (o.length : Int) := dq_
    obtain ⟨y, E, n⟩ := ai_ M.out (rd d a) p536 u
    obtain rfl : x = y := (by injection E)
    replace n := hx_ HB n
    replace p536 := et_ p536
    replace u := et_ u
    go_wp2
    go_ret
    exact ⟨er_, bel_⟩
   rw [ig_ c16] at H
   have c16b0 : decide ((rd o (rd c b)) < 1) = false := df_ c16
   clear c16
   by_cases c18 : (rd o (rd c b)) > (c.length : Int)
   ·
    rw [ip_ c18] at H
    have c18b0 : decide ((c.length : Int) < (rd o (rd c b))) = true := dt_ c18
    clear c18
    obtain rfl := si_ H
    obtain ⟨_, _, _, _, _, _, _, _, _, _, _, _, _, _, _, _⟩ := cel8_ v.out
    have p533 : 0 ≤ (b : Int) := dq_
    have p : b < (c.length : Int) := dq_
    obtain ⟨U, z, g⟩ := ai_ O.out b p533 p
    cases z
    replace g := hx_ HB g
    replace p533 := et_ p533
    replace p := et_ p
    have p534 : 0 ≤ ((rd c b) : Int) := dq_
    have q : (rd c b) < (o.length : Int) := dq_
    obtain ⟨x, A, l⟩ := ai_ M.out (rd c b) p534 q
    cases A
    replace l := hx_ HB l
    replace p534 := et_ p534
    replace q := et_ q
    have p535 : 0 ≤ (a : Int) := dq_
    have s : a < (d.length : Int) := dq_
    obtain ⟨V, B, m⟩ := ai_ P.out a p535 s
    cases B
    replace m := hx_ HB m
    replace p535 := et_ p535
    replace s := et_ s
    have p536 : 0 ≤ ((rd d a) : Int) := dq_
    have u : (rd d a) < (o.length : Int) := dq_
    obtain ⟨y, E, n⟩ := ai_ M.out (rd d a) p536 u
    obtain rfl : x = y := (by injection E)
    replace n := hx_ HB n
    replace p536 := et_ p536
    replace u := et_ u
    go_wp2
    go_ret
    exact ⟨er_, bel_⟩
   rw [ig_ c18] at H
   have c18b0 : decide ((c.length : Int) < (rd o (rd c b))) = false := df_ c18
   clear c18
   by_cases c20 : (rd o (rd d a)) < 1
   ·
    rw [ip_ c20] at H
    have c20b0 : decide ((rd o (rd d a)) < 1) = true := dt_ c20
    clear c20
    obtain rfl := si_ H
    obtain ⟨_, _, _, _, _, _, _, _, _, _, _, _, _, _, _, _⟩ := cel8_ v.out
    have p533 : 0 ≤ (b : Int) := dq_
    have p : b < (c.length : Int) := dq_
    obtain ⟨U, z, g⟩ := ai_ O.out b p533 p
    cases z
    replace g := hx_ HB g
    replace p533 := et_ p533
    replace p := et_ p
    have p534 : 0 ≤ ((rd c b) : Int) := dq_
    have q : (rd c b) < (o.length : Int) := dq_
    obtain ⟨x, A, l⟩ := ai_ M.out (rd c b) p534 q
    cases A
    replace l := hx_ HB l
    replace p534 := et_ p534
    replace q := et_ q
    have p535 : 0 ≤ (a : Int) := dq_
    have s : a < (d.length : Int) := dq_
    obtain ⟨V, B, m⟩ := ai_ P.out a p535 s
    cases B
    replace m := hx_ HB m
    replace p535 := et_ p535
    replace s := et_ s
    have p536 : 0 ≤ ((rd d a) : Int) := dq_
    have u : (rd d a) < (o.length : Int) := dq_
    obtain ⟨y, E, n⟩ := ai_ M.out (rd d a) p536 u
    obtain rfl : x = y := (by injection E)
    replace n := hx_ HB n
    replace p536 := et_ p536
    replace u := et_ u
    go_wp2
    go_ret
    exact ⟨er_, bel_⟩
   rw [ig_ c20] at H
   have c20b0 : decide ((rd o (rd d a)) < 1) = false := df_ c20
   clear c20
   by_cases c22 : (rd o (rd d a)) > (c.length : Int)
   ·
    rw [ip_ c22] at H
    have c22b0 : decide ((c.length : Int) < (rd o (rd d a))) = true := dt_ c22
    clear c22
    obtain rfl := si_ H
    obtain ⟨_, _, _, _, _, _, _, _, _, _, _, _, _, _, _, _⟩ := cel8_ v.out
    have p533 : 0 ≤ (b : Int) := dq_
    have p : b < (c.length : Int) := dq_
    obtain ⟨U, z, g⟩ := ai_ O.out b p533 p
    cases z
    replace g := hx_ HB g
    replace p533 := et_ p533
    replace p := et_ p
    have p534 : 0 ≤ ((rd c b) : Int) := dq_
    have q : (rd c b) < (o.length : Int) := dq_
    obtain ⟨x, A, l⟩ := ai_ M.out (rd c b) p534 q
    cases A
    replace l := hx_ HB l
    replace p534 := et_ p534
    replace q := et_ q
    have p535 : 0 ≤ (a : Int) := dq_
    have s : a < (d.length : Int) := dq_
    obtain ⟨V, B, m⟩ := ai_ P.out a p535 s
    cases B
    replace m := hx_ HB m
    replace p535 := et_ p535
    replace s := et_ s
    have p536 : 0 ≤ ((rd d a) : Int) := dq_
    have u : (rd d a) < (o.length : Int) := dq_
    obtain ⟨y, E, n⟩ := ai_ M.out (rd d a) p536 u
    obtain rfl : x = y := (by injection E)
    replace n := hx_ HB n
    replace p536 := et_ p536
    replace u := et_ u
    go_wp2
    go_ret
    exact ⟨er_, bel_⟩
   rw [ig_ c22] at H
   have c22b0 : decide ((c.length : Int) < (rd o (rd d a))) = false := df_ c22
   clear c22
   by_cases c24 : (((rd o (rd c b)) == (wrap64 (a + 1))) != ((rd o (rd d a)) == (wrap64 (b + 1)))) = true
   ·
    rw [ip_ c24] at H
    have c24b0 : (((rd o (rd c b)) == (wrap64 (a + 1))) != ((rd o (rd d a)) == (wrap64 (b + 1)))) = true := c24
    (try (have c24b1 : decide (((rd o (rd c b)) == (wrap64 (a + 1))) = ((rd o (rd d a)) == (wrap64 (b + 1)))) = false := by simpa using c24))
    (try (have c24b2 : (((rd o (rd c b)) == (wrap64 (a + 1))) == ((rd o (rd d a)) == (wrap64 (b + 1)))) = false := by simpa using c24))
    (try (have c24b3 : ¬ (((rd o (rd c b)) == (wrap64 (a + 1))) = ((rd o (rd d a)) == (wrap64 (b + 1)))) := by simpa using c24))
    clear c24
    obtain rfl := si_ H
    obtain ⟨_, _, _, _, _, _, _, _, _, _, _, _, _, _, _, _⟩ := cel8_ v.out
    have p533 : 0 ≤ (b : Int) := dq_
    have p : b < (c.length : Int) := dq_
    obtain ⟨U, z, g⟩ := ai_ O.out b p533 p
    cases z
    replace g := hx_ HB g
    replace p533 := et_ p533
    replace p := et_ p
    have p534 : 0 ≤ ((rd c b) : Int) := dq_
    have q : (rd c b) < (o.length : Int) := dq_
    obtain ⟨x, A, l⟩ := ai_ M.out (rd c b) p534 q
    cases A
    replace l := hx_ HB l
    replace p534 := et_ p534
    replace q := et_ q
    have p535 : 0 ≤ (a : Int) := dq_
    have s : a < (d.length : Int) := dq_
    obtain ⟨V, B, m⟩ := ai_ P.out a p535 s
    cases B
    replace m := hx_ HB m
    replace p535 := et_ p535
    replace s := et_ s
    have p536 : 0 ≤ ((rd d a) : Int) := dq_
    have u : (rd d a) < (o.length : Int) := dq_
    obtain ⟨y, E, n⟩ := ai_ M.out (rd d a) p536 u
    obtain rfl : x = y := (by injection E)
    replace n := hx_ HB n
    replace p536 := et_ p536
    replace u := et_ u
    go_wp2
    go_ret
    exact ⟨er_, bel_⟩
   rw [ig_ c24] at H
   have c24b0 : (((rd o (rd c b)) == (wrap64 (a + 1))) != ((rd o (rd d a)) == (wrap64 (b + 1)))) = false := by simpa using c24
   (try (have c24b1 : decide (((rd o (rd c b)) == (wrap64 (a + 1))) = ((rd o (rd d a)) == (wrap64 (b + 1)))) = true := by simpa using c24))
   (try (have c24b2 : (((rd o (rd c b)) == (wrap64 (a + 1))) == ((rd o (rd d a)) == (wrap64 (b + 1)))) = true := by simpa using c24))
   clear c24
   have H' := a_ H
   clear H
   obtain ⟨_, _, _, _, _, _, _, _, _, _, _, _, _, _, _, _⟩ := cel8_ v.out
   have p533 : 0 ≤ (b : Int) := dq_
   have p : b < (c.length : Int) := dq_
   obtain ⟨U, z, g⟩ := ai_ O.out b p533 p
   cases z
   replace g := hx_ HB g
   replace p533 := et_ p533
   replace p := et_ p
   have p534 : 0 ≤ ((rd c b) : Int) := dq_
   have q : (rd c b) < (o.length : Int) := dq_
   obtain ⟨x, A, l⟩ := ai_ M.out (rd c b) p534 q
   cases A
   replace l := hx_ HB l
   replace p534 := et_ p534
   replace q := et_ q
   have p535 : 0 ≤ (a : Int) := dq_
   have s : a < (d.length : Int) := dq_
   obtain ⟨V, B, m⟩ := ai_ P.out a p535 s
   cases B
   replace m := hx_ HB m
   replace p535 := et_ p535
   replace s := et_ s
   have p536 : 0 ≤ ((rd d a) : Int) := dq_
   have u : (rd d a) < (o.length : Int) := dq_
   obtain ⟨y, E, n⟩ := ai_ M.out (rd d a) p536 u
   obtain rfl : x = y := (by injection E)
   replace n := hx_ HB n
   replace p536 := et_ p536
   replace u := et_ u
   go_wp2
   go_roundg k2
   case measure => have := al.out; have := am.out; omega
   exact ⟨(wrap64 (a + 1)), eq_, H', ⟨by have := al.out; have := am.out; omega⟩, ⟨bk_ v.out⟩, ⟨bel_⟩⟩

/-! ### jigsawref09_Holds: function 20 -/
def jigsawref09_Holds.f (k : Nat) (a : Int) (b : List Int) (c : List Int) (d : List Int) (e : List Int) (g : List Int) (l : Int) (m : List (List Int)) (o : List Int) : Option (Bool) := if a ≤ 4 then (none) else (if a ≤ 11 then (none) else (if a ≤ 16 then (none) else (if a = 17 then (none) else (if a = 18 then (none) else (if a = 19 then (none) else (if a = 20 then (none) else (if a = 21 then (none) else ((jigsawref09_pairs.f k a b c d e g l m o).bind fun n => (some n)))))))))
theorem jigsawref09_Holds.mono : ∀ a b c d e g l m n k, LeO (jigsawref09_Holds.f k a b c d e g l m n) (jigsawref09_Holds.f (k + 1) a b c d e g l m n) := by
 intro a b c d e g l m n k
 unfold jigsawref09_Holds.f
 have m0 := @jigsawref09_pairs.mono
 exact leo_
set_option maxHeartbeats 8000000 in
set_option maxRecDepth 100000 in
theorem jigsawref09_Holds.calls (k : Nat) (a : Int) (o : Option Addr) (c0_1 : Nat) (b : List Int) (p : Option Addr) (c0_2 : Nat) (c : List Int) (q : Option Addr) (c0_3 : Nat) (d : List Int) (s : Option Addr) (c0_4 : Nat) (g : List Int) (u : Option Addr) (c0_5 : Nat) (l : List Int) (n : Int) (v : Option Addr) (c0_7 : Nat) (m : List (List Int)) (A1 : Option Addr) (c1 : Nat) (O : List Int) (r : Bool) (w : World) (x : Kd.C (Kd.int .i64) w o b.length b) (y : b.length ≤ c0_1) (z : Kd.C (Kd.int .i64) w p c.length c) (A : c.length ≤ c0_2) (B : Kd.C (Kd.int .i64) w q d.length d) (E : d.length ≤ c0_3) (F : Kd.C (Kd.int .i64) w s g.length g) (G : g.length ≤ c0_4) (I : Kd.C (Kd.int .i64) w u l.length l) (J : l.length ≤ c0_5) (K : Kd.C (Kd.slice 3 (Kd.int .i64)) w v m.length m) (M : m.length ≤ c0_7) (ah : Kd.C (Kd.int .i64) w A1 O.length O) (ai : O.length ≤ c1) (h : jigsawref09_Holds.f k a b c d g l n m O = some r) :
  Calls Tryz.prog 20 #[.agg #[.int .i64 a, .slice o b.length c0_1, .slice p c.length c0_2, .slice q d.length c0_3, .slice s g.length c0_4, .slice u l.length c0_5, .int .i64 n, .slice v m.length c0_7], .slice A1 O.length c1] w fun e w' => e = .returned (.bool r) ∧ Below w.heap.size w w' := by
 have hu32 := Tryz.underlying32
 have P := a_ x
 have Q := a_ y
 clear x y
 have U := a_ z
 have V := a_ A
 clear z A
 have W := a_ B
 have X := a_ E
 clear B E
 have Y := a_ F
 have Z := a_ G
 clear F G
 have aa := a_ I
 have ab := a_ J
 clear I J
 have ac := a_ K
 have ad := a_ M
 clear K M
 have al := a_ ah
 have am := a_ ai
 clear ah ai
 have HB := a_ (Below.refl w.heap.size w)
 unfold jigsawref09_Holds.f at h
 have H := h
 clear h
 by_cases c3 : a ≤ 4
 ·
  rw [ip_ c3] at H
  exact ab_ H
 rw [ig_ c3] at H
 have c3b0 : decide (a ≤ 4) = false := df_ c3
 clear c3
 by_cases c4 : a ≤ 11
 ·
  rw [ip_ c4] at H
  exact ab_ H
 rw [ig_ c4] at H
 have c4b0 : decide (a ≤ 11) = false := df_ c4
 clear c4
 by_cases c5 : a ≤ 16
 ·
  rw [ip_ c5] at H
  exact ab_ H
 rw [ig_ c5] at H
 have c5b0 : decide (a ≤ 16) = false := df_ c5
 clear c5
 by_cases c6 : a = 17
 ·
  rw [ip_ c6] at H
  exact ab_ H
 rw [ig_ c6] at H
 have c6b0 : (a == 17) = false := be_.mpr c6
 have c6b1 : (a != 17) = true := ni_.mpr c6
 by_cases c7 : a = 18
 ·
  rw [ip_ c7] at H
  exact ab_ H
 rw [ig_ c7] at H
 have c7b0 : (a == 18) = false := be_.mpr c7
 have c7b1 : (a != 18) = true := ni_.mpr c7
 by_cases c8 : a = 19
 ·
  rw [ip_ c8] at H
  exact ab_ H
 rw [ig_ c8] at H
 have c8b0 : (a == 19) = false := be_.mpr c8
 have c8b1 : (a != 19) = true := ni_.mpr c8
 by_cases c9 : a = 20
 ·
  rw [ip_ c9] at H
  exact ab_ H
 rw [ig_ c9] at H
 have c9b0 : (a == 20) = false := be_.mpr c9
 have c9b1 : (a != 20) = true := ni_.mpr c9
 by_cases c10 : a = 21
 ·
  rw [ip_ c10] at H
  exact ab_ H
 rw [ig_ c10] at H
 have c10b0 : (a == 21) = false := be_.mpr c10
 have c10b1 : (a != 21) = true := ni_.mpr c10
 replace H := bo_ H
 obtain ⟨aj, an, H⟩ := H
 try dsimp only at H
 obtain rfl := si_ H
 go_enter Tryz.func20, Tryz.ntmps20
 go_wp2_with (first | ((with_reducible refine gate_dst (N := 2) rfl ?_); refine bxe_ (N := 2) (cs := #[.int .i64 a, .slice o b.length c0_1, .slice p c.length c0_2, .slice q d.length c0_3, .slice s g.length c0_4, .slice u l.length c0_5, .int .i64 n, .slice v m.length c0_7]) (t := 32) ?_; intro ae hg w12 hbox hb; have af := a_ (hbox); have ag := a_ (by rw [hg]; exact (bz_ bel_) : w.heap.size ≤ ae); have ao := ag; replace HB := hq_ hb; clear hb hbox hg; obtain ⟨_, _, _, _, _, _, _, _, _, _, _, _, _, _, _, _⟩ := cel8_ af.out) | (go_at_call 47; (with_reducible refine (jigsawref09_pairs.calls k a _ _ b _ _ c _ _ d _ _ g _ _ l n _ _ m _ _ O aj _ ?_ ?_ ?_ ?_ ?_ ?_ ?_ ?_ ?_ ?_ ?_ ?_ ?_ ?_ an.out).mono ?_); exact ca_ ((cb_ P.out HB.out)); exact Q.out; exact ca_ ((cb_ U.out HB.out)); exact V.out; exact ca_ ((cb_ W.out HB.out)); exact X.out; exact ca_ ((cb_ Y.out HB.out)); exact Z.out; exact ca_ ((cb_ aa.out HB.out)); exact ab.out; exact ca_ ((cb_ ac.out HB.out)); exact ad.out; exact ca_ ((cb_ al.out HB.out)); exact am.out; rintro e w14 ⟨rfl, hb⟩; replace HB := hq_ hb; clear hb))
 go_ret
 exact ⟨er_, bel_⟩

end Go.Proofs.YtfbfalhdgmjdpaaGreatDoor.XInverseKeeps
