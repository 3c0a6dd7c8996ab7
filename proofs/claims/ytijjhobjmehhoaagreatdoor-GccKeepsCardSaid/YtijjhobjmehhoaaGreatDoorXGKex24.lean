import Derived.Test.YtijjhobjmehhoaaGreatDoorXGKex0
import Derived.Test.YtijjhobjmehhoaaGreatDoorXGKex11
import Derived.Test.YtijjhobjmehhoaaGreatDoorXGKex21
import Derived.Test.YtijjhobjmehhoaaGreatDoorSq
namespace Go.Proofs.YtijjhobjmehhoaaGreatDoor.XGccKeeps
open Go.RowKit Go.Proofs.YtijjhobjmehhoaaGreatDoor.Sq Go.Proofs.YtijjhobjmehhoaaGreatDoorW.PrintWords Go.Proofs.YtijjhobjmehhoaaGreatDoorW.PrintLast Go.Proofs.YtijjhobjmehhoaaGreatDoorW.PrintMore
attribute [local go_sem] max2_int min2_int max_two min_two max_three min_three max_four min_four
set_option linter.unusedVariables false
set_option linter.unusedSimpArgs false

mutual
def jigsawref10_Same.l0 : Nat → List (List Int) → List (List Int) → Int → Option (Bool)
 | 0, _, _, _ => none
 | k + 1, b, c, a => if a < (b.length : Int) then (if 0 ≤ a then (if a < (c.length : Int) then (if ((rd_L7 b a).length : Int) = ((rd_L7 c a).length : Int) then (jigsawref10_Same.l1 k b c a 0) else (none)) else (none)) else (none)) else (some true)
def jigsawref10_Same.l1 : Nat → List (List Int) → List (List Int) → Int → Int → Option (Bool)
 | 0, _, _, _, _ => none
 | k + 1, c, d, a, b => if 0 ≤ a then (if a < (c.length : Int) then (if b < ((rd_L7 c a).length : Int) then (if 0 ≤ b then (if a < (d.length : Int) then (if b < ((rd_L7 d a).length : Int) then (if (rd (rd_L7 c a) b) = (rd (rd_L7 d a) b) then (jigsawref10_Same.l1 k c d a (wrap64 (b + 1))) else (none)) else (none)) else (none)) else (none)) else (jigsawref10_Same.l0 k c d (wrap64 (a + 1)))) else (none)) else (none)
end
def jigsawref10_Same.f (k : Nat) (a : List (List Int)) (b : List (List Int)) : Option (Bool) := if (a.length : Int) = (b.length : Int) then (jigsawref10_Same.l0 k a b 0) else (none)
theorem jigsawref10_Same.mono_l : ∀ k, (∀ a b c, LeO (jigsawref10_Same.l0 k a b c) (jigsawref10_Same.l0 (k + 1) a b c)) ∧ (∀ a b c d, LeO (jigsawref10_Same.l1 k a b c d) (jigsawref10_Same.l1 (k + 1) a b c d))
 | 0 => by refine ⟨?_, ?_⟩ <;> (intros; exact LeO.none _)
 | k + 1 => by
  obtain ⟨ih0, ih1⟩ := jigsawref10_Same.mono_l k
  refine ⟨?_, ?_⟩ <;> intros
  all_goals first | unfold jigsawref10_Same.l0 | unfold jigsawref10_Same.l1
  all_goals exact leo_
theorem jigsawref10_Same.mono : ∀ a b k, LeO (jigsawref10_Same.f k a b) (jigsawref10_Same.f (k + 1) a b) := by
 intro a b k
 obtain ⟨ih0, ih1⟩ := jigsawref10_Same.mono_l k
 unfold jigsawref10_Same.f
 exact leo_
set_option maxHeartbeats 8000000 in
set_option maxRecDepth 100000 in
theorem jigsawref10_Same.calls (k : Nat) (A0 : Option Addr) (c0 : Nat) (c : List (List Int)) (A1 : Option Addr) (c1 : Nat) (d : List (List Int)) (r : Bool) (w : World) (ab : Kd.C (Kd.slice 3 (Kd.int .i64)) w A0 c.length c) (ac : c.length ≤ c0) (ad : Kd.C (Kd.slice 3 (Kd.int .i64)) w A1 d.length d) (ae : d.length ≤ c1) (h : jigsawref10_Same.f k c d = some r) :
  Calls Tryz.prog 14 #[.slice A0 c.length c0, .slice A1 d.length c1] w fun e w' => e = .returned (.bool r) ∧ Drawn0 w w' := by
 have I := a_ ab
 have aF := a_ ac
 clear ab ac
 have af := a_ ad
 have aG := a_ ae
 clear ad ae
 unfold jigsawref10_Same.f at h
 have H := h
 clear h
 by_cases c3 : (c.length : Int) = (d.length : Int)
 rotate_left
 ·
  rw [ig_ c3] at H
  exact ab_ H
 rw [ip_ c3] at H
 have c3b0 : ((c.length : Int) == (d.length : Int)) = true := beq_iff_eq.mpr c3
 have c3b1 : ((c.length : Int) != (d.length : Int)) = false := bn_.mpr c3
 have c3b2 : (c.length == d.length) = true := by first | simpa using c3 | (simp at c3 ⊢; omega)
 clear c3
 have H' := a_ H
 clear H
 go_enter Tryz.func14, Tryz.ntmps14
 go_wp2
 repeat (go_quiet (fail); try go_wp2)
 go_loopg [5] k (fun kq v5 w' => ∃ (a : Int), v5 = .int .i64 a ∧ Aside0 (jigsawref10_Same.l0 kq c d a = some r) ∧ Aside0 (kq ≤ k) ∧ Drawn0 w w')
 case atStart => exact ⟨(0), eq_, H', ⟨lr_ _⟩, by repeat (first | exact d0_ _ | apply Drawn0.step)⟩
 clear H'
 try clear c1
 try clear p2
 try clear c3
 try clear c3b0
 try clear c3b1
 try clear c3b2
 obtain ⟨a, rfl, HA, J, ⟨m1, rfl⟩⟩ := hrel
 cases gk with
 | zero => exact absurd HA.out (by simp [jigsawref10_Same.l0])
 | succ k1 =>
  have H := HA.out
  clear HA
  simp only [jigsawref10_Same.l0] at H
  by_cases c4 : a < (c.length : Int)
  rotate_left
  ·
   rw [ig_ c4] at H
   have c4b0 : decide (a < (c.length : Int)) = false := df_ c4
   clear c4
   obtain rfl := si_ H
   go_wp2
   repeat (go_quiet (fail); try go_wp2)
   go_ret
   exact ⟨by first | rfl | (simp; done) | (simp [*]; done), by repeat (first | exact d0_ _ | apply Drawn0.step)⟩
  rw [ip_ c4] at H
  have c4b0 : decide (a < (c.length : Int)) = true := dt_ c4
  clear c4
  by_cases c5 : 0 ≤ a
  rotate_left
  ·
   rw [ig_ c5] at H
   exact ab_ H
  rw [ip_ c5] at H
  have c5b0 : decide (0 ≤ a) = true := dt_ c5
  clear c5
  by_cases c6 : a < (d.length : Int)
  rotate_left
  ·
   rw [ig_ c6] at H
   exact ab_ H
  rw [ip_ c6] at H
  have c6b0 : decide (a < (d.length : Int)) = true := dt_ c6
  clear c6
  by_cases c7 : ((rd_L7 c a).length : Int) = ((rd_L7 d a).length : Int)
  rotate_left
  ·
   rw [ig_ c7] at H
   exact ab_ H
  rw [ip_ c7] at H
  have c7b0 : (((rd_L7 c a).length : Int) == ((rd_L7 d a).length : Int)) = true := beq_iff_eq.mpr c7
  have c7b1 : (((rd_L7 c a).length : Int) != ((rd_L7 d a).length : Int)) = false := bn_.mpr c7
  have c7b2 : ((rd_L7 c a).length == (rd_L7 d a).length) = true := by first | simpa using c7 | (simp at c7 ⊢; omega)
  clear c7
  have H' := a_ H
  clear H
  have p614 : 0 ≤ (a : Int) := dq_
  have v : a < (c.length : Int) := dq_
  obtain ⟨x, ax, c614_0, ag, M, n, N⟩ := at_L7 I.out a p614 v
  cases ag
  have am := a_ n
  clear N n
  replace p614 := et_ p614
  replace v := et_ v
  have p615 : 0 ≤ (a : Int) := dq_
  have y : a < (d.length : Int) := dq_
  obtain ⟨Y, ay, c615_0, ah, O, o, P⟩ := at_L7 af.out a p615 y
  cases ah
  have an := a_ o
  clear P o
  replace p615 := et_ p615
  replace y := et_ y
  go_wp2
  repeat (go_quiet (fail); try go_wp2)
  go_loopg [6] k1 (fun kq v6 w' => ∃ (b : Int), v6 = .int .i64 b ∧ Aside0 (jigsawref10_Same.l1 kq c d a b = some r) ∧ Aside0 (kq ≤ k1) ∧ Drawn0 w w')
  case atStart => exact ⟨(0), eq_, H', ⟨lr_ _⟩, by repeat (first | exact d0_ _ | apply Drawn0.step)⟩
  clear H'
  try clear c1
  try clear p2
  try clear c3
  try clear c3b0
  try clear c3b1
  try clear c3b2
  try clear c4
  try clear c4b0
  try clear c5
  try clear c5b0
  try clear c6
  try clear c6b0
  try clear p6
  try clear q6
  try clear aH
  try clear c7
  try clear c7b0
  try clear c7b1
  try clear c7b2
  try clear M
  try clear O
  try clear p2
  try clear p614
  try clear p615
  try clear v
  try clear y
  obtain ⟨b, rfl, HA, K, ⟨m2, rfl⟩⟩ := hrel
  cases gk with
  | zero => exact absurd HA.out (by simp [jigsawref10_Same.l1])
  | succ k2 =>
   have H := HA.out
   clear HA
   simp only [jigsawref10_Same.l1] at H
   by_cases c8 : 0 ≤ a
   rotate_left
   ·
    rw [ig_ c8] at H
    exact ab_ H
   rw [ip_ c8] at H
   have c8b0 : decide (0 ≤ a) = true := dt_ c8
   clear c8
   by_cases c9 : a < (c.length : Int)
   rotate_left
   ·
    rw [ig_ c9] at H
    exact ab_ H
   rw [ip_ c9] at H
   have c9b0 : decide (a < (c.length : Int)) = true := dt_ c9
   clear c9
   by_cases c10 : b < ((rd_L7 c a).length : Int)
   rotate_left
   ·
    rw [ig_ c10] at H
    have c10b0 : decide (b < ((rd_L7 c a).length : Int)) = false := df_ c10
    clear c10
    have H' := a_ H
    clear H
    have p616 : 0 ≤ (a : Int) := dq_
    have l : a < (c.length : Int) := dq_
    obtain ⟨z, X, c616_0, A, p, g, m⟩ := at_L7 I.out a p616 l
    obtain rfl : x = z := (by injection A)
    have Q := a_ g
    clear m g
    replace p616 := et_ p616
    replace l := et_ l
    go_wp2
    repeat (go_quiet (fail); try go_wp2)
    go_roundg k2
    case measure => have := J.out; have := K.out; omega
    exact ⟨(wrap64 (a + 1)), eq_, H', ⟨by have := J.out; have := K.out; omega⟩, by repeat (first | exact d0_ _ | apply Drawn0.step)⟩
   rw [ip_ c10] at H
   have c10b0 : decide (b < ((rd_L7 c a).length : Int)) = true := dt_ c10
   clear c10
   by_cases c11 : 0 ≤ b
   rotate_left
   ·
    rw [ig_ c11] at H
    exact ab_ H
   rw [ip_ c11] at H
   have c11b0 : decide (0 ≤ b) = true := dt_ c11
   clear c11
   by_cases c12 : a < (d.length : Int)
   rotate_left
   ·
    rw [ig_ c12] at H
    exact ab_ H
   rw [ip_ c12] at H
   have c12b0 : decide (a < (d.length : Int)) = true := dt_ c12
   clear c12
   by_cases c13 : b < ((rd_L7 d a).length : Int)
   rotate_left
   ·
    rw [ig_ c13] at H
    exact ab_ H
   rw [ip_ c13] at H
   have c13b0 : decide (b < ((rd_L7 d a).length : Int)) = true := dt_ c13
   clear c13
   by_cases c14 : (rd (rd_L7 c a) b) = (rd (rd_L7 d a) b)
   rotate_left
   ·
    rw [ig_ c14] at H
    exact ab_ H
   rw [ip_ c14] at H
   have c14b0 : ((rd (rd_L7 c a) b) == (rd (rd_L7 d a) b)) = true := beq_iff_eq.mpr c14
   have c14b1 : ((rd (rd_L7 c a) b) != (rd (rd_L7 d a) b)) = false := bn_.mpr c14
   clear c14
   have H' := a_ H
   clear H
   have p616 : 0 ≤ (a : Int) := dq_
   have l : a < (c.length : Int) := dq_
   obtain ⟨z, X, c616_0, A, p, g, m⟩ := at_L7 I.out a p616 l
   obtain rfl : x = z := (by injection A)
   have Q := a_ g
   clear m g
   replace p616 := et_ p616
   replace l := et_ l
   have p617 : 0 ≤ (a : Int) := dq_
   have B : a < (c.length : Int) := dq_
   obtain ⟨Z, az, c617_0, ai, U, q, s⟩ := at_L7 I.out a p617 B
   obtain rfl : x = Z := (by injection ai)
   have V := a_ s
   have ao := a_ q
   clear s q
   replace p617 := et_ p617
   replace B := et_ B
   have ea_ := si_ (p.symm.trans U)
   injection ea_ with ea_ en_ ec_
   subst ea_
   subst ec_
   clear en_
   have p618 : 0 ≤ (b : Int) := dq_
   have E : b < ((rd_L7 c a).length : Int) := dq_
   obtain ⟨aB, aj, ap⟩ := ai_ V.out b p618 E
   cases aj
   replace p618 := et_ p618
   replace E := et_ E
   have p619 : 0 ≤ (a : Int) := dq_
   have F : a < (d.length : Int) := dq_
   obtain ⟨aa, aA, c619_0, ak, aq, t, u⟩ := at_L7 af.out a p619 F
   obtain rfl : Y = aa := (by injection ak)
   have W := a_ u
   have ar := a_ t
   clear u t
   replace p619 := et_ p619
   replace F := et_ F
   have p620 : 0 ≤ (b : Int) := dq_
   have G : b < ((rd_L7 d a).length : Int) := dq_
   obtain ⟨aC, al, au⟩ := ai_ W.out b p620 G
   cases al
   replace p620 := et_ p620
   replace G := et_ G
   go_wp2
   repeat (go_quiet (fail); try go_wp2)
   go_roundg k2
   case measure => have := J.out; have := K.out; omega
   exact ⟨(wrap64 (b + 1)), eq_, H', ⟨by have := J.out; have := K.out; omega⟩, by repeat (first | exact d0_ _ | apply Drawn0.step)⟩

def jigsawlaw20_lists.l0 : Nat → List (List Int) → List (S58) → Int → Int → Option ((List (List Int)))
 | 0, _, _, _, _ => none
 | k + 1, c, b, e, a => if a < e then (if 0 ≤ a then (if a < (b.length : Int) then ((dom_Dom_List.f k ((rd_T58 b a).f0) ((rd_T58 b a).f1) ((rd_T58 b a).f2) ((rd_T58 b a).f3) ((rd_T58 b a).f4)).bind fun d => (if c.length < 5864062014805 then (jigsawlaw20_lists.l0 k (c ++ [d]) b e (wrap64 (a + 1))) else (none))) else (none)) else (none)) else (some c)
def jigsawlaw20_lists.f (k : Nat) (a : List (S58)) : Option ((List (List Int))) := jigsawlaw20_lists.l0 k ([] : List (List Int)) a (a.length : Int) 0
theorem jigsawlaw20_lists.mono_l : ∀ k, (∀ a b c d, LeO (jigsawlaw20_lists.l0 k a b c d) (jigsawlaw20_lists.l0 (k + 1) a b c d))
 | 0 => by intros; exact LeO.none _
 | k + 1 => by
  have ih0 := jigsawlaw20_lists.mono_l k
  intro a b c d
  unfold jigsawlaw20_lists.l0
  have m0 := @dom_Dom_List.mono
  exact leo_
theorem jigsawlaw20_lists.mono : ∀ a k, LeO (jigsawlaw20_lists.f k a) (jigsawlaw20_lists.f (k + 1) a) := by
 intro a k
 have ih0 := jigsawlaw20_lists.mono_l k
 unfold jigsawlaw20_lists.f
 have m0 := @dom_Dom_List.mono
 exact leo_
set_option maxHeartbeats 8000000 in
set_option maxRecDepth 100000 in
theorem jigsawlaw20_lists.calls (k : Nat) (Z : Option Addr) (c0 : Nat) (c : List (S58)) (r : List (List Int)) (w : World) (Q : Kd.C k58 w Z c.length c) (U : c.length ≤ c0) (hrtab : Kd.C (Kd.int .u8) w (some ⟨0, 0, none⟩) tabL.length tabL) (h : jigsawlaw20_lists.f k c = some r) :
  Calls Tryz.prog 15 #[.slice Z c.length c0] w fun e w' => ∃ V : Value, e = .returned (V) ∧ Kd.S (Kd.slice 3 (Kd.int .i64)) 30 w' w.heap.size (fun _ => True) V r ∧ Below w.heap.size w w' := by
 have hu58 := Tryz.underlying58
 have aa := a_ Q
 have ai := a_ U
 clear Q U
 have HRtab := a_ hrtab
 clear hrtab
 have HB := a_ (Below.refl w.heap.size w)
 unfold jigsawlaw20_lists.f at h
 have H := h
 clear h
 have H' := a_ H
 clear H
 go_enter Tryz.func15, Tryz.ntmps15
 go_wp2
 go_loopg [3, 8] k (fun kq v3 v8 w' => ∃ (g : List (List Int)) (a : Int), v8 = .int .i64 a ∧ Aside0 (jigsawlaw20_lists.l0 kq g c (c.length : Int) a = some r) ∧ Aside0 (kq ≤ k) ∧ Aside0 (Kd.S (Kd.slice 3 (Kd.int .i64)) 30 w' w.heap.size (fun _ => True) v3 g) ∧ Aside0 (Below w.heap.size w w'))
 case atStart => exact ⟨(([] : List (List Int))), (0), eq_, H', ⟨lr_ _⟩, ⟨nil_⟩, ⟨bel_⟩⟩
 clear H'
 try clear c1
 obtain ⟨g, a, rfl, HA, W, HO_3, HB⟩ := hrel
 cases gk with
 | zero => exact absurd HA.out (by simp [jigsawlaw20_lists.l0])
 | succ k1 =>
  have H := HA.out
  clear HA
  simp only [jigsawlaw20_lists.l0] at H
  by_cases c2 : a < (c.length : Int)
  rotate_left
  ·
   rw [ig_ c2] at H
   have c2b0 : decide (a < (c.length : Int)) = false := df_ c2
   clear c2
   obtain rfl := si_ H
   go_wp2
   go_ret
   exact ⟨_, er_, vS_ HO_3.out, bel_⟩
  rw [ip_ c2] at H
  have c2b0 : decide (a < (c.length : Int)) = true := dt_ c2
  clear c2
  by_cases c3 : 0 ≤ a
  rotate_left
  ·
   rw [ig_ c3] at H
   exact ab_ H
  rw [ip_ c3] at H
  have c3b0 : decide (0 ≤ a) = true := dt_ c3
  clear c3
  by_cases c4 : a < (c.length : Int)
  rotate_left
  ·
   rw [ig_ c4] at H
   exact ab_ H
  rw [ip_ c4] at H
  have c4b0 : decide (a < (c.length : Int)) = true := dt_ c4
  clear c4
  replace H := bo_ H
  obtain ⟨u, A5, H⟩ := H
  try dsimp only at H
  by_cases c6 : g.length < 5864062014805
  rotate_left
  ·
   rw [ig_ c6] at H
   exact ab_ H
  rw [ip_ c6] at H
  have LMc6 := a_ c6
  clear c6
  obtain ⟨E, d⟩ : ∃ y_ : List (List Int), y_ = (g ++ [u]) := ⟨_, rfl⟩
  replace H : (jigsawlaw20_lists.l0 k1 E c (c.length : Int) (wrap64 (a + 1))) = some r := h2_ H d
  have K := a_ d
  clear d
  have H' := a_ H
  clear H
  have p621 : 0 ≤ (a : Int) := dq_
  have y : a < (c.length : Int) := dq_
  obtain ⟨ab, F, c621_1, X, l, m, n, o, p, v, x⟩ := at_T58 aa.out a p621 y
  cases X
  replace l := hx_ HB l
  replace m := hx_ HB m
  replace n := hx_ HB n
  replace o := hx_ HB o
  replace p := hx_ HB p
  have A := a_ x
  have B := a_ v
  clear x v
  replace p621 := et_ p621
  replace y := et_ y
  go_wp2_with (first | ((with_reducible refine gate_dst (N := 5) rfl ?_); refine bxe_ (N := 5) (cs := #[.int .i64 0, .slice none 0 0, .int .i64 0, .int .i64 0, .int .i64 0]) (t := 58) ?_; intro M hg w7 hbox hb; replace HO_3 := a_ (Kd.S_below (vS_ HO_3.out) hb); have z := a_ (hbox); have O := a_ (by rw [hg]; exact (bz_ bel_) : w.heap.size ≤ M); have ac := O; replace HB := hq_ hb; clear hb hbox hg; obtain ⟨_, _, _, _, _, _, _, _, _, _⟩ := cel5_ z.out) | ((with_reducible refine gate_callee (f := 21) rfl ?_); refine goesL_ (some 14) rfl rfl Tryz.func21 kr_ rfl #[.agg #[.int .i64 ((rd_T58 c a).f0), .slice F ((rd_T58 c a).f1).length c621_1, .int .i64 ((rd_T58 c a).f2), .int .i64 ((rd_T58 c a).f3), .int .i64 ((rd_T58 c a).f4)]] rfl ar_ ?_; (with_reducible refine (dom_Dom_List.calls k1 ((rd_T58 c a).f0) _ _ ((rd_T58 c a).f1) ((rd_T58 c a).f2) ((rd_T58 c a).f3) ((rd_T58 c a).f4) u _ ?_ ?_ ?_ A5.out).mono ?_); exact cb_ A.out bel_; exact B.out; exact cb_ HRtab.out bel_; rintro e w9 ⟨ag, rfl, G, hb⟩; refine ⟨_, rfl, ?_⟩; replace HO_3 := a_ (Kd.S_elder' (by refine vS_ ?_; exact (Kd.S_mono (fS_ (fS_ (fS_ (fS_ (fS_ (Kd.S_types HO_3.out z.out (by decide))))))) (fun _ h_ => h_.1))) (rs_ G) hb); have s := a_ (Kd.R_lower G (bz_ bel_)); replace HB := hq_ hb; clear hb G; obtain ⟨I, J, Y⟩ := Kd.R_slice s.out; subst Y) | ((with_reducible refine gate_builtin (b := .append) (xs := #[.tmp 12, .tmp 15]) rfl ?_); at_builtin; refine Kd.S_append (Kd.slice 3 (Kd.int .i64)) (w0 := w) w.heap.size rfl (.tmp 12) (.tmp 15) 27 30 (.slice none 0 0) 24 rfl Tryz.underlying27 info30 rfl (by decide) (by omega) u3 g u [.slice I u.length J] (fun _ => True) (fun q => some q = (.slice I u.length J : Value).ownBlock) rfl rfl ?aP (fun q hk_ => ((rm_ (ok' := fun q => ((fun _ => True)) q ∧ some q ≠ u3.ownBlock) (Kd.R_apart' (s.out) (Kd.S_typed HO_3.out) (by decide)) (fun q hk => ⟨trivial, hk.2⟩))).1 q hk_.symm) ?aF ?aO ?aB ?aS ?aL ?_; (case aP => exact Kd.M_row (rm_ (Kd.R_tight rfl (rm_ (ok' := fun q => ((fun _ => True)) q ∧ some q ≠ u3.ownBlock) (Kd.R_apart' (s.out) (Kd.S_typed HO_3.out) (by decide)) (fun q hk => ⟨trivial, hk.2⟩))) (fun _ h_ => h_))); (case aB => exact bel_); (case aF => exact (fun _ _ => trivial)); (case aO => exact (by refine vS_ ?_; exact Kd.S_mono HO_3.out (fun q hk => ⟨trivial, fun e_ => hk.2 e_⟩))); (case aS => exact (bz_ bel_)); (case aL => have := LMc6.out; omega); intro ah w10 ho hb hg hat; rw [← K.out] at ho; replace HB := a_ (hb); have P := a_ (ho); clear HO_3 s; clear ho hb hg hat))
  go_roundg k1
  case measure => have := W.out; omega
  exact ⟨(E), (wrap64 (a + 1)), eq_, H', ⟨by have := W.out; omega⟩, ⟨vS_ P.out⟩, ⟨bel_⟩⟩


mutual
def jigsawref10_Local.l0 : Nat → Int → Int → List Int → List Int → List Int → List Int → List Int → Int → List (List Int) → Int → List Int → List Int → List Int → List Int → Int → List (List Int) → Option (Int × List Int × List Int × List Int × List Int × List Int × Int × (List (List Int)))
 | 0, _, _, _, _, _, _, _, _, _, _, _, _, _, _, _, _ => none
 | k + 1, t, c, a, d, e, f, g, l, m, n, b, o, p, q, r, s => if t < (a.length : Int) then (if b.length < 17592186044416 then (jigsawref10_Local.l0 k (wrap64 (t + 1)) c a d e f g l m n (b ++ [t]) o p q r s) else (none)) else (jigsawref10_Local.l1 k 0 c a d e f g l m n b ([] : List Int) o p q r s)
def jigsawref10_Local.l1 : Nat → Int → Int → List Int → List Int → List Int → List Int → List Int → Int → List (List Int) → Int → List Int → List Int → List Int → List Int → List Int → Int → List (List Int) → Option (Int × List Int × List Int × List Int × List Int × List Int × Int × (List (List Int)))
 | 0, _, _, _, _, _, _, _, _, _, _, _, _, _, _, _, _, _ => none
 | k + 1, u, o, b, c, p, q, r, s, t, d, e, a, f, g, l, m, n => if u < (c.length : Int) then (if a.length < 17592186044416 then (jigsawref10_Local.l1 k (wrap64 (u + 1)) o b c p q r s t d e (a ++ [wrap64 ((b.length : Int) + u)]) f g l m n) else (none)) else (some (d, e, a, f, g, l, m, n))
end
def jigsawref10_Local.f (k : Nat) (a : Int) (l : List Int) (m : List Int) (b : List Int) (c : List Int) (d : List Int) (e : Int) (g : List (List Int)) : Option (Int × List Int × List Int × List Int × List Int × List Int × Int × (List (List Int))) := jigsawref10_Local.l0 k 0 a l m b c d e g a ([] : List Int) b c d e g
theorem jigsawref10_Local.mono_l : ∀ k, (∀ g l m n o p q s t u a b c d e f, LeO (jigsawref10_Local.l0 k g l m n o p q s t u a b c d e f) (jigsawref10_Local.l0 (k + 1) g l m n o p q s t u a b c d e f)) ∧ (∀ g l m n o p q s t u a b c d e f v, LeO (jigsawref10_Local.l1 k g l m n o p q s t u a b c d e f v) (jigsawref10_Local.l1 (k + 1) g l m n o p q s t u a b c d e f v))
 | 0 => by refine ⟨?_, ?_⟩ <;> (intros; exact LeO.none _)
 | k + 1 => by
  obtain ⟨ih0, ih1⟩ := jigsawref10_Local.mono_l k
  refine ⟨?_, ?_⟩ <;> intros
  all_goals first | unfold jigsawref10_Local.l0 | unfold jigsawref10_Local.l1
  all_goals exact leo_
theorem jigsawref10_Local.mono : ∀ a b c d e g l m k, LeO (jigsawref10_Local.f k a b c d e g l m) (jigsawref10_Local.f (k + 1) a b c d e g l m) := by
 intro a b c d e g l m k
 obtain ⟨ih0, ih1⟩ := jigsawref10_Local.mono_l k
 unfold jigsawref10_Local.f
 exact leo_
set_option maxHeartbeats 8000000 in
set_option maxRecDepth 100000 in
theorem jigsawref10_Local.calls (k : Nat) (r : Int) (O : Option Addr) (c0_1 : Nat) (z : List Int) (P : Option Addr) (c0_2 : Nat) (E : List Int) (P0_3_ : Nat → Prop) (A : Option Addr) (c0_3 : Nat) (l : List Int) (P0_4_ : Nat → Prop) (B : Option Addr) (c0_4 : Nat) (n : List Int) (P0_5_ : Nat → Prop) (G : Option Addr) (c0_5 : Nat) (q : List Int) (F : Int) (P0_7_ : Nat → Prop) (I : Option Addr) (c0_7 : Nat) (s : List (List Int)) (r1 : Int) (r2 : List Int) (r3 : List Int) (r4 : List Int) (r5 : List Int) (r6 : List Int) (r7 : Int) (r8 : List (List Int)) (w : World) (aA : Kd.C (Kd.int .i64) w O z.length z) (al : z.length ≤ c0_1) (aC : Kd.C (Kd.int .i64) w P E.length E) (am : E.length ≤ c0_2) (aD : Kd.V (Kd.int .i64) 3 w w.heap.size (fun a => P0_3_ a) (.slice A l.length c0_3) l) (aE : Kd.V (Kd.int .i64) 3 w w.heap.size (fun a => P0_4_ a) (.slice B n.length c0_4) n) (aG : Kd.V (Kd.int .i64) 3 w w.heap.size (fun a => P0_5_ a) (.slice G q.length c0_5) q) (aH : Kd.V (Kd.slice 3 (Kd.int .i64)) 30 w w.heap.size (fun a => P0_7_ a) (.slice I s.length c0_7) s) (h : jigsawref10_Local.f k r z E l n q F s = some (r1, r2, r3, r4, r5, r6, r7, r8)) :
  Calls Tryz.prog 19 #[.agg #[.int .i64 r, .slice O z.length c0_1, .slice P E.length c0_2, .slice A l.length c0_3, .slice B n.length c0_4, .slice G q.length c0_5, .int .i64 F, .slice I s.length c0_7]] w fun e w' => ∃ ah ai aQ aR aT aU : Value, e = .returned (.agg #[.int .i64 r1, ah, ai, aQ, aR, aT, .int .i64 r7, aU]) ∧ Kd.R (Kd.int .i64) 3 w' w.heap.size (fun a => (w.heap.size ≤ a) ∧ some a ≠ ai.ownBlock) ah r2 ∧ Kd.R (Kd.int .i64) 3 w' w.heap.size (fun a => (w.heap.size ≤ a) ∧ some a ≠ ah.ownBlock) ai r3 ∧ Kd.V (Kd.int .i64) 3 w' w.heap.size (fun a => ((P0_3_ a ∨ P0_4_ a ∨ P0_5_ a ∨ P0_7_ a) ∨ w.heap.size ≤ a) ∧ some a ≠ ah.ownBlock ∧ some a ≠ ai.ownBlock) aQ r4 ∧ Kd.V (Kd.int .i64) 3 w' w.heap.size (fun a => ((P0_3_ a ∨ P0_4_ a ∨ P0_5_ a ∨ P0_7_ a) ∨ w.heap.size ≤ a) ∧ some a ≠ ah.ownBlock ∧ some a ≠ ai.ownBlock) aR r5 ∧ Kd.V (Kd.int .i64) 3 w' w.heap.size (fun a => ((P0_3_ a ∨ P0_4_ a ∨ P0_5_ a ∨ P0_7_ a) ∨ w.heap.size ≤ a) ∧ some a ≠ ah.ownBlock ∧ some a ≠ ai.ownBlock) aT r6 ∧ Kd.V (Kd.slice 3 (Kd.int .i64)) 30 w' w.heap.size (fun a => ((P0_3_ a ∨ P0_4_ a ∨ P0_5_ a ∨ P0_7_ a) ∨ w.heap.size ≤ a) ∧ some a ≠ ah.ownBlock ∧ some a ≠ ai.ownBlock) aU r8 ∧ Below w.heap.size w w' := by
 have hu32 := Tryz.underlying32
 have a4 := a_ al
 clear aA al
 have a5 := a_ am
 clear aC am
 have W := a_ (show Kd.V (Kd.int .i64) 3 w w.heap.size (fun a => ((P0_3_ a ∨ P0_4_ a ∨ P0_5_ a ∨ P0_7_ a) ∨ w.heap.size ≤ a)) (.slice A l.length c0_3) l from vm_ aD (fun a hk => .inl (.inl hk)))
 have X := a_ (show Kd.V (Kd.int .i64) 3 w w.heap.size (fun a => ((P0_3_ a ∨ P0_4_ a ∨ P0_5_ a ∨ P0_7_ a) ∨ w.heap.size ≤ a)) (.slice B n.length c0_4) n from vm_ aE (fun a hk => .inl (.inr (.inl hk))))
 have Y := a_ (show Kd.V (Kd.int .i64) 3 w w.heap.size (fun a => ((P0_3_ a ∨ P0_4_ a ∨ P0_5_ a ∨ P0_7_ a) ∨ w.heap.size ≤ a)) (.slice G q.length c0_5) q from vm_ aG (fun a hk => .inl (.inr (.inr (.inl hk)))))
 have Z := a_ (show Kd.V (Kd.slice 3 (Kd.int .i64)) 30 w w.heap.size (fun a => ((P0_3_ a ∨ P0_4_ a ∨ P0_5_ a ∨ P0_7_ a) ∨ w.heap.size ≤ a)) (.slice I s.length c0_7) s from vm_ aH (fun a hk => .inl (.inr (.inr (.inr hk)))))
 have HB := a_ (Below.refl w.heap.size w)
 unfold jigsawref10_Local.f at h
 have H := h
 clear h
 have H' := a_ H
 clear H
 go_enter Tryz.func19, Tryz.ntmps19
 go_wp2_with (first | ((with_reducible refine gate_dst (N := 1) rfl ?_); refine bxe_ (N := 1) (cs := #[.int .i64 r, .slice O z.length c0_1, .slice P E.length c0_2, .slice A l.length c0_3, .slice B n.length c0_4, .slice G q.length c0_5, .int .i64 F, .slice I s.length c0_7]) (t := 32) ?_; intro g hg w2 hbox hb; replace W := a_ (vb_ (Kd.V_elderB (vV_ W.out) g (Nat.le_of_eq hg.symm)) hb); replace X := a_ (vb_ (Kd.V_elderB (vV_ X.out) g (Nat.le_of_eq hg.symm)) hb); replace Y := a_ (vb_ (Kd.V_elderB (vV_ Y.out) g (Nat.le_of_eq hg.symm)) hb); replace Z := a_ (vb_ (Kd.V_elderB (vV_ Z.out) g (Nat.le_of_eq hg.symm)) hb); have u := a_ (hbox); have aI := a_ (by rw [hg]; exact (bz_ bel_) : w.heap.size ≤ g); have a6 := aI; replace HB := hq_ hb; clear hb hbox hg) | ((with_reducible refine gate_dst (N := 2) rfl ?_); refine bxe_ (N := 2) (cs := #[.int .i64 0, .slice none 0 0, .slice none 0 0, .slice none 0 0, .slice none 0 0, .slice none 0 0, .int .i64 0, .slice none 0 0]) (t := 32) ?_; intro d hg w3 hbox hb; replace W := a_ (vb_ (Kd.V_elderB (vV_ W.out) d (Nat.le_of_eq hg.symm)) hb); replace X := a_ (vb_ (Kd.V_elderB (vV_ X.out) d (Nat.le_of_eq hg.symm)) hb); replace Y := a_ (vb_ (Kd.V_elderB (vV_ Y.out) d (Nat.le_of_eq hg.symm)) hb); replace Z := a_ (vb_ (Kd.V_elderB (vV_ Z.out) d (Nat.le_of_eq hg.symm)) hb); have y := a_ (hbox); have aJ := a_ (by rw [hg]; exact (bz_ bel_) : w.heap.size ≤ d); have a7 := aJ; replace HB := hq_ hb; have J := a_ ((by rw [hg]; exact Nat.ne_of_lt (blk_lt (bk_ u.out)) : g ≠ d)); have K := a_ ((by rw [hg]; exact Nat.ne_of_gt (blk_lt (bk_ u.out)) : d ≠ g)); replace u := a_ (bq_ u.out hb); clear hb hbox hg; have bw := J.out; have bx := K.out; obtain ⟨_, _, _, _, _, _, _, _, _, _, _, _, _, _, _, _⟩ := cel8_ u.out) | ((with_reducible refine gate_dst (N := 3) rfl ?_); refine bxe_ (N := 3) (cs := #[.int .i64 0, .slice none 0 0, .slice none 0 0, .slice none 0 0, .slice none 0 0, .slice none 0 0, .int .i64 0, .slice none 0 0]) (t := 32) ?_; intro c hg w6 hbox hb; replace W := a_ (vb_ (Kd.V_elderB (vV_ W.out) c (Nat.le_of_eq hg.symm)) hb); replace X := a_ (vb_ (Kd.V_elderB (vV_ X.out) c (Nat.le_of_eq hg.symm)) hb); replace Y := a_ (vb_ (Kd.V_elderB (vV_ Y.out) c (Nat.le_of_eq hg.symm)) hb); replace Z := a_ (vb_ (Kd.V_elderB (vV_ Z.out) c (Nat.le_of_eq hg.symm)) hb); have x := a_ (hbox); have aK := a_ (by rw [hg]; exact (bz_ bel_) : w.heap.size ≤ c); have a8 := aK; replace HB := hq_ hb; have m := a_ ((by rw [hg]; exact Nat.ne_of_lt (blk_lt (bk_ u.out)) : g ≠ c)); have M := a_ ((by rw [hg]; exact Nat.ne_of_gt (blk_lt (bk_ u.out)) : c ≠ g)); replace u := a_ (bq_ u.out hb); have o := a_ ((by rw [hg]; exact Nat.ne_of_lt (blk_lt (bk_ y.out)) : d ≠ c)); have aa := a_ ((by rw [hg]; exact Nat.ne_of_gt (blk_lt (bk_ y.out)) : c ≠ d)); replace y := a_ (bq_ y.out hb); clear hb hbox hg; have bz := M.out; have bA := m.out; have bB := aa.out; have bC := o.out; obtain ⟨_, _, _, _, _, _, _, _, _, _, _, _, _, _, _, _⟩ := cel8_ x.out))
 go_loopg [4] k (fun kq v4 w' => ∃ (Q : Int) (p : List Int) (u632001 : Value), v4 = .int .i64 Q ∧ Aside0 (jigsawref10_Local.l0 kq Q r z E l n q F s r p l n q F s = some (r1, r2, r3, r4, r5, r6, r7, r8)) ∧ Aside0 (kq ≤ k) ∧ Aside0 (Kd.V (Kd.int .i64) 3 w' w.heap.size (fun a => ((P0_3_ a ∨ P0_4_ a ∨ P0_5_ a ∨ P0_7_ a) ∨ w.heap.size ≤ a) ∧ some a ≠ u632001.ownBlock ∧ a ≠ g ∧ a ≠ d ∧ a ≠ c) (.slice A l.length c0_3) l) ∧ Aside0 (Kd.V (Kd.int .i64) 3 w' w.heap.size (fun a => ((P0_3_ a ∨ P0_4_ a ∨ P0_5_ a ∨ P0_7_ a) ∨ w.heap.size ≤ a) ∧ some a ≠ u632001.ownBlock ∧ a ≠ g ∧ a ≠ d ∧ a ≠ c) (.slice B n.length c0_4) n) ∧ Aside0 (Kd.V (Kd.int .i64) 3 w' w.heap.size (fun a => ((P0_3_ a ∨ P0_4_ a ∨ P0_5_ a ∨ P0_7_ a) ∨ w.heap.size ≤ a) ∧ some a ≠ u632001.ownBlock ∧ a ≠ g ∧ a ≠ d ∧ a ≠ c) (.slice G q.length c0_5) q) ∧ Aside0 (Kd.V (Kd.slice 3 (Kd.int .i64)) 30 w' w.heap.size (fun a => ((P0_3_ a ∨ P0_4_ a ∨ P0_5_ a ∨ P0_7_ a) ∨ w.heap.size ≤ a) ∧ some a ≠ u632001.ownBlock ∧ a ≠ g ∧ a ≠ d ∧ a ≠ c) (.slice I s.length c0_7) s) ∧ Aside0 (Kd.R (Kd.int .i64) 3 w' w.heap.size (fun a => (w.heap.size ≤ a)) u632001 p) ∧ Aside0 (Kd.V (Kd.int .i64) 3 w' w.heap.size (fun a => ((P0_3_ a ∨ P0_4_ a ∨ P0_5_ a ∨ P0_7_ a) ∨ w.heap.size ≤ a) ∧ some a ≠ u632001.ownBlock ∧ a ≠ g ∧ a ≠ d ∧ a ≠ c) (.slice A l.length c0_3) l) ∧ Aside0 (Kd.V (Kd.int .i64) 3 w' w.heap.size (fun a => ((P0_3_ a ∨ P0_4_ a ∨ P0_5_ a ∨ P0_7_ a) ∨ w.heap.size ≤ a) ∧ some a ≠ u632001.ownBlock ∧ a ≠ g ∧ a ≠ d ∧ a ≠ c) (.slice B n.length c0_4) n) ∧ Aside0 (Kd.V (Kd.int .i64) 3 w' w.heap.size (fun a => ((P0_3_ a ∨ P0_4_ a ∨ P0_5_ a ∨ P0_7_ a) ∨ w.heap.size ≤ a) ∧ some a ≠ u632001.ownBlock ∧ a ≠ g ∧ a ≠ d ∧ a ≠ c) (.slice G q.length c0_5) q) ∧ Aside0 (Kd.V (Kd.slice 3 (Kd.int .i64)) 30 w' w.heap.size (fun a => ((P0_3_ a ∨ P0_4_ a ∨ P0_5_ a ∨ P0_7_ a) ∨ w.heap.size ≤ a) ∧ some a ≠ u632001.ownBlock ∧ a ≠ g ∧ a ≠ d ∧ a ≠ c) (.slice I s.length c0_7) s) ∧ Aside0 (w'.heap[g]? = some (.cells #[.int .i64 r, (.slice O z.length c0_1), (.slice P E.length c0_2), (.slice A l.length c0_3), (.slice B n.length c0_4), (.slice G q.length c0_5), .int .i64 F, (.slice I s.length c0_7)] 32 (0, 0))) ∧ Aside0 (w'.heap[d]? = some (.cells #[.int .i64 0, (.slice none 0 0), (.slice none 0 0), (.slice none 0 0), (.slice none 0 0), (.slice none 0 0), .int .i64 0, (.slice none 0 0)] 32 (0, 0))) ∧ Aside0 (w'.heap[c]? = some (.cells #[.int .i64 r, u632001, (.slice none 0 0), (.slice A l.length c0_3), (.slice B n.length c0_4), (.slice G q.length c0_5), .int .i64 F, (.slice I s.length c0_7)] 32 (0, 0))) ∧ Aside0 (Below w.heap.size w w'))
 case atStart => exact ⟨(0), (([] : List Int)), (.slice none 0 0), eq_, H', ⟨lr_ _⟩, ⟨by refine vV_ ?_; exact vm_ (fV_ (fV_ (fV_ (fV_ (fV_ (fV_ (fV_ (fV_ (fV_ (fV_ (vm_ W.out (fun a hk => (⟨hk, hk.2⟩ : _ ∧ a ≠ c))))))))))))) (fun _ hk => ⟨hk.1.1.1.1, ⟨(by simp [Value.ownBlock]), ⟨hk.1.1.1.2, ⟨hk.1.1.2, hk.1.2⟩⟩⟩⟩)⟩, ⟨by refine vV_ ?_; exact vm_ (fV_ (fV_ (fV_ (fV_ (fV_ (fV_ (fV_ (fV_ (fV_ (fV_ (vm_ X.out (fun a hk => (⟨hk, hk.2⟩ : _ ∧ a ≠ c))))))))))))) (fun _ hk => ⟨hk.1.1.1.1, ⟨(by simp [Value.ownBlock]), ⟨hk.1.1.1.2, ⟨hk.1.1.2, hk.1.2⟩⟩⟩⟩)⟩, ⟨by refine vV_ ?_; exact vm_ (fV_ (fV_ (fV_ (fV_ (fV_ (fV_ (fV_ (fV_ (fV_ (fV_ (vm_ Y.out (fun a hk => (⟨hk, hk.2⟩ : _ ∧ a ≠ c))))))))))))) (fun _ hk => ⟨hk.1.1.1.1, ⟨(by simp [Value.ownBlock]), ⟨hk.1.1.1.2, ⟨hk.1.1.2, hk.1.2⟩⟩⟩⟩)⟩, ⟨by refine vV_ ?_; exact vm_ (fV_ (fV_ (fV_ (fV_ (fV_ (fV_ (fV_ (fV_ (fV_ (fV_ (vm_ Z.out (fun a hk => (⟨hk, hk.2⟩ : _ ∧ a ≠ c))))))))))))) (fun _ hk => ⟨hk.1.1.1.1, ⟨(by simp [Value.ownBlock]), ⟨hk.1.1.1.2, ⟨hk.1.1.2, hk.1.2⟩⟩⟩⟩)⟩, ⟨nil_⟩, ⟨by refine vV_ ?_; exact vm_ (fV_ (fV_ (fV_ (fV_ (fV_ (fV_ (fV_ (fV_ (fV_ (fV_ (vm_ W.out (fun a hk => (⟨hk, hk.2⟩ : _ ∧ a ≠ c))))))))))))) (fun _ hk => ⟨hk.1.1.1.1, ⟨(by simp [Value.ownBlock]), ⟨hk.1.1.1.2, ⟨hk.1.1.2, hk.1.2⟩⟩⟩⟩)⟩, ⟨by refine vV_ ?_; exact vm_ (fV_ (fV_ (fV_ (fV_ (fV_ (fV_ (fV_ (fV_ (fV_ (fV_ (vm_ X.out (fun a hk => (⟨hk, hk.2⟩ : _ ∧ a ≠ c))))))))))))) (fun _ hk => ⟨hk.1.1.1.1, ⟨(by simp [Value.ownBlock]), ⟨hk.1.1.1.2, ⟨hk.1.1.2, hk.1.2⟩⟩⟩⟩)⟩, ⟨by refine vV_ ?_; exact vm_ (fV_ (fV_ (fV_ (fV_ (fV_ (fV_ (fV_ (fV_ (fV_ (fV_ (vm_ Y.out (fun a hk => (⟨hk, hk.2⟩ : _ ∧ a ≠ c))))))))))))) (fun _ hk => ⟨hk.1.1.1.1, ⟨(by simp [Value.ownBlock]), ⟨hk.1.1.1.2, ⟨hk.1.1.2, hk.1.2⟩⟩⟩⟩)⟩, ⟨by refine vV_ ?_; exact vm_ (fV_ (fV_ (fV_ (fV_ (fV_ (fV_ (fV_ (fV_ (fV_ (fV_ (vm_ Z.out (fun a hk => (⟨hk, hk.2⟩ : _ ∧ a ≠ c))))))))))))) (fun _ hk => ⟨hk.1.1.1.1, ⟨(by simp [Value.ownBlock]), ⟨hk.1.1.1.2, ⟨hk.1.1.2, hk.1.2⟩⟩⟩⟩)⟩, ⟨by refine bk_ ?_; refine blk_far ?_ m.out _; refine bk_ ?_; refine blk_far ?_ m.out _; refine bk_ ?_; refine blk_far ?_ m.out _; refine bk_ ?_; refine blk_far ?_ m.out _; refine bk_ ?_; refine blk_far ?_ m.out _; refine bk_ ?_; refine blk_far ?_ m.out _; refine bk_ ?_; refine blk_far ?_ m.out _; refine bk_ ?_; refine blk_far ?_ m.out _; refine bk_ ?_; refine blk_far ?_ m.out _; refine bk_ ?_; refine blk_far ?_ m.out _; refine bk_ ?_; exact u.out⟩, ⟨by refine bk_ ?_; refine blk_far ?_ o.out _; refine bk_ ?_; refine blk_far ?_ o.out _; refine bk_ ?_; refine blk_far ?_ o.out _; refine bk_ ?_; refine blk_far ?_ o.out _; refine bk_ ?_; refine blk_far ?_ o.out _; refine bk_ ?_; refine blk_far ?_ o.out _; refine bk_ ?_; refine blk_far ?_ o.out _; refine bk_ ?_; refine blk_far ?_ o.out _; refine bk_ ?_; refine blk_far ?_ o.out _; refine bk_ ?_; refine blk_far ?_ o.out _; refine bk_ ?_; exact y.out⟩, ⟨by refine bk_ ?_; refine bu_ (cs := #[.int .i64 r, .slice none 0 0, .slice P E.length c0_2, .slice A l.length c0_3, .slice B n.length c0_4, .slice G q.length c0_5, .int .i64 F, .slice I s.length c0_7]) ?_ 2 _ rfl; refine bk_ ?_; refine bu_ (cs := #[.int .i64 r, .slice O z.length c0_1, .slice P E.length c0_2, .slice A l.length c0_3, .slice B n.length c0_4, .slice G q.length c0_5, .int .i64 F, .slice I s.length c0_7]) ?_ 1 _ rfl; refine bk_ ?_; refine bu_ (cs := #[.int .i64 r, .slice O z.length c0_1, .slice P E.length c0_2, .slice A l.length c0_3, .slice B n.length c0_4, .slice G q.length c0_5, .int .i64 F, .slice none 0 0]) ?_ 7 _ rfl; refine bk_ ?_; refine bu_ (cs := #[.int .i64 r, .slice O z.length c0_1, .slice P E.length c0_2, .slice A l.length c0_3, .slice B n.length c0_4, .slice G q.length c0_5, .int .i64 0, .slice none 0 0]) ?_ 6 _ rfl; refine bk_ ?_; refine bu_ (cs := #[.int .i64 r, .slice O z.length c0_1, .slice P E.length c0_2, .slice A l.length c0_3, .slice B n.length c0_4, .slice none 0 0, .int .i64 0, .slice none 0 0]) ?_ 5 _ rfl; refine bk_ ?_; refine bu_ (cs := #[.int .i64 r, .slice O z.length c0_1, .slice P E.length c0_2, .slice A l.length c0_3, .slice none 0 0, .slice none 0 0, .int .i64 0, .slice none 0 0]) ?_ 4 _ rfl; refine bk_ ?_; refine bu_ (cs := #[.int .i64 r, .slice O z.length c0_1, .slice P E.length c0_2, .slice none 0 0, .slice none 0 0, .slice none 0 0, .int .i64 0, .slice none 0 0]) ?_ 3 _ rfl; refine bk_ ?_; refine bu_ (cs := #[.int .i64 r, .slice O z.length c0_1, .slice none 0 0, .slice none 0 0, .slice none 0 0, .slice none 0 0, .int .i64 0, .slice none 0 0]) ?_ 2 _ rfl; refine bk_ ?_; refine bu_ (cs := #[.int .i64 r, .slice none 0 0, .slice none 0 0, .slice none 0 0, .slice none 0 0, .slice none 0 0, .int .i64 0, .slice none 0 0]) ?_ 1 _ rfl; refine bk_ ?_; refine bu_ (cs := #[.int .i64 0, .slice none 0 0, .slice none 0 0, .slice none 0 0, .slice none 0 0, .slice none 0 0, .int .i64 0, .slice none 0 0]) ?_ 0 _ rfl; refine bk_ ?_; exact x.out⟩, ⟨bel_⟩⟩
 clear H'
 try clear c1
 try clear p2
 try clear c4
 try clear c7
 try clear c8
 obtain ⟨Q, p, u632001, rfl, HA, an, HO_630003, HO_630004, HO_630005, HO_630007, HO_632001, HO_632003, HO_632004, HO_632005, HO_632007, u, y, x, HB⟩ := hrel
 cases gk with
 | zero => exact absurd HA.out (by simp [jigsawref10_Local.l0])
 | succ k1 =>
  have H := HA.out
  clear HA
  simp only [jigsawref10_Local.l0] at H
  by_cases c10 : Q < (z.length : Int)
  ·
   rw [ip_ c10] at H
   have c10b0 : decide (Q < (z.length : Int)) = true := dt_ c10
   clear c10
   by_cases c11 : p.length < 17592186044416
   rotate_left
   ·
    rw [ig_ c11] at H
    exact ab_ H
   rw [ip_ c11] at H
   have LMc11 := a_ c11
   clear c11
   obtain ⟨aj, ad⟩ : ∃ y_ : List Int, y_ = (p ++ [Q]) := ⟨_, rfl⟩
   replace H : (jigsawref10_Local.l0 k1 (wrap64 (Q + 1)) r z E l n q F s r aj l n q F s) = some (r1, r2, r3, r4, r5, r6, r7, r8) := h2_ H ad
   have aM := a_ ad
   clear ad
   have H' := a_ H
   clear H
   have a9 := J.out
   have ba := K.out
   have bb := m.out
   have bc := M.out
   obtain ⟨_, _, _, _, _, _, _, _, _, _, _, _, _, _, _, _⟩ := cel8_ u.out
   have bd := aa.out
   have be := o.out
   obtain ⟨_, _, _, _, _, _, _, _, _, _, _, _, _, _, _, _⟩ := cel8_ x.out
   go_wp2_with (first | ((with_reducible refine gate_builtin (b := .append) (xs := #[.tmp 17, .tmp 19]) rfl ?_); at_builtin; refine Kd.R_append (Kd.int .i64) (w0 := w) w.heap.size rfl (.tmp 17) (.tmp 19) 30 3 (.int .i64 0) 8 rfl Tryz.underlying30 info3 rfl (by decide) (by omega) u632001 p Q [.int .i64 Q] (fun a => (w.heap.size ≤ a)) (fun _ => False) rfl rfl ?aP (fun _ hk => hk.elim) ?aF ?aO ?aB ?aS ?aL ?_; (case aP => exact rfl); (case aB => exact bel_); (case aF => exact (fun a hk => (Nat.le_trans (bz_ bel_) hk))); (case aO => exact (vR_ HO_632001.out)); (case aS => exact (bz_ bel_)); (case aL => have := LMc11.out; omega); intro bE w17 ho hb hg hat; rw [← aM.out] at ho; replace HO_630003 := a_ (Kd.V_afterv (ok := (fun a => ((P0_3_ a ∨ P0_4_ a ∨ P0_5_ a ∨ P0_7_ a) ∨ w.heap.size ≤ a) ∧ a ≠ g ∧ a ≠ d ∧ a ≠ c)) (by refine vV_ ?_; exact vm_ HO_630003.out (fun _ hk => ⟨⟨hk.1, ⟨hk.2.2.1, ⟨hk.2.2.2.1, hk.2.2.2.2⟩⟩⟩, hk.2.1⟩)) hg hat); replace HO_630004 := a_ (Kd.V_afterv (ok := (fun a => ((P0_3_ a ∨ P0_4_ a ∨ P0_5_ a ∨ P0_7_ a) ∨ w.heap.size ≤ a) ∧ a ≠ g ∧ a ≠ d ∧ a ≠ c)) (by refine vV_ ?_; exact vm_ HO_630004.out (fun _ hk => ⟨⟨hk.1, ⟨hk.2.2.1, ⟨hk.2.2.2.1, hk.2.2.2.2⟩⟩⟩, hk.2.1⟩)) hg hat); replace HO_630005 := a_ (Kd.V_afterv (ok := (fun a => ((P0_3_ a ∨ P0_4_ a ∨ P0_5_ a ∨ P0_7_ a) ∨ w.heap.size ≤ a) ∧ a ≠ g ∧ a ≠ d ∧ a ≠ c)) (by refine vV_ ?_; exact vm_ HO_630005.out (fun _ hk => ⟨⟨hk.1, ⟨hk.2.2.1, ⟨hk.2.2.2.1, hk.2.2.2.2⟩⟩⟩, hk.2.1⟩)) hg hat); replace HO_630007 := a_ (Kd.V_afterv (ok := (fun a => ((P0_3_ a ∨ P0_4_ a ∨ P0_5_ a ∨ P0_7_ a) ∨ w.heap.size ≤ a) ∧ a ≠ g ∧ a ≠ d ∧ a ≠ c)) (by refine vV_ ?_; exact vm_ HO_630007.out (fun _ hk => ⟨⟨hk.1, ⟨hk.2.2.1, ⟨hk.2.2.2.1, hk.2.2.2.2⟩⟩⟩, hk.2.1⟩)) hg hat); replace HO_632003 := a_ (Kd.V_afterv (ok := (fun a => ((P0_3_ a ∨ P0_4_ a ∨ P0_5_ a ∨ P0_7_ a) ∨ w.heap.size ≤ a) ∧ a ≠ g ∧ a ≠ d ∧ a ≠ c)) (by refine vV_ ?_; exact vm_ HO_632003.out (fun _ hk => ⟨⟨hk.1, ⟨hk.2.2.1, ⟨hk.2.2.2.1, hk.2.2.2.2⟩⟩⟩, hk.2.1⟩)) hg hat); replace HO_632004 := a_ (Kd.V_afterv (ok := (fun a => ((P0_3_ a ∨ P0_4_ a ∨ P0_5_ a ∨ P0_7_ a) ∨ w.heap.size ≤ a) ∧ a ≠ g ∧ a ≠ d ∧ a ≠ c)) (by refine vV_ ?_; exact vm_ HO_632004.out (fun _ hk => ⟨⟨hk.1, ⟨hk.2.2.1, ⟨hk.2.2.2.1, hk.2.2.2.2⟩⟩⟩, hk.2.1⟩)) hg hat); replace HO_632005 := a_ (Kd.V_afterv (ok := (fun a => ((P0_3_ a ∨ P0_4_ a ∨ P0_5_ a ∨ P0_7_ a) ∨ w.heap.size ≤ a) ∧ a ≠ g ∧ a ≠ d ∧ a ≠ c)) (by refine vV_ ?_; exact vm_ HO_632005.out (fun _ hk => ⟨⟨hk.1, ⟨hk.2.2.1, ⟨hk.2.2.2.1, hk.2.2.2.2⟩⟩⟩, hk.2.1⟩)) hg hat); replace HO_632007 := a_ (Kd.V_afterv (ok := (fun a => ((P0_3_ a ∨ P0_4_ a ∨ P0_5_ a ∨ P0_7_ a) ∨ w.heap.size ≤ a) ∧ a ≠ g ∧ a ≠ d ∧ a ≠ c)) (by refine vV_ ?_; exact vm_ HO_632007.out (fun _ hk => ⟨⟨hk.1, ⟨hk.2.2.1, ⟨hk.2.2.2.1, hk.2.2.2.2⟩⟩⟩, hk.2.1⟩)) hg hat); replace u := a_ (blk_grown (bk_ u.out) hg (Kd.R_ne HO_632001.out u.out (by decide))); replace y := a_ (blk_grown (bk_ y.out) hg (Kd.R_ne HO_632001.out y.out (by decide))); replace x := a_ (blk_grown (bk_ x.out) hg (Kd.R_ne HO_632001.out x.out (by decide))); replace HB := a_ (hb); have ao := a_ (ho); clear HO_632001; clear ho hb hg hat; obtain ⟨aW, aX, aY⟩ := Kd.R_slice ao.out; subst aY; obtain ⟨_, _, _, _, _, _, _, _, _, _, _, _, _, _, _, _⟩ := cel8_ x.out))
   go_roundg k1
   case measure => have := an.out; omega
   exact ⟨(wrap64 (Q + 1)), (aj), (.slice aW aj.length aX), eq_, H', ⟨by have := an.out; omega⟩, ⟨by refine vV_ ?_; exact vm_ (fV_ (vm_ HO_630003.out (fun a hk => (⟨hk, hk.1.2.2.2⟩ : _ ∧ a ≠ c)))) (fun _ hk => ⟨hk.1.1.1, ⟨hk.1.2, ⟨hk.1.1.2.1, ⟨hk.1.1.2.2.1, hk.1.1.2.2.2⟩⟩⟩⟩)⟩, ⟨by refine vV_ ?_; exact vm_ (fV_ (vm_ HO_630004.out (fun a hk => (⟨hk, hk.1.2.2.2⟩ : _ ∧ a ≠ c)))) (fun _ hk => ⟨hk.1.1.1, ⟨hk.1.2, ⟨hk.1.1.2.1, ⟨hk.1.1.2.2.1, hk.1.1.2.2.2⟩⟩⟩⟩)⟩, ⟨by refine vV_ ?_; exact vm_ (fV_ (vm_ HO_630005.out (fun a hk => (⟨hk, hk.1.2.2.2⟩ : _ ∧ a ≠ c)))) (fun _ hk => ⟨hk.1.1.1, ⟨hk.1.2, ⟨hk.1.1.2.1, ⟨hk.1.1.2.2.1, hk.1.1.2.2.2⟩⟩⟩⟩)⟩, ⟨by refine vV_ ?_; exact vm_ (fV_ (vm_ HO_630007.out (fun a hk => (⟨hk, hk.1.2.2.2⟩ : _ ∧ a ≠ c)))) (fun _ hk => ⟨hk.1.1.1, ⟨hk.1.2, ⟨hk.1.1.2.1, ⟨hk.1.1.2.2.1, hk.1.1.2.2.2⟩⟩⟩⟩)⟩, ⟨by refine vR_ ?_; exact rm_ (fR_ (rt_ ao.out x.out (by decide))) (fun _ hk => hk.1)⟩, ⟨by refine vV_ ?_; exact vm_ (fV_ (vm_ HO_632003.out (fun a hk => (⟨hk, hk.1.2.2.2⟩ : _ ∧ a ≠ c)))) (fun _ hk => ⟨hk.1.1.1, ⟨hk.1.2, ⟨hk.1.1.2.1, ⟨hk.1.1.2.2.1, hk.1.1.2.2.2⟩⟩⟩⟩)⟩, ⟨by refine vV_ ?_; exact vm_ (fV_ (vm_ HO_632004.out (fun a hk => (⟨hk, hk.1.2.2.2⟩ : _ ∧ a ≠ c)))) (fun _ hk => ⟨hk.1.1.1, ⟨hk.1.2, ⟨hk.1.1.2.1, ⟨hk.1.1.2.2.1, hk.1.1.2.2.2⟩⟩⟩⟩)⟩, ⟨by refine vV_ ?_; exact vm_ (fV_ (vm_ HO_632005.out (fun a hk => (⟨hk, hk.1.2.2.2⟩ : _ ∧ a ≠ c)))) (fun _ hk => ⟨hk.1.1.1, ⟨hk.1.2, ⟨hk.1.1.2.1, ⟨hk.1.1.2.2.1, hk.1.1.2.2.2⟩⟩⟩⟩)⟩, ⟨by refine vV_ ?_; exact vm_ (fV_ (vm_ HO_632007.out (fun a hk => (⟨hk, hk.1.2.2.2⟩ : _ ∧ a ≠ c)))) (fun _ hk => ⟨hk.1.1.1, ⟨hk.1.2, ⟨hk.1.1.2.1, ⟨hk.1.1.2.2.1, hk.1.1.2.2.2⟩⟩⟩⟩)⟩, ⟨by refine bk_ ?_; refine blk_far ?_ m.out _; refine bk_ ?_; exact u.out⟩, ⟨by refine bk_ ?_; refine blk_far ?_ o.out _; refine bk_ ?_; exact y.out⟩, ⟨by refine bk_ ?_; refine bu_ (cs := #[.int .i64 r, u632001, .slice none 0 0, .slice A l.length c0_3, .slice B n.length c0_4, .slice G q.length c0_5, .int .i64 F, .slice I s.length c0_7]) ?_ 1 _ rfl; refine bk_ ?_; exact x.out⟩, ⟨bel_⟩⟩
  rw [ig_ c10] at H
  have c10b0 : decide (Q < (z.length : Int)) = false := df_ c10
  clear c10
  have H' := a_ H
  clear H
  have bf := J.out
  have bg := K.out
  have bh := m.out
  have bi := M.out
  obtain ⟨_, _, _, _, _, _, _, _, _, _, _, _, _, _, _, _⟩ := cel8_ u.out
  go_wp2
  go_loopg [5] k1 (fun kq v5 w' => ∃ (U : Int) (v : List Int) (u632002 : Value), v5 = .int .i64 U ∧ Aside0 (jigsawref10_Local.l1 kq U r z E l n q F s r p v l n q F s = some (r1, r2, r3, r4, r5, r6, r7, r8)) ∧ Aside0 (kq ≤ k1) ∧ Aside0 (Kd.V (Kd.int .i64) 3 w' w.heap.size (fun a => ((P0_3_ a ∨ P0_4_ a ∨ P0_5_ a ∨ P0_7_ a) ∨ w.heap.size ≤ a) ∧ some a ≠ u632001.ownBlock ∧ some a ≠ u632002.ownBlock ∧ a ≠ g ∧ a ≠ d ∧ a ≠ c) (.slice A l.length c0_3) l) ∧ Aside0 (Kd.V (Kd.int .i64) 3 w' w.heap.size (fun a => ((P0_3_ a ∨ P0_4_ a ∨ P0_5_ a ∨ P0_7_ a) ∨ w.heap.size ≤ a) ∧ some a ≠ u632001.ownBlock ∧ some a ≠ u632002.ownBlock ∧ a ≠ g ∧ a ≠ d ∧ a ≠ c) (.slice B n.length c0_4) n) ∧ Aside0 (Kd.V (Kd.int .i64) 3 w' w.heap.size (fun a => ((P0_3_ a ∨ P0_4_ a ∨ P0_5_ a ∨ P0_7_ a) ∨ w.heap.size ≤ a) ∧ some a ≠ u632001.ownBlock ∧ some a ≠ u632002.ownBlock ∧ a ≠ g ∧ a ≠ d ∧ a ≠ c) (.slice G q.length c0_5) q) ∧ Aside0 (Kd.V (Kd.slice 3 (Kd.int .i64)) 30 w' w.heap.size (fun a => ((P0_3_ a ∨ P0_4_ a ∨ P0_5_ a ∨ P0_7_ a) ∨ w.heap.size ≤ a) ∧ some a ≠ u632001.ownBlock ∧ some a ≠ u632002.ownBlock ∧ a ≠ g ∧ a ≠ d ∧ a ≠ c) (.slice I s.length c0_7) s) ∧ Aside0 (Kd.R (Kd.int .i64) 3 w' w.heap.size (fun a => (w.heap.size ≤ a) ∧ some a ≠ u632002.ownBlock) u632001 p) ∧ Aside0 (Kd.R (Kd.int .i64) 3 w' w.heap.size (fun a => (w.heap.size ≤ a) ∧ some a ≠ u632001.ownBlock) u632002 v) ∧ Aside0 (Kd.V (Kd.int .i64) 3 w' w.heap.size (fun a => ((P0_3_ a ∨ P0_4_ a ∨ P0_5_ a ∨ P0_7_ a) ∨ w.heap.size ≤ a) ∧ some a ≠ u632001.ownBlock ∧ some a ≠ u632002.ownBlock ∧ a ≠ g ∧ a ≠ d ∧ a ≠ c) (.slice A l.length c0_3) l) ∧ Aside0 (Kd.V (Kd.int .i64) 3 w' w.heap.size (fun a => ((P0_3_ a ∨ P0_4_ a ∨ P0_5_ a ∨ P0_7_ a) ∨ w.heap.size ≤ a) ∧ some a ≠ u632001.ownBlock ∧ some a ≠ u632002.ownBlock ∧ a ≠ g ∧ a ≠ d ∧ a ≠ c) (.slice B n.length c0_4) n) ∧ Aside0 (Kd.V (Kd.int .i64) 3 w' w.heap.size (fun a => ((P0_3_ a ∨ P0_4_ a ∨ P0_5_ a ∨ P0_7_ a) ∨ w.heap.size ≤ a) ∧ some a ≠ u632001.ownBlock ∧ some a ≠ u632002.ownBlock ∧ a ≠ g ∧ a ≠ d ∧ a ≠ c) (.slice G q.length c0_5) q) ∧ Aside0 (Kd.V (Kd.slice 3 (Kd.int .i64)) 30 w' w.heap.size (fun a => ((P0_3_ a ∨ P0_4_ a ∨ P0_5_ a ∨ P0_7_ a) ∨ w.heap.size ≤ a) ∧ some a ≠ u632001.ownBlock ∧ some a ≠ u632002.ownBlock ∧ a ≠ g ∧ a ≠ d ∧ a ≠ c) (.slice I s.length c0_7) s) ∧ Aside0 (w'.heap[g]? = some (.cells #[.int .i64 r, (.slice O z.length c0_1), (.slice P E.length c0_2), (.slice A l.length c0_3), (.slice B n.length c0_4), (.slice G q.length c0_5), .int .i64 F, (.slice I s.length c0_7)] 32 (0, 0))) ∧ Aside0 (w'.heap[d]? = some (.cells #[.int .i64 0, (.slice none 0 0), (.slice none 0 0), (.slice none 0 0), (.slice none 0 0), (.slice none 0 0), .int .i64 0, (.slice none 0 0)] 32 (0, 0))) ∧ Aside0 (w'.heap[c]? = some (.cells #[.int .i64 r, u632001, u632002, (.slice A l.length c0_3), (.slice B n.length c0_4), (.slice G q.length c0_5), .int .i64 F, (.slice I s.length c0_7)] 32 (0, 0))) ∧ Aside0 (Below w.heap.size w w'))
  case atStart => exact ⟨(0), (([] : List Int)), (.slice none 0 0), eq_, H', ⟨lr_ _⟩, ⟨by refine vV_ ?_; exact vm_ HO_630003.out (fun _ hk => ⟨hk.1, ⟨hk.2.1, ⟨(by simp [Value.ownBlock]), ⟨hk.2.2.1, ⟨hk.2.2.2.1, hk.2.2.2.2⟩⟩⟩⟩⟩)⟩, ⟨by refine vV_ ?_; exact vm_ HO_630004.out (fun _ hk => ⟨hk.1, ⟨hk.2.1, ⟨(by simp [Value.ownBlock]), ⟨hk.2.2.1, ⟨hk.2.2.2.1, hk.2.2.2.2⟩⟩⟩⟩⟩)⟩, ⟨by refine vV_ ?_; exact vm_ HO_630005.out (fun _ hk => ⟨hk.1, ⟨hk.2.1, ⟨(by simp [Value.ownBlock]), ⟨hk.2.2.1, ⟨hk.2.2.2.1, hk.2.2.2.2⟩⟩⟩⟩⟩)⟩, ⟨by refine vV_ ?_; exact vm_ HO_630007.out (fun _ hk => ⟨hk.1, ⟨hk.2.1, ⟨(by simp [Value.ownBlock]), ⟨hk.2.2.1, ⟨hk.2.2.2.1, hk.2.2.2.2⟩⟩⟩⟩⟩)⟩, ⟨by refine vR_ ?_; exact rm_ HO_632001.out (fun _ hk => ⟨hk, (by simp [Value.ownBlock])⟩)⟩, ⟨nil_⟩, ⟨by refine vV_ ?_; exact vm_ HO_632003.out (fun _ hk => ⟨hk.1, ⟨hk.2.1, ⟨(by simp [Value.ownBlock]), ⟨hk.2.2.1, ⟨hk.2.2.2.1, hk.2.2.2.2⟩⟩⟩⟩⟩)⟩, ⟨by refine vV_ ?_; exact vm_ HO_632004.out (fun _ hk => ⟨hk.1, ⟨hk.2.1, ⟨(by simp [Value.ownBlock]), ⟨hk.2.2.1, ⟨hk.2.2.2.1, hk.2.2.2.2⟩⟩⟩⟩⟩)⟩, ⟨by refine vV_ ?_; exact vm_ HO_632005.out (fun _ hk => ⟨hk.1, ⟨hk.2.1, ⟨(by simp [Value.ownBlock]), ⟨hk.2.2.1, ⟨hk.2.2.2.1, hk.2.2.2.2⟩⟩⟩⟩⟩)⟩, ⟨by refine vV_ ?_; exact vm_ HO_632007.out (fun _ hk => ⟨hk.1, ⟨hk.2.1, ⟨(by simp [Value.ownBlock]), ⟨hk.2.2.1, ⟨hk.2.2.2.1, hk.2.2.2.2⟩⟩⟩⟩⟩)⟩, ⟨bk_ u.out⟩, ⟨bk_ y.out⟩, ⟨bk_ x.out⟩, ⟨bel_⟩⟩
  clear H'
  try clear c1
  try clear c2
  try clear p2
  try clear c4
  try clear p6
  try clear c7
  try clear c8
  try clear c10
  try clear c10b0
  try clear c11
  try clear c12
  try clear c13
  try clear c15
  try clear c19
  try clear c20
  try clear c21
  try clear p2
  obtain ⟨U, v, u632002, rfl, HA, aV, HO_630003, HO_630004, HO_630005, HO_630007, HO_632001, HO_632002, HO_632003, HO_632004, HO_632005, HO_632007, u, y, x, HB⟩ := hrel
  cases gk with
  | zero => exact absurd HA.out (by simp [jigsawref10_Local.l1])
  | succ k2 =>
   have H := HA.out
   clear HA
   simp only [jigsawref10_Local.l1] at H
   by_cases c23 : U < (E.length : Int)
   rotate_left
   ·
    rw [ig_ c23] at H
    have c23b0 : decide (U < (E.length : Int)) = false := df_ c23
    clear c23
    simp only [Option.some.injEq, Prod.mk.injEq] at H
    obtain ⟨rfl, rfl, rfl, rfl, rfl, rfl, rfl, rfl⟩ := H
    have bp := J.out
    have bq := K.out
    have br := m.out
    have bs := M.out
    obtain ⟨_, _, _, _, _, _, _, _, _, _, _, _, _, _, _, _⟩ := cel8_ u.out
    have bu := aa.out
    have bv := o.out
    obtain ⟨_, _, _, _, _, _, _, _, _, _, _, _, _, _, _, _⟩ := cel8_ x.out
    obtain ⟨_, _, _, _, _, _, _, _, _, _, _, _, _, _, _, _⟩ := cel8_ y.out
    obtain ⟨ab, ac, a2⟩ := Kd.R_slice HO_632001.out
    subst a2
    obtain ⟨af, ag, a3⟩ := Kd.R_slice HO_632002.out
    subst a3
    go_wp2
    refine bodyPost_ret (results_cell_row rfl _ _ d 32 #[.int .i64 r, .slice ab p.length ac, .slice af v.length ag, .slice A l.length c0_3, .slice B n.length c0_4, .slice G q.length c0_5, .int .i64 F, .slice I s.length c0_7] (0, 0) _ rfl (by refine bk_ ?_; refine bu_ (cs := #[.int .i64 r, .slice ab p.length ac, .slice af v.length ag, .slice A l.length c0_3, .slice B n.length c0_4, .slice G q.length c0_5, .int .i64 F, .slice none 0 0]) ?_ 7 _ rfl; refine bk_ ?_; refine bu_ (cs := #[.int .i64 r, .slice ab p.length ac, .slice af v.length ag, .slice A l.length c0_3, .slice B n.length c0_4, .slice G q.length c0_5, .int .i64 0, .slice none 0 0]) ?_ 6 _ rfl; refine bk_ ?_; refine bu_ (cs := #[.int .i64 r, .slice ab p.length ac, .slice af v.length ag, .slice A l.length c0_3, .slice B n.length c0_4, .slice none 0 0, .int .i64 0, .slice none 0 0]) ?_ 5 _ rfl; refine bk_ ?_; refine bu_ (cs := #[.int .i64 r, .slice ab p.length ac, .slice af v.length ag, .slice A l.length c0_3, .slice none 0 0, .slice none 0 0, .int .i64 0, .slice none 0 0]) ?_ 4 _ rfl; refine bk_ ?_; refine bu_ (cs := #[.int .i64 r, .slice ab p.length ac, .slice af v.length ag, .slice none 0 0, .slice none 0 0, .slice none 0 0, .int .i64 0, .slice none 0 0]) ?_ 3 _ rfl; refine bk_ ?_; refine bu_ (cs := #[.int .i64 r, .slice ab p.length ac, .slice none 0 0, .slice none 0 0, .slice none 0 0, .slice none 0 0, .int .i64 0, .slice none 0 0]) ?_ 2 _ rfl; refine bk_ ?_; refine bu_ (cs := #[.int .i64 r, .slice none 0 0, .slice none 0 0, .slice none 0 0, .slice none 0 0, .slice none 0 0, .int .i64 0, .slice none 0 0]) ?_ 1 _ rfl; refine bk_ ?_; refine bu_ (cs := #[.int .i64 0, .slice none 0 0, .slice none 0 0, .slice none 0 0, .slice none 0 0, .slice none 0 0, .int .i64 0, .slice none 0 0]) ?_ 0 _ rfl; refine bk_ ?_; exact y.out) Tryz.underlying32 rfl kr_) rfl ?_
    exact ⟨_, _, _, _, _, _, er_, by refine vR_ ?_; exact rm_ (fR_ (fR_ (fR_ (fR_ (fR_ (fR_ (fR_ (fR_ (rt_ HO_632001.out y.out (by decide)))))))))) (fun _ hk => ⟨hk.1.1, hk.1.2⟩), by refine vR_ ?_; exact rm_ (fR_ (fR_ (fR_ (fR_ (fR_ (fR_ (fR_ (fR_ (rt_ HO_632002.out y.out (by decide)))))))))) (fun _ hk => ⟨hk.1.1, hk.1.2⟩), by refine vV_ ?_; exact vm_ (fV_ (fV_ (fV_ (fV_ (fV_ (fV_ (fV_ (fV_ (vm_ HO_632003.out (fun a hk => (⟨hk, hk.2.2.2.2.1⟩ : _ ∧ a ≠ d))))))))))) (fun _ hk => ⟨hk.1.1, ⟨hk.1.2.1, hk.1.2.2.1⟩⟩), by refine vV_ ?_; exact vm_ (fV_ (fV_ (fV_ (fV_ (fV_ (fV_ (fV_ (fV_ (vm_ HO_632004.out (fun a hk => (⟨hk, hk.2.2.2.2.1⟩ : _ ∧ a ≠ d))))))))))) (fun _ hk => ⟨hk.1.1, ⟨hk.1.2.1, hk.1.2.2.1⟩⟩), by refine vV_ ?_; exact vm_ (fV_ (fV_ (fV_ (fV_ (fV_ (fV_ (fV_ (fV_ (vm_ HO_632005.out (fun a hk => (⟨hk, hk.2.2.2.2.1⟩ : _ ∧ a ≠ d))))))))))) (fun _ hk => ⟨hk.1.1, ⟨hk.1.2.1, hk.1.2.2.1⟩⟩), by refine vV_ ?_; exact vm_ (fV_ (fV_ (fV_ (fV_ (fV_ (fV_ (fV_ (fV_ (vm_ HO_632007.out (fun a hk => (⟨hk, hk.2.2.2.2.1⟩ : _ ∧ a ≠ d))))))))))) (fun _ hk => ⟨hk.1.1, ⟨hk.1.2.1, hk.1.2.2.1⟩⟩), bel_⟩
   rw [ip_ c23] at H
   have c23b0 : decide (U < (E.length : Int)) = true := dt_ c23
   clear c23
   by_cases c24 : v.length < 17592186044416
   rotate_left
   ·
    rw [ig_ c24] at H
    exact ab_ H
   rw [ip_ c24] at H
   have LMc24 := a_ c24
   clear c24
   obtain ⟨ak, ae⟩ : ∃ y_ : List Int, y_ = (v ++ [wrap64 ((z.length : Int) + U)]) := ⟨_, rfl⟩
   replace H : (jigsawref10_Local.l1 k2 (wrap64 (U + 1)) r z E l n q F s r p ak l n q F s) = some (r1, r2, r3, r4, r5, r6, r7, r8) := h2_ H ae
   have aN := a_ ae
   clear ae
   have H' := a_ H
   clear H
   have bj := J.out
   have bk := K.out
   have bl := m.out
   have bm := M.out
   obtain ⟨_, _, _, _, _, _, _, _, _, _, _, _, _, _, _, _⟩ := cel8_ u.out
   have bn := aa.out
   have bo := o.out
   obtain ⟨_, _, _, _, _, _, _, _, _, _, _, _, _, _, _, _⟩ := cel8_ x.out
   go_wp2_with (first | ((with_reducible refine gate_builtin (b := .append) (xs := #[.tmp 30, .tmp 36]) rfl ?_); at_builtin; refine Kd.R_append (Kd.int .i64) (w0 := w) w.heap.size rfl (.tmp 30) (.tmp 36) 30 3 (.int .i64 0) 8 rfl Tryz.underlying30 info3 rfl (by decide) (by omega) u632002 v (wrap64 ((z.length : Int) + U)) [.int .i64 (wrap64 ((z.length : Int) + U))] (fun a => (w.heap.size ≤ a) ∧ some a ≠ u632001.ownBlock) (fun _ => False) rfl rfl ?aP (fun _ hk => hk.elim) ?aF ?aO ?aB ?aS ?aL ?_; (case aP => exact rfl); (case aB => exact bel_); (case aF => exact (fun a hk => ⟨(Nat.le_trans (bz_ bel_) hk), fr_ (rl_ (vR_ HO_632001.out)) a hk⟩)); (case aO => exact (vR_ HO_632002.out)); (case aS => exact (bz_ bel_)); (case aL => have := LMc24.out; omega); intro bG w30 ho hb hg hat; rw [← aN.out] at ho; replace HO_630003 := a_ (Kd.V_afterv (ok := (fun a => ((P0_3_ a ∨ P0_4_ a ∨ P0_5_ a ∨ P0_7_ a) ∨ w.heap.size ≤ a) ∧ some a ≠ u632001.ownBlock ∧ a ≠ g ∧ a ≠ d ∧ a ≠ c)) (by refine vV_ ?_; exact vm_ HO_630003.out (fun _ hk => ⟨⟨hk.1, ⟨hk.2.1, ⟨hk.2.2.2.1, ⟨hk.2.2.2.2.1, hk.2.2.2.2.2⟩⟩⟩⟩, hk.2.2.1⟩)) hg hat); replace HO_630004 := a_ (Kd.V_afterv (ok := (fun a => ((P0_3_ a ∨ P0_4_ a ∨ P0_5_ a ∨ P0_7_ a) ∨ w.heap.size ≤ a) ∧ some a ≠ u632001.ownBlock ∧ a ≠ g ∧ a ≠ d ∧ a ≠ c)) (by refine vV_ ?_; exact vm_ HO_630004.out (fun _ hk => ⟨⟨hk.1, ⟨hk.2.1, ⟨hk.2.2.2.1, ⟨hk.2.2.2.2.1, hk.2.2.2.2.2⟩⟩⟩⟩, hk.2.2.1⟩)) hg hat); replace HO_630005 := a_ (Kd.V_afterv (ok := (fun a => ((P0_3_ a ∨ P0_4_ a ∨ P0_5_ a ∨ P0_7_ a) ∨ w.heap.size ≤ a) ∧ some a ≠ u632001.ownBlock ∧ a ≠ g ∧ a ≠ d ∧ a ≠ c)) (by refine vV_ ?_; exact vm_ HO_630005.out (fun _ hk => ⟨⟨hk.1, ⟨hk.2.1, ⟨hk.2.2.2.1, ⟨hk.2.2.2.2.1, hk.2.2.2.2.2⟩⟩⟩⟩, hk.2.2.1⟩)) hg hat); replace HO_630007 := a_ (Kd.V_afterv (ok := (fun a => ((P0_3_ a ∨ P0_4_ a ∨ P0_5_ a ∨ P0_7_ a) ∨ w.heap.size ≤ a) ∧ some a ≠ u632001.ownBlock ∧ a ≠ g ∧ a ≠ d ∧ a ≠ c)) (by refine vV_ ?_; exact vm_ HO_630007.out (fun _ hk => ⟨⟨hk.1, ⟨hk.2.1, ⟨hk.2.2.2.1, ⟨hk.2.2.2.2.1, hk.2.2.2.2.2⟩⟩⟩⟩, hk.2.2.1⟩)) hg hat); replace HO_632001 := a_ (Kd.R_after (ok := (fun a => (w.heap.size ≤ a))) (vR_ HO_632001.out) hg hat); replace HO_632003 := a_ (Kd.V_afterv (ok := (fun a => ((P0_3_ a ∨ P0_4_ a ∨ P0_5_ a ∨ P0_7_ a) ∨ w.heap.size ≤ a) ∧ some a ≠ u632001.ownBlock ∧ a ≠ g ∧ a ≠ d ∧ a ≠ c)) (by refine vV_ ?_; exact vm_ HO_632003.out (fun _ hk => ⟨⟨hk.1, ⟨hk.2.1, ⟨hk.2.2.2.1, ⟨hk.2.2.2.2.1, hk.2.2.2.2.2⟩⟩⟩⟩, hk.2.2.1⟩)) hg hat); replace HO_632004 := a_ (Kd.V_afterv (ok := (fun a => ((P0_3_ a ∨ P0_4_ a ∨ P0_5_ a ∨ P0_7_ a) ∨ w.heap.size ≤ a) ∧ some a ≠ u632001.ownBlock ∧ a ≠ g ∧ a ≠ d ∧ a ≠ c)) (by refine vV_ ?_; exact vm_ HO_632004.out (fun _ hk => ⟨⟨hk.1, ⟨hk.2.1, ⟨hk.2.2.2.1, ⟨hk.2.2.2.2.1, hk.2.2.2.2.2⟩⟩⟩⟩, hk.2.2.1⟩)) hg hat); replace HO_632005 := a_ (Kd.V_afterv (ok := (fun a => ((P0_3_ a ∨ P0_4_ a ∨ P0_5_ a ∨ P0_7_ a) ∨ w.heap.size ≤ a) ∧ some a ≠ u632001.ownBlock ∧ a ≠ g ∧ a ≠ d ∧ a ≠ c)) (by refine vV_ ?_; exact vm_ HO_632005.out (fun _ hk => ⟨⟨hk.1, ⟨hk.2.1, ⟨hk.2.2.2.1, ⟨hk.2.2.2.2.1, hk.2.2.2.2.2⟩⟩⟩⟩, hk.2.2.1⟩)) hg hat); replace HO_632007 := a_ (Kd.V_afterv (ok := (fun a => ((P0_3_ a ∨ P0_4_ a ∨ P0_5_ a ∨ P0_7_ a) ∨ w.heap.size ≤ a) ∧ some a ≠ u632001.ownBlock ∧ a ≠ g ∧ a ≠ d ∧ a ≠ c)) (by refine vV_ ?_; exact vm_ HO_632007.out (fun _ hk => ⟨⟨hk.1, ⟨hk.2.1, ⟨hk.2.2.2.1, ⟨hk.2.2.2.2.1, hk.2.2.2.2.2⟩⟩⟩⟩, hk.2.2.1⟩)) hg hat); replace u := a_ (blk_grown (bk_ u.out) hg (Kd.R_ne HO_632002.out u.out (by decide))); replace y := a_ (blk_grown (bk_ y.out) hg (Kd.R_ne HO_632002.out y.out (by decide))); replace x := a_ (blk_grown (bk_ x.out) hg (Kd.R_ne HO_632002.out x.out (by decide))); replace HB := a_ (hb); have ap := a_ (ho); clear HO_632002; clear ho hb hg hat; obtain ⟨aZ, a0, a1⟩ := Kd.R_slice ap.out; subst a1; obtain ⟨_, _, _, _, _, _, _, _, _, _, _, _, _, _, _, _⟩ := cel8_ x.out))
   go_roundg k2
   case measure => have := an.out; have := aV.out; omega
   exact ⟨(wrap64 (U + 1)), (ak), (.slice aZ ak.length a0), eq_, H', ⟨by have := an.out; have := aV.out; omega⟩, ⟨by refine vV_ ?_; exact vm_ (fV_ (vm_ HO_630003.out (fun a hk => (⟨hk, hk.1.2.2.2.2⟩ : _ ∧ a ≠ c)))) (fun _ hk => ⟨hk.1.1.1, ⟨hk.1.1.2.1, ⟨hk.1.2, ⟨hk.1.1.2.2.1, ⟨hk.1.1.2.2.2.1, hk.1.1.2.2.2.2⟩⟩⟩⟩⟩)⟩, ⟨by refine vV_ ?_; exact vm_ (fV_ (vm_ HO_630004.out (fun a hk => (⟨hk, hk.1.2.2.2.2⟩ : _ ∧ a ≠ c)))) (fun _ hk => ⟨hk.1.1.1, ⟨hk.1.1.2.1, ⟨hk.1.2, ⟨hk.1.1.2.2.1, ⟨hk.1.1.2.2.2.1, hk.1.1.2.2.2.2⟩⟩⟩⟩⟩)⟩, ⟨by refine vV_ ?_; exact vm_ (fV_ (vm_ HO_630005.out (fun a hk => (⟨hk, hk.1.2.2.2.2⟩ : _ ∧ a ≠ c)))) (fun _ hk => ⟨hk.1.1.1, ⟨hk.1.1.2.1, ⟨hk.1.2, ⟨hk.1.1.2.2.1, ⟨hk.1.1.2.2.2.1, hk.1.1.2.2.2.2⟩⟩⟩⟩⟩)⟩, ⟨by refine vV_ ?_; exact vm_ (fV_ (vm_ HO_630007.out (fun a hk => (⟨hk, hk.1.2.2.2.2⟩ : _ ∧ a ≠ c)))) (fun _ hk => ⟨hk.1.1.1, ⟨hk.1.1.2.1, ⟨hk.1.2, ⟨hk.1.1.2.2.1, ⟨hk.1.1.2.2.2.1, hk.1.1.2.2.2.2⟩⟩⟩⟩⟩)⟩, ⟨by refine vR_ ?_; exact rm_ (fR_ (rt_ HO_632001.out x.out (by decide))) (fun _ hk => ⟨hk.1.1, hk.1.2⟩)⟩, ⟨by refine vR_ ?_; exact rm_ (fR_ (rt_ ap.out x.out (by decide))) (fun _ hk => ⟨hk.1.1, hk.1.2⟩)⟩, ⟨by refine vV_ ?_; exact vm_ (fV_ (vm_ HO_632003.out (fun a hk => (⟨hk, hk.1.2.2.2.2⟩ : _ ∧ a ≠ c)))) (fun _ hk => ⟨hk.1.1.1, ⟨hk.1.1.2.1, ⟨hk.1.2, ⟨hk.1.1.2.2.1, ⟨hk.1.1.2.2.2.1, hk.1.1.2.2.2.2⟩⟩⟩⟩⟩)⟩, ⟨by refine vV_ ?_; exact vm_ (fV_ (vm_ HO_632004.out (fun a hk => (⟨hk, hk.1.2.2.2.2⟩ : _ ∧ a ≠ c)))) (fun _ hk => ⟨hk.1.1.1, ⟨hk.1.1.2.1, ⟨hk.1.2, ⟨hk.1.1.2.2.1, ⟨hk.1.1.2.2.2.1, hk.1.1.2.2.2.2⟩⟩⟩⟩⟩)⟩, ⟨by refine vV_ ?_; exact vm_ (fV_ (vm_ HO_632005.out (fun a hk => (⟨hk, hk.1.2.2.2.2⟩ : _ ∧ a ≠ c)))) (fun _ hk => ⟨hk.1.1.1, ⟨hk.1.1.2.1, ⟨hk.1.2, ⟨hk.1.1.2.2.1, ⟨hk.1.1.2.2.2.1, hk.1.1.2.2.2.2⟩⟩⟩⟩⟩)⟩, ⟨by refine vV_ ?_; exact vm_ (fV_ (vm_ HO_632007.out (fun a hk => (⟨hk, hk.1.2.2.2.2⟩ : _ ∧ a ≠ c)))) (fun _ hk => ⟨hk.1.1.1, ⟨hk.1.1.2.1, ⟨hk.1.2, ⟨hk.1.1.2.2.1, ⟨hk.1.1.2.2.2.1, hk.1.1.2.2.2.2⟩⟩⟩⟩⟩)⟩, ⟨by refine bk_ ?_; refine blk_far ?_ m.out _; refine bk_ ?_; exact u.out⟩, ⟨by refine bk_ ?_; refine blk_far ?_ o.out _; refine bk_ ?_; exact y.out⟩, ⟨by refine bk_ ?_; refine bu_ (cs := #[.int .i64 r, u632001, u632002, .slice A l.length c0_3, .slice B n.length c0_4, .slice G q.length c0_5, .int .i64 F, .slice I s.length c0_7]) ?_ 2 _ rfl; refine bk_ ?_; exact x.out⟩, ⟨bel_⟩⟩

end Go.Proofs.YtijjhobjmehhoaaGreatDoor.XGccKeeps
