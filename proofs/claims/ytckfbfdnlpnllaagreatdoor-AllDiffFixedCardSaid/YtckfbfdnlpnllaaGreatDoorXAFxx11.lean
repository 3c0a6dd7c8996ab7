-- by xprint.py, a program of this session, over the kit's print
import Derived.Test.YtckfbfdnlpnllaaGreatDoorXAFxx0
import Derived.Test.YtckfbfdnlpnllaaGreatDoorXAFxx1
import Derived.Test.YtckfbfdnlpnllaaGreatDoorSq
namespace Go.Proofs.YtckfbfdnlpnllaaGreatDoor.XAllDiffFixed
open Go.RowKit Go.Proofs.YtckfbfdnlpnllaaGreatDoor.Sq Go.Proofs.YtckfbfdnlpnllaaGreatDoorW.PrintWords Go.Proofs.YtckfbfdnlpnllaaGreatDoorW.PrintLast Go.Proofs.YtckfbfdnlpnllaaGreatDoorW.PrintMore
attribute [local go_sem] max2_int min2_int max_two min_two max_three min_three max_four min_four   -- for this text's walks alone
set_option linter.unusedVariables false
set_option linter.unusedSimpArgs false

/-! ### jigsawref10_Same: function 14 -/
mutual
def jigsawref10_Same.l0 : Nat → List (List Int) → List (List Int) → Int → Option (Bool)
 | 0, _, _, _ => none
 | k + 1, b, c, a => if a < (b.length : Int) then (if 0 ≤ a then (if a < (c.length : Int) then (if ((rd_L3 b a).length : Int) = ((rd_L3 c a).length : Int) then (jigsawref10_Same.l1 k b c a 0) else (none)) else (none)) else (none)) else (some true)
def jigsawref10_Same.l1 : Nat → List (List Int) → List (List Int) → Int → Int → Option (Bool)
 | 0, _, _, _, _ => none
 | k + 1, c, d, a, b => if 0 ≤ a then (if a < (c.length : Int) then (if b < ((rd_L3 c a).length : Int) then (if 0 ≤ b then (if a < (d.length : Int) then (if b < ((rd_L3 d a).length : Int) then (if (rd (rd_L3 c a) b) = (rd (rd_L3 d a) b) then (jigsawref10_Same.l1 k c d a (wrap64 (b + 1))) else (none)) else (none)) else (none)) else (none)) else (jigsawref10_Same.l0 k c d (wrap64 (a + 1)))) else (none)) else (none)
end
def jigsawref10_Same.f (k : Nat) (a : List (List Int)) (b : List (List Int)) : Option (Bool) := if (a.length : Int) = (b.length : Int) then (jigsawref10_Same.l0 k a b 0) else (none)
theorem jigsawref10_Same.mono_l : ∀ k, (∀ a b c, LeO (jigsawref10_Same.l0 k a b c) (jigsawref10_Same.l0 (k + 1) a b c)) ∧ (∀ a b c d, LeO (jigsawref10_Same.l1 k a b c d) (jigsawref10_Same.l1 (k + 1) a b c d))
 | 0 => by refine ⟨?_, ?_⟩ <;> (intros; exact LeO.none _)
 | k + 1 => by
  obtain ⟨ih0, ih1⟩ := jigsawref10_Same.mono_l k
  refine ⟨?_, ?_⟩ <;> intros
  all_goals first | unfold jigsawref10_Same.l0 | unfold jigsawref10_Same.l1
  all_goals exact leo_
theorem jigsawref10_Same.mono : ∀ a b k, LeO (jigsawref10_Same.f k a b) (jigsawref10_Same.f (k + 1) a b) := by
 intro a b k
 obtain ⟨ih0, ih1⟩ := jigsawref10_Same.mono_l k
 unfold jigsawref10_Same.f
 exact leo_
set_option maxHeartbeats 8000000 in
set_option maxRecDepth 100000 in
theorem jigsawref10_Same.calls (k : Nat) (A0 : Option Addr) (c0 : Nat) (c : List (List Int)) (A1 : Option Addr) (c1 : Nat) (d : List (List Int)) (r : Bool) (w : World) (ab : Kd.C (Kd.slice 3 (Kd.int .i64)) w A0 c.length c) (ac : c.length ≤ c0) (ad : Kd.C (Kd.slice 3 (Kd.int .i64)) w A1 d.length d) (ae : d.length ≤ c1) (h : jigsawref10_Same.f k c d = some r) :
  Calls Tryz.prog 14 #[.slice A0 c.length c0, .slice A1 d.length c1] w fun e w' => e = .returned (.bool r) ∧ Drawn0 w w' := by
 have I := a_ ab
 have aF := a_ ac
 clear ab ac
 have af := a_ ad
 have aG := a_ ae
 clear ad ae
 unfold jigsawref10_Same.f at h
 have H := h
 clear h
 by_cases c3 : (c.length : Int) = (d.length : Int)
 rotate_left
 ·
  rw [ig_ c3] at H
  exact ab_ H
 rw [ip_ c3] at H
 have c3b0 : ((c.length : Int) == (d.length : Int)) = true := beq_iff_eq.mpr c3
 have c3b1 : ((c.length : Int) != (d.length : Int)) = false := bn_.mpr c3
 have c3b2 : (c.length == d.length) = true := by first | simpa using c3 | (simp at c3 ⊢; omega)
 clear c3
 have H' := a_ H
 clear H
 go_enter Tryz.func14, Tryz.ntmps14
 go_wp2
 repeat (go_quiet (fail); try go_wp2)
 go_loopg [5] k (fun kq v5 w' => ∃ (a : Int), v5 = .int .i64 a ∧ Aside0 (jigsawref10_Same.l0 kq c d a = some r) ∧ Aside0 (kq ≤ k) ∧ Drawn0 w w')
 case atStart => exact ⟨(0), eq_, H', ⟨lr_ _⟩, by repeat (first | exact d0_ _ | apply Drawn0.step)⟩
 clear H'
 try clear c1
 try clear p2
 try clear c3
 try clear c3b0
 try clear c3b1
 try clear c3b2
 obtain ⟨a, rfl, HA, J, ⟨m1, rfl⟩⟩ := hrel
 cases gk with
 | zero => exact absurd HA.out (by simp [jigsawref10_Same.l0])
 | succ k1 =>
  have H := HA.out
  clear HA
  simp only [jigsawref10_Same.l0] at H
  by_cases c4 : a < (c.length : Int)
  rotate_left
  ·
   rw [ig_ c4] at H
   have c4b0 : decide (a < (c.length : Int)) = false := df_ c4
   clear c4
   obtain rfl := si_ H
   go_wp2
   repeat (go_quiet (fail); try go_wp2)
   go_ret
   exact ⟨by first | rfl | (simp; done) | (simp [*]; done), by repeat (first | exact d0_ _ | apply Drawn0.step)⟩
  rw [ip_ c4] at H
  have c4b0 : decide (a < (c.length : Int)) = true := dt_ c4
  clear c4
  by_cases c5 : 0 ≤ a
  rotate_left
  ·
   rw [ig_ c5] at H
   exact ab_ H
  rw [ip_ c5] at H
  have c5b0 : decide (0 ≤ a) = true := dt_ c5
  clear c5
  by_cases c6 : a < (d.length : Int)
  rotate_left
  ·
   rw [ig_ c6] at H
   exact ab_ H
  rw [ip_ c6] at H
  have c6b0 : decide (a < (d.length : Int)) = true := dt_ c6
  clear c6
  by_cases c7 : ((rd_L3 c a).length : Int) = ((rd_L3 d a).length : Int)
  rotate_left
  ·
   rw [ig_ c7] at H
   exact ab_ H
  rw [ip_ c7] at H
  have c7b0 : (((rd_L3 c a).length : Int) == ((rd_L3 d a).length : Int)) = true := beq_iff_eq.mpr c7
  have c7b1 : (((rd_L3 c a).length : Int) != ((rd_L3 d a).length : Int)) = false := bn_.mpr c7
  have c7b2 : ((rd_L3 c a).length == (rd_L3 d a).length) = true := by first | simpa using c7 | (simp at c7 ⊢; omega)
  clear c7
  have H' := a_ H
  clear H
  have p355 : 0 ≤ (a : Int) := dq_
  have v : a < (c.length : Int) := dq_
  obtain ⟨x, ax, c355_0, ag, M, n, N⟩ := at_L3 I.out a p355 v
  cases ag
  have am := a_ n
  clear N n
  replace p355 := et_ p355
  replace v := et_ v
  have p356 : 0 ≤ (a : Int) := dq_
  have y : a < (d.length : Int) := dq_
  obtain ⟨Y, ay, c356_0, ah, O, o, P⟩ := at_L3 af.out a p356 y
  cases ah
  have an := a_ o
  clear P o
  replace p356 := et_ p356
  replace y := et_ y
  go_wp2
  repeat (go_quiet (fail); try go_wp2)
  go_loopg [6] k1 (fun kq v6 w' => ∃ (b : Int), v6 = .int .i64 b ∧ Aside0 (jigsawref10_Same.l1 kq c d a b = some r) ∧ Aside0 (kq ≤ k1) ∧ Drawn0 w w')
  case atStart => exact ⟨(0), eq_, H', ⟨lr_ _⟩, by repeat (first | exact d0_ _ | apply Drawn0.step)⟩
  clear H'
  try clear c1
  try clear p2
  try clear c3
  try clear c3b0
  try clear c3b1
  try clear c3b2
  try clear p3
  try clear q3
  try clear aH
  try clear c4
  try clear c4b0
  try clear c5
  try clear c5b0
  try clear c6
  try clear c6b0
  try clear c7
  try clear c7b0
  try clear c7b1
  try clear c7b2
  try clear M
  try clear O
  try clear p2
  try clear p355
  try clear p356
  try clear v
  try clear y
  obtain ⟨b, rfl, HA, K, ⟨m2, rfl⟩⟩ := hrel
  cases gk with
  | zero => exact absurd HA.out (by simp [jigsawref10_Same.l1])
  | succ k2 =>
   have H := HA.out
   clear HA
   simp only [jigsawref10_Same.l1] at H
   by_cases c8 : 0 ≤ a
   rotate_left
   ·
    rw [ig_ c8] at H
    exact ab_ H
   rw [ip_ c8] at H
   have c8b0 : decide (0 ≤ a) = true := dt_ c8
   clear c8
   by_cases c9 : a < (c.length : Int)
   rotate_left
   ·
    rw [ig_ c9] at H
    exact ab_ H
   rw [ip_ c9] at H
   have c9b0 : decide (a < (c.length : Int)) = true := dt_ c9
   clear c9
   by_cases c10 : b < ((rd_L3 c a).length : Int)
   rotate_left
   ·
    rw [ig_ c10] at H
    have c10b0 : decide (b < ((rd_L3 c a).length : Int)) = false := df_ c10
    clear c10
    have H' := a_ H
    clear H
    have p357 : 0 ≤ (a : Int) := dq_
    have l : a < (c.length : Int) := dq_
    obtain ⟨z, X, c357_0, A, p, g, m⟩ := at_L3 I.out a p357 l
    obtain rfl : x = z := (by injection A)
    have Q := a_ g
    clear m g
    replace p357 := et_ p357
    replace l := et_ l
    go_wp2
    repeat (go_quiet (fail); try go_wp2)
    go_roundg k2
    case measure => have := J.out; have := K.out; omega
    exact ⟨(wrap64 (a + 1)), eq_, H', ⟨by have := J.out; have := K.out; omega⟩, by repeat (first | exact d0_ _ | apply Drawn0.step)⟩
   rw [ip_ c10] at H
   have c10b0 : decide (b < ((rd_L3 c a).length : Int)) = true := dt_ c10
   clear c10
   by_cases c11 : 0 ≤ b
   rotate_left
   ·
    rw [ig_ c11] at H
    exact ab_ H
   rw [ip_ c11] at H
   have c11b0 : decide (0 ≤ b) = true := dt_ c11
   clear c11
   by_cases c12 : a < (d.length : Int)
   rotate_left
   ·
    rw [ig_ c12] at H
    exact ab_ H
   rw [ip_ c12] at H
   have c12b0 : decide (a < (d.length : Int)) = true := dt_ c12
   clear c12
   by_cases c13 : b < ((rd_L3 d a).length : Int)
   rotate_left
   ·
    rw [ig_ c13] at H
    exact ab_ H
   rw [ip_ c13] at H
   have c13b0 : decide (b < ((rd_L3 d a).length : Int)) = true := dt_ c13
   clear c13
   by_cases c14 : (rd (rd_L3 c a) b) = (rd (rd_L3 d a) b)
   rotate_left
   ·
    rw [ig_ c14] at H
    exact ab_ H
   rw [ip_ c14] at H
   have c14b0 : ((rd (rd_L3 c a) b) == (rd (rd_L3 d a) b)) = true := beq_iff_eq.mpr c14
   have c14b1 : ((rd (rd_L3 c a) b) != (rd (rd_L3 d a) b)) = false := bn_.mpr c14
   clear c14
   have H' := a_ H
   clear H
   have p357 : 0 ≤ (a : Int) := dq_
   have l : a < (c.length : Int) := dq_
   obtain ⟨z, X, c357_0, A, p, g, m⟩ := at_L3 I.out a p357 l
   obtain rfl : x = z := (by injection A)
   have Q := a_ g
   clear m g
   replace p357 := et_ p357
   replace l := et_ l
   have p358 : 0 ≤ (a : Int) := dq_
   have B : a < (c.length : Int) := dq_
   obtain ⟨Z, az, c358_0, ai, U, q, s⟩ := at_L3 I.out a p358 B
   obtain rfl : x = Z := (by injection ai)
   have V := a_ s
   have ao := a_ q
   clear s q
   replace p358 := et_ p358
   replace B := et_ B
   have ea_ := si_ (p.symm.trans U)
   injection ea_ with ea_ en_ ec_
   subst ea_
   subst ec_
   clear en_
   have p359 : 0 ≤ (b : Int) := dq_
   have E : b < ((rd_L3 c a).length : Int) := dq_
   obtain ⟨aB, aj, ap⟩ := ai_ V.out b p359 E
   cases aj
   replace p359 := et_ p359
   replace E := et_ E
   have p360 : 0 ≤ (a : Int) := dq_
   have F : a < (d.length : Int) := dq_
   obtain ⟨aa, aA, c360_0, ak, aq, t, u⟩ := at_L3 af.out a p360 F
   obtain rfl : Y = aa := (by injection ak)
   have W := a_ u
   have ar := a_ t
   clear u t
   replace p360 := et_ p360
   replace F := et_ F
   have p361 : 0 ≤ (b : Int) := dq_
   have G : b < ((rd_L3 d a).length : Int) := dq_
   obtain ⟨aC, al, au⟩ := ai_ W.out b p361 G
   cases al
   replace p361 := et_ p361
   replace G := et_ G
   go_wp2
   repeat (go_quiet (fail); try go_wp2)
   go_roundg k2
   case measure => have := J.out; have := K.out; omega
   exact ⟨(wrap64 (b + 1)), eq_, H', ⟨by have := J.out; have := K.out; omega⟩, by repeat (first | exact d0_ _ | apply Drawn0.step)⟩

/-! ### jigsawlaw16_lists: function 15 -/
def jigsawlaw16_lists.l0 : Nat → List (List Int) → List (S57) → Int → Int → Option ((List (List Int)))
 | 0, _, _, _, _ => none
 | k + 1, c, b, e, a => if a < e then (if 0 ≤ a then (if a < (b.length : Int) then ((dom_Dom_List.f k ((rd_T57 b a).f0) ((rd_T57 b a).f1) ((rd_T57 b a).f2) ((rd_T57 b a).f3) ((rd_T57 b a).f4)).bind fun d => (if c.length < 5864062014805 then (jigsawlaw16_lists.l0 k (c ++ [d]) b e (wrap64 (a + 1))) else (none))) else (none)) else (none)) else (some c)
def jigsawlaw16_lists.f (k : Nat) (a : List (S57)) : Option ((List (List Int))) := jigsawlaw16_lists.l0 k ([] : List (List Int)) a (a.length : Int) 0
theorem jigsawlaw16_lists.mono_l : ∀ k, (∀ a b c d, LeO (jigsawlaw16_lists.l0 k a b c d) (jigsawlaw16_lists.l0 (k + 1) a b c d))
 | 0 => by intros; exact LeO.none _
 | k + 1 => by
  have ih0 := jigsawlaw16_lists.mono_l k
  intro a b c d
  unfold jigsawlaw16_lists.l0
  have m0 := @dom_Dom_List.mono
  exact leo_
theorem jigsawlaw16_lists.mono : ∀ a k, LeO (jigsawlaw16_lists.f k a) (jigsawlaw16_lists.f (k + 1) a) := by
 intro a k
 have ih0 := jigsawlaw16_lists.mono_l k
 unfold jigsawlaw16_lists.f
 have m0 := @dom_Dom_List.mono
 exact leo_
set_option maxHeartbeats 8000000 in
set_option maxRecDepth 100000 in
theorem jigsawlaw16_lists.calls (k : Nat) (Z : Option Addr) (c0 : Nat) (c : List (S57)) (r : List (List Int)) (w : World) (Q : Kd.C k57 w Z c.length c) (U : c.length ≤ c0) (hrtab : Kd.C (Kd.int .u8) w (some ⟨0, 0, none⟩) tabL.length tabL) (h : jigsawlaw16_lists.f k c = some r) :
  Calls Tryz.prog 15 #[.slice Z c.length c0] w fun e w' => ∃ V : Value, e = .returned (V) ∧ Kd.S (Kd.slice 3 (Kd.int .i64)) 30 w' w.heap.size (fun _ => True) V r ∧ Below w.heap.size w w' := by
 have hu57 := Tryz.underlying57
 have aa := a_ Q
 have ai := a_ U
 clear Q U
 have HRtab := a_ hrtab
 clear hrtab
 have HB := a_ (Below.refl w.heap.size w)
 unfold jigsawlaw16_lists.f at h
 have H := h
 clear h
 have H' := a_ H
 clear H
 go_enter Tryz.func15, Tryz.ntmps15
 go_wp2
 go_loopg [3, 8] k (fun kq v3 v8 w' => ∃ (g : List (List Int)) (a : Int), v8 = .int .i64 a ∧ Aside0 (jigsawlaw16_lists.l0 kq g c (c.length : Int) a = some r) ∧ Aside0 (kq ≤ k) ∧ Aside0 (Kd.S (Kd.slice 3 (Kd.int .i64)) 30 w' w.heap.size (fun _ => True) v3 g) ∧ Aside0 (Below w.heap.size w w'))
 case atStart => exact ⟨(([] : List (List Int))), (0), eq_, H', ⟨lr_ _⟩, ⟨nil_⟩, ⟨bel_⟩⟩
 clear H'
 try clear c1
 obtain ⟨g, a, rfl, HA, W, HO_3, HB⟩ := hrel
 cases gk with
 | zero => exact absurd HA.out (by simp [jigsawlaw16_lists.l0])
 | succ k1 =>
  have H := HA.out
  clear HA
  simp only [jigsawlaw16_lists.l0] at H
  by_cases c2 : a < (c.length : Int)
  rotate_left
  ·
   rw [ig_ c2] at H
   have c2b0 : decide (a < (c.length : Int)) = false := df_ c2
   clear c2
   obtain rfl := si_ H
   go_wp2
   go_ret
   exact ⟨_, er_, vS_ HO_3.out, bel_⟩
  rw [ip_ c2] at H
  have c2b0 : decide (a < (c.length : Int)) = true := dt_ c2
  clear c2
  by_cases c3 : 0 ≤ a
  rotate_left
  ·
   rw [ig_ c3] at H
   exact ab_ H
  rw [ip_ c3] at H
  have c3b0 : decide (0 ≤ a) = true := dt_ c3
  clear c3
  by_cases c4 : a < (c.length : Int)
  rotate_left
  ·
   rw [ig_ c4] at H
   exact ab_ H
  rw [ip_ c4] at H
  have c4b0 : decide (a < (c.length : Int)) = true := dt_ c4
  clear c4
  replace H := bo_ H
  obtain ⟨u, A5, H⟩ := H
  try dsimp only at H
  by_cases c6 : g.length < 5864062014805
  rotate_left
  ·
   rw [ig_ c6] at H
   exact ab_ H
  rw [ip_ c6] at H
  have LMc6 := a_ c6
  clear c6
  obtain ⟨E, d⟩ : ∃ y_ : List (List Int), y_ = (g ++ [u]) := ⟨_, rfl⟩
  replace H : (jigsawlaw16_lists.l0 k1 E c (c.length : Int) (wrap64 (a + 1))) = some r := h2_ H d
  have K := a_ d
  clear d
  have H' := a_ H
  clear H
  have p362 : 0 ≤ (a : Int) := dq_
  have y : a < (c.length : Int) := dq_
  obtain ⟨ab, F, c362_1, X, l, m, n, o, p, v, x⟩ := at_T57 aa.out a p362 y
  cases X
  replace l := hx_ HB l
  replace m := hx_ HB m
  replace n := hx_ HB n
  replace o := hx_ HB o
  replace p := hx_ HB p
  have A := a_ x
  have B := a_ v
  clear x v
  replace p362 := et_ p362
  replace y := et_ y
  go_wp2_with (first | ((with_reducible refine gate_dst (N := 5) rfl ?_); refine bxe_ (N := 5) (cs := #[.int .i64 0, .slice none 0 0, .int .i64 0, .int .i64 0, .int .i64 0]) (t := 57) ?_; intro M hg w7 hbox hb; replace HO_3 := a_ (Kd.S_below (vS_ HO_3.out) hb); have z := a_ (hbox); have O := a_ (by rw [hg]; exact (bz_ bel_) : w.heap.size ≤ M); have ac := O; replace HB := hq_ hb; clear hb hbox hg; obtain ⟨_, _, _, _, _, _, _, _, _, _⟩ := cel5_ z.out) | ((with_reducible refine gate_callee (f := 21) rfl ?_); refine goesL_ (some 14) rfl rfl Tryz.func21 kr_ rfl #[.agg #[.int .i64 ((rd_T57 c a).f0), .slice F ((rd_T57 c a).f1).length c362_1, .int .i64 ((rd_T57 c a).f2), .int .i64 ((rd_T57 c a).f3), .int .i64 ((rd_T57 c a).f4)]] rfl ar_ ?_; (with_reducible refine (dom_Dom_List.calls k1 ((rd_T57 c a).f0) _ _ ((rd_T57 c a).f1) ((rd_T57 c a).f2) ((rd_T57 c a).f3) ((rd_T57 c a).f4) u _ ?_ ?_ ?_ A5.out).mono ?_); exact cb_ A.out bel_; exact B.out; exact cb_ HRtab.out bel_; rintro e w9 ⟨ag, rfl, G, hb⟩; refine ⟨_, rfl, ?_⟩; replace HO_3 := a_ (Kd.S_elder' (by refine vS_ ?_; exact (Kd.S_mono (fS_ (fS_ (fS_ (fS_ (fS_ (Kd.S_types HO_3.out z.out (by decide))))))) (fun _ h_ => h_.1))) (rs_ G) hb); have s := a_ (Kd.R_lower G (bz_ bel_)); replace HB := hq_ hb; clear hb G; obtain ⟨I, J, Y⟩ := Kd.R_slice s.out; subst Y) | ((with_reducible refine gate_builtin (b := .append) (xs := #[.tmp 12, .tmp 15]) rfl ?_); at_builtin; refine Kd.S_append (Kd.slice 3 (Kd.int .i64)) (w0 := w) w.heap.size rfl (.tmp 12) (.tmp 15) 27 30 (.slice none 0 0) 24 rfl Tryz.underlying27 info30 rfl (by decide) (by omega) u3 g u [.slice I u.length J] (fun _ => True) (fun q => some q = (.slice I u.length J : Value).ownBlock) rfl rfl ?aP (fun q hk_ => ((rm_ (ok' := fun q => ((fun _ => True)) q ∧ some q ≠ u3.ownBlock) (Kd.R_apart' (s.out) (Kd.S_typed HO_3.out) (by decide)) (fun q hk => ⟨trivial, hk.2⟩))).1 q hk_.symm) ?aF ?aO ?aB ?aS ?aL ?_; (case aP => exact Kd.M_row (rm_ (Kd.R_tight rfl (rm_ (ok' := fun q => ((fun _ => True)) q ∧ some q ≠ u3.ownBlock) (Kd.R_apart' (s.out) (Kd.S_typed HO_3.out) (by decide)) (fun q hk => ⟨trivial, hk.2⟩))) (fun _ h_ => h_))); (case aB => exact bel_); (case aF => exact (fun _ _ => trivial)); (case aO => exact (by refine vS_ ?_; exact Kd.S_mono HO_3.out (fun q hk => ⟨trivial, fun e_ => hk.2 e_⟩))); (case aS => exact (bz_ bel_)); (case aL => have := LMc6.out; omega); intro ah w10 ho hb hg hat; rw [← K.out] at ho; replace HB := a_ (hb); have P := a_ (ho); clear HO_3 s; clear ho hb hg hat))
  go_roundg k1
  case measure => have := W.out; omega
  exact ⟨(E), (wrap64 (a + 1)), eq_, H', ⟨by have := W.out; omega⟩, ⟨vS_ P.out⟩, ⟨bel_⟩⟩

/-! ### jigsawref06_Shapes: function 35 -/
def jigsawref06_Shapes.f  : Option (List ByteArray) := some (([(⟨#[]⟩ : ByteArray), (⟨#[99, 86, 107]⟩ : ByteArray), (⟨#[99, 86, 107]⟩ : ByteArray), (⟨#[99, 86, 107]⟩ : ByteArray), (⟨#[99, 86, 107, 119]⟩ : ByteArray), (⟨#[118, 118, 118]⟩ : ByteArray), (⟨#[118, 118, 118]⟩ : ByteArray), (⟨#[118, 118, 118]⟩ : ByteArray), (⟨#[118, 118]⟩ : ByteArray), (⟨#[118, 118, 118]⟩ : ByteArray), (⟨#[118, 118, 118]⟩ : ByteArray), (⟨#[118, 99, 118]⟩ : ByteArray), (⟨#[86, 87]⟩ : ByteArray), (⟨#[118, 107, 119]⟩ : ByteArray), (⟨#[118, 107, 119]⟩ : ByteArray), (⟨#[118, 107, 119]⟩ : ByteArray), (⟨#[118, 107, 119]⟩ : ByteArray), (⟨#[86]⟩ : ByteArray), (⟨#[86, 114]⟩ : ByteArray), (⟨#[86, 99, 100, 107]⟩ : ByteArray), (⟨#[86]⟩ : ByteArray), (⟨#[86, 99, 100, 101]⟩ : ByteArray), (⟨#[86, 87]⟩ : ByteArray), (⟨#[86, 87]⟩ : ByteArray)] : List ByteArray))
set_option maxHeartbeats 8000000 in
set_option maxRecDepth 100000 in
theorem jigsawref06_Shapes.calls  (r : List ByteArray) (w : World) (h : jigsawref06_Shapes.f  = some r) :
  Calls Tryz.prog 35 #[] w fun e w' => ∃ g : Value, e = .returned (g) ∧ Kd.R Kd.string 9 w' w.heap.size (fun _ => True) g r ∧ Below w.heap.size w w' := by
 have HB := a_ (Below.refl w.heap.size w)
 unfold jigsawref06_Shapes.f at h
 have H := h
 clear h
 obtain ⟨l, a⟩ : ∃ y_ : List ByteArray, y_ = (([(⟨#[]⟩ : ByteArray), (⟨#[99, 86, 107]⟩ : ByteArray), (⟨#[99, 86, 107]⟩ : ByteArray), (⟨#[99, 86, 107]⟩ : ByteArray), (⟨#[99, 86, 107, 119]⟩ : ByteArray), (⟨#[118, 118, 118]⟩ : ByteArray), (⟨#[118, 118, 118]⟩ : ByteArray), (⟨#[118, 118, 118]⟩ : ByteArray), (⟨#[118, 118]⟩ : ByteArray), (⟨#[118, 118, 118]⟩ : ByteArray), (⟨#[118, 118, 118]⟩ : ByteArray), (⟨#[118, 99, 118]⟩ : ByteArray), (⟨#[86, 87]⟩ : ByteArray), (⟨#[118, 107, 119]⟩ : ByteArray), (⟨#[118, 107, 119]⟩ : ByteArray), (⟨#[118, 107, 119]⟩ : ByteArray), (⟨#[118, 107, 119]⟩ : ByteArray), (⟨#[86]⟩ : ByteArray), (⟨#[86, 114]⟩ : ByteArray), (⟨#[86, 99, 100, 107]⟩ : ByteArray), (⟨#[86]⟩ : ByteArray), (⟨#[86, 99, 100, 101]⟩ : ByteArray), (⟨#[86, 87]⟩ : ByteArray), (⟨#[86, 87]⟩ : ByteArray)] : List ByteArray)) := ⟨_, rfl⟩
 replace H : (some l) = some r := h2_ H a
 have c := a_ a
 clear a
 obtain rfl := si_ H
 go_enter Tryz.func35, Tryz.ntmps35
 go_wp2_with (first | ((with_reducible refine gate_dst (N := 1) rfl ?_); refine Kd.R_lit Kd.string _ 9 ?hg (N := 1) ?hd (xs := ([(⟨#[]⟩ : ByteArray), (⟨#[99, 86, 107]⟩ : ByteArray), (⟨#[99, 86, 107]⟩ : ByteArray), (⟨#[99, 86, 107]⟩ : ByteArray), (⟨#[99, 86, 107, 119]⟩ : ByteArray), (⟨#[118, 118, 118]⟩ : ByteArray), (⟨#[118, 118, 118]⟩ : ByteArray), (⟨#[118, 118, 118]⟩ : ByteArray), (⟨#[118, 118]⟩ : ByteArray), (⟨#[118, 118, 118]⟩ : ByteArray), (⟨#[118, 118, 118]⟩ : ByteArray), (⟨#[118, 99, 118]⟩ : ByteArray), (⟨#[86, 87]⟩ : ByteArray), (⟨#[118, 107, 119]⟩ : ByteArray), (⟨#[118, 107, 119]⟩ : ByteArray), (⟨#[118, 107, 119]⟩ : ByteArray), (⟨#[118, 107, 119]⟩ : ByteArray), (⟨#[86]⟩ : ByteArray), (⟨#[86, 114]⟩ : ByteArray), (⟨#[86, 99, 100, 107]⟩ : ByteArray), (⟨#[86]⟩ : ByteArray), (⟨#[86, 99, 100, 101]⟩ : ByteArray), (⟨#[86, 87]⟩ : ByteArray), (⟨#[86, 87]⟩ : ByteArray)] : List ByteArray)) (inner := [.string (⟨#[]⟩ : ByteArray), .string (⟨#[99, 86, 107]⟩ : ByteArray), .string (⟨#[99, 86, 107]⟩ : ByteArray), .string (⟨#[99, 86, 107]⟩ : ByteArray), .string (⟨#[99, 86, 107, 119]⟩ : ByteArray), .string (⟨#[118, 118, 118]⟩ : ByteArray), .string (⟨#[118, 118, 118]⟩ : ByteArray), .string (⟨#[118, 118, 118]⟩ : ByteArray), .string (⟨#[118, 118]⟩ : ByteArray), .string (⟨#[118, 118, 118]⟩ : ByteArray), .string (⟨#[118, 118, 118]⟩ : ByteArray), .string (⟨#[118, 99, 118]⟩ : ByteArray), .string (⟨#[86, 87]⟩ : ByteArray), .string (⟨#[118, 107, 119]⟩ : ByteArray), .string (⟨#[118, 107, 119]⟩ : ByteArray), .string (⟨#[118, 107, 119]⟩ : ByteArray), .string (⟨#[118, 107, 119]⟩ : ByteArray), .string (⟨#[86]⟩ : ByteArray), .string (⟨#[86, 114]⟩ : ByteArray), .string (⟨#[86, 99, 100, 107]⟩ : ByteArray), .string (⟨#[86]⟩ : ByteArray), .string (⟨#[86, 99, 100, 101]⟩ : ByteArray), .string (⟨#[86, 87]⟩ : ByteArray), .string (⟨#[86, 87]⟩ : ByteArray)]) (ok := fun _ => True) (okp := fun _ => True) ?hr ?hp (fun _ hk => hk) trivial (Below.refl _ _) (lr_ _) (by simp) ?_; (case hd => rfl); (case hg => rfl); (case hr => first | (go_simp; done) | (go_simp; rfl)); (case hp => exact (Reps.one (show Kd.M Kd.string _ _ _ (⟨#[]⟩ : ByteArray) [.string (⟨#[]⟩ : ByteArray)] from rfl) (Reps.one (show Kd.M Kd.string _ _ _ (⟨#[99, 86, 107]⟩ : ByteArray) [.string (⟨#[99, 86, 107]⟩ : ByteArray)] from rfl) (Reps.one (show Kd.M Kd.string _ _ _ (⟨#[99, 86, 107]⟩ : ByteArray) [.string (⟨#[99, 86, 107]⟩ : ByteArray)] from rfl) (Reps.one (show Kd.M Kd.string _ _ _ (⟨#[99, 86, 107]⟩ : ByteArray) [.string (⟨#[99, 86, 107]⟩ : ByteArray)] from rfl) (Reps.one (show Kd.M Kd.string _ _ _ (⟨#[99, 86, 107, 119]⟩ : ByteArray) [.string (⟨#[99, 86, 107, 119]⟩ : ByteArray)] from rfl) (Reps.one (show Kd.M Kd.string _ _ _ (⟨#[118, 118, 118]⟩ : ByteArray) [.string (⟨#[118, 118, 118]⟩ : ByteArray)] from rfl) (Reps.one (show Kd.M Kd.string _ _ _ (⟨#[118, 118, 118]⟩ : ByteArray) [.string (⟨#[118, 118, 118]⟩ : ByteArray)] from rfl) (Reps.one (show Kd.M Kd.string _ _ _ (⟨#[118, 118, 118]⟩ : ByteArray) [.string (⟨#[118, 118, 118]⟩ : ByteArray)] from rfl) (Reps.one (show Kd.M Kd.string _ _ _ (⟨#[118, 118]⟩ : ByteArray) [.string (⟨#[118, 118]⟩ : ByteArray)] from rfl) (Reps.one (show Kd.M Kd.string _ _ _ (⟨#[118, 118, 118]⟩ : ByteArray) [.string (⟨#[118, 118, 118]⟩ : ByteArray)] from rfl) (Reps.one (show Kd.M Kd.string _ _ _ (⟨#[118, 118, 118]⟩ : ByteArray) [.string (⟨#[118, 118, 118]⟩ : ByteArray)] from rfl) (Reps.one (show Kd.M Kd.string _ _ _ (⟨#[118, 99, 118]⟩ : ByteArray) [.string (⟨#[118, 99, 118]⟩ : ByteArray)] from rfl) (Reps.one (show Kd.M Kd.string _ _ _ (⟨#[86, 87]⟩ : ByteArray) [.string (⟨#[86, 87]⟩ : ByteArray)] from rfl) (Reps.one (show Kd.M Kd.string _ _ _ (⟨#[118, 107, 119]⟩ : ByteArray) [.string (⟨#[118, 107, 119]⟩ : ByteArray)] from rfl) (Reps.one (show Kd.M Kd.string _ _ _ (⟨#[118, 107, 119]⟩ : ByteArray) [.string (⟨#[118, 107, 119]⟩ : ByteArray)] from rfl) (Reps.one (show Kd.M Kd.string _ _ _ (⟨#[118, 107, 119]⟩ : ByteArray) [.string (⟨#[118, 107, 119]⟩ : ByteArray)] from rfl) (Reps.one (show Kd.M Kd.string _ _ _ (⟨#[118, 107, 119]⟩ : ByteArray) [.string (⟨#[118, 107, 119]⟩ : ByteArray)] from rfl) (Reps.one (show Kd.M Kd.string _ _ _ (⟨#[86]⟩ : ByteArray) [.string (⟨#[86]⟩ : ByteArray)] from rfl) (Reps.one (show Kd.M Kd.string _ _ _ (⟨#[86, 114]⟩ : ByteArray) [.string (⟨#[86, 114]⟩ : ByteArray)] from rfl) (Reps.one (show Kd.M Kd.string _ _ _ (⟨#[86, 99, 100, 107]⟩ : ByteArray) [.string (⟨#[86, 99, 100, 107]⟩ : ByteArray)] from rfl) (Reps.one (show Kd.M Kd.string _ _ _ (⟨#[86]⟩ : ByteArray) [.string (⟨#[86]⟩ : ByteArray)] from rfl) (Reps.one (show Kd.M Kd.string _ _ _ (⟨#[86, 99, 100, 101]⟩ : ByteArray) [.string (⟨#[86, 99, 100, 101]⟩ : ByteArray)] from rfl) (Reps.one (show Kd.M Kd.string _ _ _ (⟨#[86, 87]⟩ : ByteArray) [.string (⟨#[86, 87]⟩ : ByteArray)] from rfl) (Reps.one (show Kd.M Kd.string _ _ _ (⟨#[86, 87]⟩ : ByteArray) [.string (⟨#[86, 87]⟩ : ByteArray)] from rfl) (Reps.none _ _)))))))))))))))))))))))))); intro m w1 b hb hg_ hnew_; clear hg_ hnew_; (first | rw [← c.out] at b | (simp only [Int.reduceToNat] at b; rw [← c.out] at b)); have d := a_ (Kd.R_lower b (bz_ bel_)); replace HB := hq_ hb; clear hb b))
 go_ret
 exact ⟨_, er_, vR_ d.out, bel_⟩

/-! ### jigsawref06_has: function 36 -/
def jigsawref06_has.l0 : Nat → ByteArray → Int → Int → Int → Option (Int)
 | 0, _, _, _, _ => none
 | k + 1, b, c, d, a => if a < (b.size : Int) then (if 0 ≤ a then (if (bt b a) = c then (jigsawref06_has.l0 k b c (wrap64 (d + 1)) (wrap64 (a + 1))) else (jigsawref06_has.l0 k b c d (wrap64 (a + 1)))) else (none)) else (some d)
def jigsawref06_has.f (k : Nat) (a : ByteArray) (b : Int) : Option (Int) := jigsawref06_has.l0 k a b 0 0
theorem jigsawref06_has.mono_l : ∀ k, (∀ a b c d, LeO (jigsawref06_has.l0 k a b c d) (jigsawref06_has.l0 (k + 1) a b c d))
 | 0 => by intros; exact LeO.none _
 | k + 1 => by
  have ih0 := jigsawref06_has.mono_l k
  intro a b c d
  unfold jigsawref06_has.l0
  exact leo_
theorem jigsawref06_has.mono : ∀ a b k, LeO (jigsawref06_has.f k a b) (jigsawref06_has.f (k + 1) a b) := by
 intro a b k
 have ih0 := jigsawref06_has.mono_l k
 unfold jigsawref06_has.f
 exact leo_
set_option maxHeartbeats 8000000 in
set_option maxRecDepth 100000 in
theorem jigsawref06_has.calls (k : Nat) (b : ByteArray) (d : Int) (r : Int) (w : World) (h : jigsawref06_has.f k b d = some r) :
  Calls Tryz.prog 36 #[.string b, .int .u8 d] w fun e w' => e = .returned (.int .i64 r) ∧ Drawn0 w w' := by
 unfold jigsawref06_has.f at h
 have H := h
 clear h
 have H' := a_ H
 clear H
 go_enter Tryz.func36, Tryz.ntmps36
 go_wp2
 go_loopg [5, 6] k (fun kq n o w' => ∃ (c : Int) (a : Int), n = .int .i64 c ∧ o = .int .i64 a ∧ Aside0 (jigsawref06_has.l0 kq b d c a = some r) ∧ Aside0 (kq ≤ k) ∧ Drawn0 w w')
 case atStart => exact ⟨(0), (0), eq_, eq_, H', ⟨lr_ _⟩, by repeat (first | exact d0_ _ | apply Drawn0.step)⟩
 clear H'
 try clear p2
 obtain ⟨c, a, rfl, rfl, HA, g, ⟨m1, rfl⟩⟩ := hrel
 cases gk with
 | zero => exact absurd HA.out (by simp [jigsawref06_has.l0])
 | succ k1 =>
  have H := HA.out
  clear HA
  simp only [jigsawref06_has.l0] at H
  by_cases c3 : a < (b.size : Int)
  rotate_left
  ·
   rw [ig_ c3] at H
   have c3b0 : decide (a < (b.size : Int)) = false := df_ c3
   clear c3
   obtain rfl := si_ H
   go_wp2
   go_ret
   exact ⟨by first | rfl | (simp; done) | (simp [*]; done), by repeat (first | exact d0_ _ | apply Drawn0.step)⟩
  rw [ip_ c3] at H
  have c3b0 : decide (a < (b.size : Int)) = true := dt_ c3
  clear c3
  by_cases c4 : 0 ≤ a
  rotate_left
  ·
   rw [ig_ c4] at H
   exact ab_ H
  rw [ip_ c4] at H
  have c4b0 : decide (0 ≤ a) = true := dt_ c4
  clear c4
  by_cases c6 : (bt b a) = d
  rotate_left
  ·
   rw [ig_ c6] at H
   have c6b0 : ((bt b a) == d) = false := be_.mpr c6
   have c6b1 : ((bt b a) != d) = true := ni_.mpr c6
   have H' := a_ H
   clear H
   have p5 : 0 ≤ (a : Int) := dq_
   have l : a < (b.size : Int) := dq_
   have m := bt_at b a
   replace p5 := et_ p5
   replace l := et_ l
   go_wp2
   go_roundg k1
   case measure => have := g.out; omega
   exact ⟨(c), (wrap64 (a + 1)), eq_, eq_, H', ⟨by have := g.out; omega⟩, by repeat (first | exact d0_ _ | apply Drawn0.step)⟩
  rw [ip_ c6] at H
  have c6b0 : ((bt b a) == d) = true := beq_iff_eq.mpr c6
  have c6b1 : ((bt b a) != d) = false := bn_.mpr c6
  clear c6
  have H' := a_ H
  clear H
  have p5 : 0 ≤ (a : Int) := dq_
  have l : a < (b.size : Int) := dq_
  have m := bt_at b a
  replace p5 := et_ p5
  replace l := et_ l
  go_wp2
  go_roundg k1
  case measure => have := g.out; omega
  exact ⟨(wrap64 (c + 1)), (wrap64 (a + 1)), eq_, eq_, H', ⟨by have := g.out; omega⟩, by repeat (first | exact d0_ _ | apply Drawn0.step)⟩

/-! ### jigsawref06_places: function 37 -/
def jigsawref06_places.l0 : Nat → List Int → Int → Int → List Int → Int → Option (List Int)
 | 0, _, _, _, _, _ => none
 | k + 1, d, e, b, c, a => if a < e then (if a < (d.length : Int) then (if 0 ≤ a then (if b = 0 then (none) else (if c.length < 17592186044416 then (jigsawref06_places.l0 k d e b (c ++ [Int.tmod (wrap64 (rd d a)) b]) (wrap64 (a + 1))) else (none))) else (none)) else (if b = 0 then (none) else (if c.length < 17592186044416 then (jigsawref06_places.l0 k d e b (c ++ [Int.tmod a b]) (wrap64 (a + 1))) else (none)))) else (some c)
def jigsawref06_places.f (k : Nat) (a : List Int) (b : Int) (c : Int) : Option (List Int) := jigsawref06_places.l0 k a b c ([] : List Int) 0
theorem jigsawref06_places.mono_l : ∀ k, (∀ a b c d e, LeO (jigsawref06_places.l0 k a b c d e) (jigsawref06_places.l0 (k + 1) a b c d e))
 | 0 => by intros; exact LeO.none _
 | k + 1 => by
  have ih0 := jigsawref06_places.mono_l k
  intro a b c d e
  unfold jigsawref06_places.l0
  exact leo_
theorem jigsawref06_places.mono : ∀ a b c k, LeO (jigsawref06_places.f k a b c) (jigsawref06_places.f (k + 1) a b c) := by
 intro a b c k
 have ih0 := jigsawref06_places.mono_l k
 unfold jigsawref06_places.f
 exact leo_
set_option maxHeartbeats 8000000 in
set_option maxRecDepth 100000 in
theorem jigsawref06_places.calls (k : Nat) (F : Option Addr) (c0 : Nat) (g : List Int) (o : Int) (d : Int) (r : List Int) (w : World) (z : Kd.C (Kd.int .u8) w F g.length g) (A : g.length ≤ c0) (h : jigsawref06_places.f k g o d = some r) :
  Calls Tryz.prog 37 #[.slice F g.length c0, .int .i64 o, .int .i64 d] w fun e w' => ∃ B : Value, e = .returned (B) ∧ Kd.R (Kd.int .i64) 3 w' w.heap.size (fun _ => True) B r ∧ Below w.heap.size w w' := by
 have G := a_ z
 have O := a_ A
 clear z A
 have HB := a_ (Below.refl w.heap.size w)
 unfold jigsawref06_places.f at h
 have H := h
 clear h
 have H' := a_ H
 clear H
 go_enter Tryz.func37, Tryz.ntmps37
 go_wp2
 go_loopg [7, 8] k (fun kq J K w' => ∃ (c : List Int) (a : Int), K = .int .i64 a ∧ Aside0 (jigsawref06_places.l0 kq g o d c a = some r) ∧ Aside0 (kq ≤ k) ∧ Aside0 (Kd.R (Kd.int .i64) 3 w' w.heap.size (fun _ => True) J c) ∧ Aside0 (Below w.heap.size w w'))
 case atStart => exact ⟨(([] : List Int)), (0), eq_, H', ⟨lr_ _⟩, ⟨nil_⟩, ⟨bel_⟩⟩
 clear H'
 try clear p2
 try clear c3
 obtain ⟨c, a, rfl, HA, q, HO_7, HB⟩ := hrel
 cases gk with
 | zero => exact absurd HA.out (by simp [jigsawref06_places.l0])
 | succ k1 =>
  have H := HA.out
  clear HA
  simp only [jigsawref06_places.l0] at H
  by_cases c4 : a < o
  rotate_left
  ·
   rw [ig_ c4] at H
   have c4b0 : decide (a < o) = false := df_ c4
   clear c4
   obtain rfl := si_ H
   go_wp2
   go_ret
   exact ⟨_, er_, vR_ HO_7.out, bel_⟩
  rw [ip_ c4] at H
  have c4b0 : decide (a < o) = true := dt_ c4
  clear c4
  by_cases c5 : a < (g.length : Int)
  rotate_left
  ·
   rw [ig_ c5] at H
   have c5b0 : decide (a < (g.length : Int)) = false := df_ c5
   clear c5
   by_cases c10 : d = 0
   ·
    rw [ip_ c10] at H
    exact ab_ H
   rw [ig_ c10] at H
   have c10b0 : (d == 0) = false := be_.mpr c10
   have c10b1 : (d != 0) = true := ni_.mpr c10
   by_cases c11 : c.length < 17592186044416
   rotate_left
   ·
    rw [ig_ c11] at H
    exact ab_ H
   rw [ip_ c11] at H
   have LMc11 := a_ c11
   clear c11
   obtain ⟨t, m⟩ : ∃ y_ : List Int, y_ = (c ++ [Int.tmod a d]) := ⟨_, rfl⟩
   replace H : (jigsawref06_places.l0 k1 g o d t (wrap64 (a + 1))) = some r := h2_ H m
   have x := a_ m
   clear m
   have H' := a_ H
   clear H
   go_wp2_with (first | ((with_reducible refine gate_builtin (b := .append) (xs := #[.tmp 25, .tmp 29]) rfl ?_); at_builtin; refine Kd.R_append (Kd.int .i64) (w0 := w) w.heap.size rfl (.tmp 25) (.tmp 29) 30 3 (.int .i64 0) 8 rfl Tryz.underlying30 info3 rfl (by decide) (by omega) u7 c (Int.tmod a d) [.int .i64 (Int.tmod a d)] (fun _ => True) (fun _ => False) rfl rfl ?aP (fun _ hk => hk.elim) ?aF ?aO ?aB ?aS ?aL ?_; (case aP => exact rfl); (case aB => exact bel_); (case aF => exact (fun _ _ => trivial)); (case aO => exact (vR_ HO_7.out)); (case aS => exact (bz_ bel_)); (case aL => have := LMc11.out; omega); intro N w12 ho hb hg hat; rw [← x.out] at ho; replace HB := a_ (hb); have y := a_ (ho); clear HO_7; clear ho hb hg hat))
   go_roundg k1
   case measure => have := q.out; omega
   exact ⟨(t), (wrap64 (a + 1)), eq_, H', ⟨by have := q.out; omega⟩, ⟨vR_ y.out⟩, ⟨bel_⟩⟩
  rw [ip_ c5] at H
  have c5b0 : decide (a < (g.length : Int)) = true := dt_ c5
  clear c5
  by_cases c6 : 0 ≤ a
  rotate_left
  ·
   rw [ig_ c6] at H
   exact ab_ H
  rw [ip_ c6] at H
  have c6b0 : decide (0 ≤ a) = true := dt_ c6
  clear c6
  by_cases c7 : d = 0
  ·
   rw [ip_ c7] at H
   exact ab_ H
  rw [ig_ c7] at H
  have c7b0 : (d == 0) = false := be_.mpr c7
  have c7b1 : (d != 0) = true := ni_.mpr c7
  by_cases c8 : c.length < 17592186044416
  rotate_left
  ·
   rw [ig_ c8] at H
   exact ab_ H
  rw [ip_ c8] at H
  have LMc8 := a_ c8
  clear c8
  obtain ⟨s, l⟩ : ∃ y_ : List Int, y_ = (c ++ [Int.tmod (wrap64 (rd g a)) d]) := ⟨_, rfl⟩
  replace H : (jigsawref06_places.l0 k1 g o d s (wrap64 (a + 1))) = some r := h2_ H l
  have u := a_ l
  clear l
  have H' := a_ H
  clear H
  have p373 : 0 ≤ (a : Int) := dq_
  have p : a < (g.length : Int) := dq_
  obtain ⟨I, E, n⟩ := ai_ G.out a p373 p
  cases E
  replace n := hx_ HB n
  replace p373 := et_ p373
  replace p := et_ p
  go_wp2_with (first | ((with_reducible refine gate_builtin (b := .append) (xs := #[.tmp 25, .tmp 29]) rfl ?_); at_builtin; refine Kd.R_append (Kd.int .i64) (w0 := w) w.heap.size rfl (.tmp 25) (.tmp 29) 30 3 (.int .i64 0) 8 rfl Tryz.underlying30 info3 rfl (by decide) (by omega) u7 c (Int.tmod (wrap64 (rd g a)) d) [.int .i64 (Int.tmod (wrap64 (rd g a)) d)] (fun _ => True) (fun _ => False) rfl rfl ?aP (fun _ hk => hk.elim) ?aF ?aO ?aB ?aS ?aL ?_; (case aP => exact rfl); (case aB => exact bel_); (case aF => exact (fun _ _ => trivial)); (case aO => exact (vR_ HO_7.out)); (case aS => exact (bz_ bel_)); (case aL => have := LMc8.out; omega); intro M w9 ho hb hg hat; rw [← u.out] at ho; replace HB := a_ (hb); have v := a_ (ho); clear HO_7; clear ho hb hg hat))
  go_roundg k1
  case measure => have := q.out; omega
  exact ⟨(s), (wrap64 (a + 1)), eq_, H', ⟨by have := q.out; omega⟩, ⟨vR_ v.out⟩, ⟨bel_⟩⟩

end Go.Proofs.YtckfbfdnlpnllaaGreatDoor.XAllDiffFixed
