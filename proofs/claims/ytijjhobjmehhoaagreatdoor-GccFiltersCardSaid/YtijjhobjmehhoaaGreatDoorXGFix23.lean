-- by xprint.py, a program of this session, over the kit's print
import Derived.Test.YtijjhobjmehhoaaGreatDoorXGFix0
import Derived.Test.YtijjhobjmehhoaaGreatDoorXGFix3
import Derived.Test.YtijjhobjmehhoaaGreatDoorXGFix22
import Derived.Test.YtijjhobjmehhoaaGreatDoorSq
namespace Go.Proofs.YtijjhobjmehhoaaGreatDoor.XGccFilters
open Go.RowKit Go.Proofs.YtijjhobjmehhoaaGreatDoor.Sq Go.Proofs.YtijjhobjmehhoaaGreatDoorW.PrintWords Go.Proofs.YtijjhobjmehhoaaGreatDoorW.PrintLast Go.Proofs.YtijjhobjmehhoaaGreatDoorW.PrintMore
attribute [local go_sem] max2_int min2_int max_two min_two max_three min_three max_four min_four   -- for this text's walks alone
set_option linter.unusedVariables false
set_option linter.unusedSimpArgs false

/-! ### jigsawref02_Keep: function 68 -/
def jigsawref02_Keep.l0 : Nat → List Int → Int → Int → List Int → List Int → Int → Option (List Int × Int)
 | 0, _, _, _, _, _, _ => none
 | k + 1, d, b, e, g, c, a => if a < (d.length : Int) then (if 0 ≤ a then ((jigsawref02_Has.f k g (rd d a)).bind fun m => (if b = 0 then (if (rd d a) = e then (if b = 1 then (if c.length < 17592186044416 then (jigsawref02_Keep.l0 k d b e g (c ++ [rd d a]) (wrap64 (a + 1))) else (none)) else (if b = 2 then (none) else (if b = 3 then (none) else (if b = 4 then (none) else (if b = 5 then (none) else (jigsawref02_Keep.l0 k d b e g c (wrap64 (a + 1)))))))) else (if c.length < 17592186044416 then (jigsawref02_Keep.l0 k d b e g (c ++ [rd d a]) (wrap64 (a + 1))) else (none))) else (if b = 1 then (if (rd d a) = e then (if c.length < 17592186044416 then (jigsawref02_Keep.l0 k d b e g (c ++ [rd d a]) (wrap64 (a + 1))) else (none)) else (if b = 2 then (none) else (if b = 3 then (none) else (if b = 4 then (none) else (if b = 5 then (none) else (jigsawref02_Keep.l0 k d b e g c (wrap64 (a + 1)))))))) else (if b = 2 then (none) else (if b = 3 then (none) else (if b = 4 then (none) else (if b = 5 then (none) else (jigsawref02_Keep.l0 k d b e g c (wrap64 (a + 1)))))))))) else (none)) else ((jigsawref02_Change.f d c).bind fun l => (some (c, l)))
def jigsawref02_Keep.f (k : Nat) (a : List Int) (b : Int) (c : Int) (d : List Int) : Option (List Int × Int) := jigsawref02_Keep.l0 k a b c d ([] : List Int) 0
theorem jigsawref02_Keep.mono_l : ∀ k, (∀ a b c d e f, LeO (jigsawref02_Keep.l0 k a b c d e f) (jigsawref02_Keep.l0 (k + 1) a b c d e f))
 | 0 => by intros; exact LeO.none _
 | k + 1 => by
  have ih0 := jigsawref02_Keep.mono_l k
  intro a b c d e f
  unfold jigsawref02_Keep.l0
  have m0 := @jigsawref02_Has.mono
  exact leo_
theorem jigsawref02_Keep.mono : ∀ a b c d k, LeO (jigsawref02_Keep.f k a b c d) (jigsawref02_Keep.f (k + 1) a b c d) := by
 intro a b c d k
 have ih0 := jigsawref02_Keep.mono_l k
 unfold jigsawref02_Keep.f
 have m0 := @jigsawref02_Has.mono
 exact leo_
set_option maxHeartbeats 8000000 in
set_option maxRecDepth 100000 in
theorem jigsawref02_Keep.calls (k : Nat) (A0 : Option Addr) (c0 : Nat) (d : List Int) (g : Int) (v : Int) (P : Option Addr) (c3 : Nat) (t : List Int) (Y : List Int) (Z : Int) (w : World) (ao : Kd.C (Kd.int .i64) w A0 d.length d) (ap : d.length ≤ c0) (aq : Kd.C (Kd.int .i64) w P t.length t) (ar : t.length ≤ c3) (h : jigsawref02_Keep.f k d g v t = some (Y, Z)) :
  Calls Tryz.prog 68 #[.slice A0 d.length c0, .int .i64 g, .int .i64 v, .slice P t.length c3] w fun e w' => ∃ au : Value, e = .returned (.tuple #[au, .int .i64 Z]) ∧ Kd.R (Kd.int .i64) 3 w' w.heap.size (fun _ => True) au Y ∧ Below w.heap.size w w' := by
 have q := a_ ao
 have aG := a_ ap
 clear ao ap
 have M := a_ aq
 have N := a_ ar
 clear aq ar
 have HB := a_ (Below.refl w.heap.size w)
 unfold jigsawref02_Keep.f at h
 have H := h
 clear h
 have H' := a_ H
 clear H
 go_enter Tryz.func68, Tryz.ntmps68
 go_wp2
 go_loopg [10, 11] k (fun kq aH aI w' => ∃ (m : List Int) (a : Int), aI = .int .i64 a ∧ Aside0 (jigsawref02_Keep.l0 kq d g v t m a = some (Y, Z)) ∧ Aside0 (kq ≤ k) ∧ Aside0 (Kd.R (Kd.int .i64) 3 w' w.heap.size (fun _ => True) aH m) ∧ Aside0 (Below w.heap.size w w'))
 case atStart => exact ⟨(([] : List Int)), (0), eq_, H', ⟨lr_ _⟩, ⟨nil_⟩, ⟨bel_⟩⟩
 clear H'
 try clear p2
 try clear c3
 obtain ⟨m, a, rfl, HA, u, HO_10, HB⟩ := hrel
 cases gk with
 | zero => exact absurd HA.out (by simp [jigsawref02_Keep.l0])
 | succ k1 =>
  have H := HA.out
  clear HA
  simp only [jigsawref02_Keep.l0] at H
  by_cases c5 : a < (d.length : Int)
  rotate_left
  ·
   rw [ig_ c5] at H
   have c5b0 : decide (a < (d.length : Int)) = false := df_ c5
   clear c5
   replace H := bo_ H
   obtain ⟨aA, aJ, H⟩ := H
   try dsimp only at H
   simp only [Option.some.injEq, Prod.mk.injEq] at H
   obtain ⟨rfl, rfl⟩ := H
   obtain ⟨aC, aD, aE⟩ := Kd.R_slice HO_10.out
   subst aE
   go_wp2_with (first | ((with_reducible refine gate_callee (f := 90) rfl ?_); refine goesL_ (some 98) rfl rfl Tryz.func90 kr_ rfl #[.slice A0 d.length c0, .slice aC m.length aD] rfl ar_ ?_; (with_reducible refine (jigsawref02_Change.calls _ _ d _ _ m aA _ ?_ ?_ ?_ ?_ aJ.out).mono ?_); exact ca_ ((cb_ q.out HB.out)); exact aG.out; exact ca_ ((rr_ HO_10.out).2.2); exact (rr_ HO_10.out).2.1; rintro e w' ⟨rfl, ⟨nd, rfl⟩⟩; refine ⟨_, rfl, ?_⟩))
   go_ret2
   exact ⟨_, er_, vR_ HO_10.out, bel_⟩
  rw [ip_ c5] at H
  have c5b0 : decide (a < (d.length : Int)) = true := dt_ c5
  clear c5
  by_cases c6 : 0 ≤ a
  rotate_left
  ·
   rw [ig_ c6] at H
   exact ab_ H
  rw [ip_ c6] at H
  have c6b0 : decide (0 ≤ a) = true := dt_ c6
  clear c6
  replace H := bo_ H
  obtain ⟨E, A7, H⟩ := H
  try dsimp only at H
  by_cases c8 : g = 0
  rotate_left
  ·
   rw [ig_ c8] at H
   have c8b0 : (g == 0) = false := be_.mpr c8
   have c8b1 : (g != 0) = true := ni_.mpr c8
   by_cases c19 : g = 1
   rotate_left
   ·
    rw [ig_ c19] at H
    have c19b0 : (g == 1) = false := be_.mpr c19
    have c19b1 : (g != 1) = true := ni_.mpr c19
    by_cases c27 : g = 2
    ·
     rw [ip_ c27] at H
     exact ab_ H
    rw [ig_ c27] at H
    have c27b0 : (g == 2) = false := be_.mpr c27
    have c27b1 : (g != 2) = true := ni_.mpr c27
    by_cases c28 : g = 3
    ·
     rw [ip_ c28] at H
     exact ab_ H
    rw [ig_ c28] at H
    have c28b0 : (g == 3) = false := be_.mpr c28
    have c28b1 : (g != 3) = true := ni_.mpr c28
    by_cases c29 : g = 4
    ·
     rw [ip_ c29] at H
     exact ab_ H
    rw [ig_ c29] at H
    have c29b0 : (g == 4) = false := be_.mpr c29
    have c29b1 : (g != 4) = true := ni_.mpr c29
    by_cases c30 : g = 5
    ·
     rw [ip_ c30] at H
     exact ab_ H
    rw [ig_ c30] at H
    have c30b0 : (g == 5) = false := be_.mpr c30
    have c30b1 : (g != 5) = true := ni_.mpr c30
    have H' := a_ H
    clear H
    have p553 : 0 ≤ (a : Int) := dq_
    have l : a < (d.length : Int) := dq_
    obtain ⟨o, r, c⟩ := ai_ q.out a p553 l
    cases r
    replace c := hx_ HB c
    replace p553 := et_ p553
    replace l := et_ l
    go_wp2_with (first | ((with_reducible refine gate_callee (f := 67) rfl ?_); refine goesL_ (some 26) rfl rfl Tryz.func67 kr_ rfl #[.slice P t.length c3, .int .i64 (rd d a)] rfl ar_ ?_; (with_reducible refine (jigsawref02_Has.calls k1 _ _ t (rd d a) E _ ?_ ?_ A7.out).mono ?_); exact ca_ ((cb_ M.out HB.out)); exact N.out; rintro e w' ⟨rfl, ⟨nd, rfl⟩⟩; refine ⟨_, rfl, ?_⟩))
    go_roundg k1
    case measure => have := u.out; omega
    exact ⟨(m), (wrap64 (a + 1)), eq_, H', ⟨by have := u.out; omega⟩, ⟨vR_ HO_10.out⟩, ⟨bel_⟩⟩
   rw [ip_ c19] at H
   have c19b0 : (g == 1) = true := beq_iff_eq.mpr c19
   have c19b1 : (g != 1) = false := bn_.mpr c19
   clear c19
   by_cases c20 : (rd d a) = v
   rotate_left
   ·
    rw [ig_ c20] at H
    have c20b0 : ((rd d a) == v) = false := be_.mpr c20
    have c20b1 : ((rd d a) != v) = true := ni_.mpr c20
    by_cases c23 : g = 2
    ·
     rw [ip_ c23] at H
     exact ab_ H
    rw [ig_ c23] at H
    have c23b0 : (g == 2) = false := be_.mpr c23
    have c23b1 : (g != 2) = true := ni_.mpr c23
    by_cases c24 : g = 3
    ·
     rw [ip_ c24] at H
     exact ab_ H
    rw [ig_ c24] at H
    have c24b0 : (g == 3) = false := be_.mpr c24
    have c24b1 : (g != 3) = true := ni_.mpr c24
    by_cases c25 : g = 4
    ·
     rw [ip_ c25] at H
     exact ab_ H
    rw [ig_ c25] at H
    have c25b0 : (g == 4) = false := be_.mpr c25
    have c25b1 : (g != 4) = true := ni_.mpr c25
    by_cases c26 : g = 5
    ·
     rw [ip_ c26] at H
     exact ab_ H
    rw [ig_ c26] at H
    have c26b0 : (g == 5) = false := be_.mpr c26
    have c26b1 : (g != 5) = true := ni_.mpr c26
    have H' := a_ H
    clear H
    have p553 : 0 ≤ (a : Int) := dq_
    have l : a < (d.length : Int) := dq_
    obtain ⟨o, r, c⟩ := ai_ q.out a p553 l
    cases r
    replace c := hx_ HB c
    replace p553 := et_ p553
    replace l := et_ l
    go_wp2_with (first | ((with_reducible refine gate_callee (f := 67) rfl ?_); refine goesL_ (some 26) rfl rfl Tryz.func67 kr_ rfl #[.slice P t.length c3, .int .i64 (rd d a)] rfl ar_ ?_; (with_reducible refine (jigsawref02_Has.calls k1 _ _ t (rd d a) E _ ?_ ?_ A7.out).mono ?_); exact ca_ ((cb_ M.out HB.out)); exact N.out; rintro e w' ⟨rfl, ⟨nd, rfl⟩⟩; refine ⟨_, rfl, ?_⟩; have p565 : 0 ≤ (a : Int) := dq_; have x : a < (d.length : Int) := dq_; obtain ⟨O, W, p⟩ := ai_ q.out a p565 x; obtain rfl : o = O := (by injection W); replace p := hx_ HB p; replace p565 := et_ p565; replace x := et_ x))
    go_roundg k1
    case measure => have := u.out; omega
    exact ⟨(m), (wrap64 (a + 1)), eq_, H', ⟨by have := u.out; omega⟩, ⟨vR_ HO_10.out⟩, ⟨bel_⟩⟩
   rw [ip_ c20] at H
   have c20b0 : ((rd d a) == v) = true := beq_iff_eq.mpr c20
   have c20b1 : ((rd d a) != v) = false := bn_.mpr c20
   clear c20
   by_cases c21 : m.length < 17592186044416
   rotate_left
   ·
    rw [ig_ c21] at H
    exact ab_ H
   rw [ip_ c21] at H
   have LMc21 := a_ c21
   clear c21
   obtain ⟨ad, B⟩ : ∃ y_ : List Int, y_ = (m ++ [rd d a]) := ⟨_, rfl⟩
   replace H : (jigsawref02_Keep.l0 k1 d g v t ad (wrap64 (a + 1))) = some (Y, Z) := h2_ H B
   have al := a_ B
   clear B
   have H' := a_ H
   clear H
   have p553 : 0 ≤ (a : Int) := dq_
   have l : a < (d.length : Int) := dq_
   obtain ⟨o, r, c⟩ := ai_ q.out a p553 l
   cases r
   replace c := hx_ HB c
   replace p553 := et_ p553
   replace l := et_ l
   go_wp2_with (first | ((with_reducible refine gate_callee (f := 67) rfl ?_); refine goesL_ (some 26) rfl rfl Tryz.func67 kr_ rfl #[.slice P t.length c3, .int .i64 (rd d a)] rfl ar_ ?_; (with_reducible refine (jigsawref02_Has.calls k1 _ _ t (rd d a) E _ ?_ ?_ A7.out).mono ?_); exact ca_ ((cb_ M.out HB.out)); exact N.out; rintro e w' ⟨rfl, ⟨nd, rfl⟩⟩; refine ⟨_, rfl, ?_⟩; have p565 : 0 ≤ (a : Int) := dq_; have x : a < (d.length : Int) := dq_; obtain ⟨O, W, p⟩ := ai_ q.out a p565 x; obtain rfl : o = O := (by injection W); replace p := hx_ HB p; replace p565 := et_ p565; replace x := et_ x; have p566 : 0 ≤ (a : Int) := dq_; have X : a < (d.length : Int) := dq_; obtain ⟨am, az, J⟩ := ai_ q.out a p566 X; obtain rfl : o = am := (by injection az); replace J := hx_ HB J; replace p566 := et_ p566; replace X := et_ X) | ((with_reducible refine gate_builtin (b := .append) (xs := #[.tmp 89, .tmp 94]) rfl ?_); at_builtin; refine Kd.R_append (Kd.int .i64) (w0 := w) w.heap.size rfl (.tmp 89) (.tmp 94) 30 3 (.int .i64 0) 8 rfl Tryz.underlying30 info3 rfl (by decide) (by omega) u10 m (rd d a) [.int .i64 (rd d a)] (fun _ => True) (fun _ => False) rfl rfl ?aP (fun _ hk => hk.elim) ?aF ?aO ?aB ?aS ?aL ?_; (case aP => exact rfl); (case aB => exact bel_); (case aF => exact (fun _ _ => trivial)); (case aO => exact (vR_ HO_10.out)); (case aS => exact (bz_ bel_)); (case aL => have := LMc21.out; omega); intro aN w22 ho hb hg hat; rw [← al.out] at ho; replace HB := a_ (hb); have an := a_ (ho); clear HO_10; clear ho hb hg hat))
   go_roundg k1
   case measure => have := u.out; omega
   exact ⟨(ad), (wrap64 (a + 1)), eq_, H', ⟨by have := u.out; omega⟩, ⟨vR_ an.out⟩, ⟨bel_⟩⟩
  rw [ip_ c8] at H
  have c8b0 : (g == 0) = true := beq_iff_eq.mpr c8
  have c8b1 : (g != 0) = false := bn_.mpr c8
  clear c8
  by_cases c9 : (rd d a) = v
  rotate_left
  ·
   rw [ig_ c9] at H
   have c9b0 : ((rd d a) == v) = false := be_.mpr c9
   have c9b1 : ((rd d a) != v) = true := ni_.mpr c9
   by_cases c17 : m.length < 17592186044416
   rotate_left
   ·
    rw [ig_ c17] at H
    exact ab_ H
   rw [ip_ c17] at H
   have LMc17 := a_ c17
   clear c17
   obtain ⟨ac, A⟩ : ∃ y_ : List Int, y_ = (m ++ [rd d a]) := ⟨_, rfl⟩
   replace H : (jigsawref02_Keep.l0 k1 d g v t ac (wrap64 (a + 1))) = some (Y, Z) := h2_ H A
   have ai := a_ A
   clear A
   have H' := a_ H
   clear H
   have p553 : 0 ≤ (a : Int) := dq_
   have l : a < (d.length : Int) := dq_
   obtain ⟨o, r, c⟩ := ai_ q.out a p553 l
   cases r
   replace c := hx_ HB c
   replace p553 := et_ p553
   replace l := et_ l
   go_wp2_with (first | ((with_reducible refine gate_callee (f := 67) rfl ?_); refine goesL_ (some 26) rfl rfl Tryz.func67 kr_ rfl #[.slice P t.length c3, .int .i64 (rd d a)] rfl ar_ ?_; (with_reducible refine (jigsawref02_Has.calls k1 _ _ t (rd d a) E _ ?_ ?_ A7.out).mono ?_); exact ca_ ((cb_ M.out HB.out)); exact N.out; rintro e w' ⟨rfl, ⟨nd, rfl⟩⟩; refine ⟨_, rfl, ?_⟩; have p555 : 0 ≤ (a : Int) := dq_; have s : a < (d.length : Int) := dq_; obtain ⟨z, K, n⟩ := ai_ q.out a p555 s; obtain rfl : o = z := (by injection K); replace n := hx_ HB n; replace p555 := et_ p555; replace s := et_ s; have p561 : 0 ≤ (a : Int) := dq_; have V : a < (d.length : Int) := dq_; obtain ⟨aj, ay, I⟩ := ai_ q.out a p561 V; obtain rfl : o = aj := (by injection ay); replace I := hx_ HB I; replace p561 := et_ p561; replace V := et_ V) | ((with_reducible refine gate_builtin (b := .append) (xs := #[.tmp 89, .tmp 94]) rfl ?_); at_builtin; refine Kd.R_append (Kd.int .i64) (w0 := w) w.heap.size rfl (.tmp 89) (.tmp 94) 30 3 (.int .i64 0) 8 rfl Tryz.underlying30 info3 rfl (by decide) (by omega) u10 m (rd d a) [.int .i64 (rd d a)] (fun _ => True) (fun _ => False) rfl rfl ?aP (fun _ hk => hk.elim) ?aF ?aO ?aB ?aS ?aL ?_; (case aP => exact rfl); (case aB => exact bel_); (case aF => exact (fun _ _ => trivial)); (case aO => exact (vR_ HO_10.out)); (case aS => exact (bz_ bel_)); (case aL => have := LMc17.out; omega); intro aM w18 ho hb hg hat; rw [← ai.out] at ho; replace HB := a_ (hb); have ak := a_ (ho); clear HO_10; clear ho hb hg hat))
   go_roundg k1
   case measure => have := u.out; omega
   exact ⟨(ac), (wrap64 (a + 1)), eq_, H', ⟨by have := u.out; omega⟩, ⟨vR_ ak.out⟩, ⟨bel_⟩⟩
  rw [ip_ c9] at H
  have c9b0 : ((rd d a) == v) = true := beq_iff_eq.mpr c9
  have c9b1 : ((rd d a) != v) = false := bn_.mpr c9
  clear c9
  by_cases c10 : g = 1
  rotate_left
  ·
   rw [ig_ c10] at H
   have c10b0 : (g == 1) = false := be_.mpr c10
   have c10b1 : (g != 1) = true := ni_.mpr c10
   by_cases c13 : g = 2
   ·
    rw [ip_ c13] at H
    exact ab_ H
   rw [ig_ c13] at H
   have c13b0 : (g == 2) = false := be_.mpr c13
   have c13b1 : (g != 2) = true := ni_.mpr c13
   by_cases c14 : g = 3
   ·
    rw [ip_ c14] at H
    exact ab_ H
   rw [ig_ c14] at H
   have c14b0 : (g == 3) = false := be_.mpr c14
   have c14b1 : (g != 3) = true := ni_.mpr c14
   by_cases c15 : g = 4
   ·
    rw [ip_ c15] at H
    exact ab_ H
   rw [ig_ c15] at H
   have c15b0 : (g == 4) = false := be_.mpr c15
   have c15b1 : (g != 4) = true := ni_.mpr c15
   by_cases c16 : g = 5
   ·
    rw [ip_ c16] at H
    exact ab_ H
   rw [ig_ c16] at H
   have c16b0 : (g == 5) = false := be_.mpr c16
   have c16b1 : (g != 5) = true := ni_.mpr c16
   have H' := a_ H
   clear H
   have p553 : 0 ≤ (a : Int) := dq_
   have l : a < (d.length : Int) := dq_
   obtain ⟨o, r, c⟩ := ai_ q.out a p553 l
   cases r
   replace c := hx_ HB c
   replace p553 := et_ p553
   replace l := et_ l
   go_wp2_with (first | ((with_reducible refine gate_callee (f := 67) rfl ?_); refine goesL_ (some 26) rfl rfl Tryz.func67 kr_ rfl #[.slice P t.length c3, .int .i64 (rd d a)] rfl ar_ ?_; (with_reducible refine (jigsawref02_Has.calls k1 _ _ t (rd d a) E _ ?_ ?_ A7.out).mono ?_); exact ca_ ((cb_ M.out HB.out)); exact N.out; rintro e w' ⟨rfl, ⟨nd, rfl⟩⟩; refine ⟨_, rfl, ?_⟩; have p555 : 0 ≤ (a : Int) := dq_; have s : a < (d.length : Int) := dq_; obtain ⟨z, K, n⟩ := ai_ q.out a p555 s; obtain rfl : o = z := (by injection K); replace n := hx_ HB n; replace p555 := et_ p555; replace s := et_ s))
   go_roundg k1
   case measure => have := u.out; omega
   exact ⟨(m), (wrap64 (a + 1)), eq_, H', ⟨by have := u.out; omega⟩, ⟨vR_ HO_10.out⟩, ⟨bel_⟩⟩
  rw [ip_ c10] at H
  have c10b0 : (g == 1) = true := beq_iff_eq.mpr c10
  have c10b1 : (g != 1) = false := bn_.mpr c10
  clear c10
  by_cases c11 : m.length < 17592186044416
  rotate_left
  ·
   rw [ig_ c11] at H
   exact ab_ H
  rw [ip_ c11] at H
  have LMc11 := a_ c11
  clear c11
  obtain ⟨ab, y⟩ : ∃ y_ : List Int, y_ = (m ++ [rd d a]) := ⟨_, rfl⟩
  replace H : (jigsawref02_Keep.l0 k1 d g v t ab (wrap64 (a + 1))) = some (Y, Z) := h2_ H y
  have ae := a_ y
  clear y
  have H' := a_ H
  clear H
  have p553 : 0 ≤ (a : Int) := dq_
  have l : a < (d.length : Int) := dq_
  obtain ⟨o, r, c⟩ := ai_ q.out a p553 l
  cases r
  replace c := hx_ HB c
  replace p553 := et_ p553
  replace l := et_ l
  go_wp2_with (first | ((with_reducible refine gate_callee (f := 67) rfl ?_); refine goesL_ (some 26) rfl rfl Tryz.func67 kr_ rfl #[.slice P t.length c3, .int .i64 (rd d a)] rfl ar_ ?_; (with_reducible refine (jigsawref02_Has.calls k1 _ _ t (rd d a) E _ ?_ ?_ A7.out).mono ?_); exact ca_ ((cb_ M.out HB.out)); exact N.out; rintro e w' ⟨rfl, ⟨nd, rfl⟩⟩; refine ⟨_, rfl, ?_⟩; have p555 : 0 ≤ (a : Int) := dq_; have s : a < (d.length : Int) := dq_; obtain ⟨z, K, n⟩ := ai_ q.out a p555 s; obtain rfl : o = z := (by injection K); replace n := hx_ HB n; replace p555 := et_ p555; replace s := et_ s; have p556 : 0 ≤ (a : Int) := dq_; have Q : a < (d.length : Int) := dq_; obtain ⟨af, aw, F⟩ := ai_ q.out a p556 Q; obtain rfl : o = af := (by injection aw); replace F := hx_ HB F; replace p556 := et_ p556; replace Q := et_ Q; have p557 : 0 ≤ (a : Int) := dq_; have U : a < (d.length : Int) := dq_; obtain ⟨ag, ax, G⟩ := ai_ q.out a p557 U; obtain rfl : o = ag := (by injection ax); replace G := hx_ HB G; replace p557 := et_ p557; replace U := et_ U) | ((with_reducible refine gate_builtin (b := .append) (xs := #[.tmp 89, .tmp 94]) rfl ?_); at_builtin; refine Kd.R_append (Kd.int .i64) (w0 := w) w.heap.size rfl (.tmp 89) (.tmp 94) 30 3 (.int .i64 0) 8 rfl Tryz.underlying30 info3 rfl (by decide) (by omega) u10 m (rd d a) [.int .i64 (rd d a)] (fun _ => True) (fun _ => False) rfl rfl ?aP (fun _ hk => hk.elim) ?aF ?aO ?aB ?aS ?aL ?_; (case aP => exact rfl); (case aB => exact bel_); (case aF => exact (fun _ _ => trivial)); (case aO => exact (vR_ HO_10.out)); (case aS => exact (bz_ bel_)); (case aL => have := LMc11.out; omega); intro aK w12 ho hb hg hat; rw [← ae.out] at ho; replace HB := a_ (hb); have ah := a_ (ho); clear HO_10; clear ho hb hg hat))
  go_roundg k1
  case measure => have := u.out; omega
  exact ⟨(ab), (wrap64 (a + 1)), eq_, H', ⟨by have := u.out; omega⟩, ⟨vR_ ah.out⟩, ⟨bel_⟩⟩

/-! ### jigsawref20_each: function 32 -/
def jigsawref20_each.l0 : Nat → List (List Int) → Int → Int → List (List Int) → Int → Option ((List (List Int)))
 | 0, _, _, _, _, _ => none
 | k + 1, b, e, d, c, a => if a < (b.length : Int) then (if 0 ≤ a then ((jigsawref02_Has.f k (rd_L7 b a) d).bind fun l => (if l = true then (if ((rd_L7 b a).length : Int) > 1 then ((jigsawref02_Keep.f k (rd_L7 b a) e d ([] : List Int)).bind fun g => (if c.length < 5864062014805 then (jigsawref20_each.l0 k b e d (c ++ [g.1]) (wrap64 (a + 1))) else (none))) else (if c.length < 5864062014805 then (jigsawref20_each.l0 k b e d (c ++ [rd_L7 b a]) (wrap64 (a + 1))) else (none))) else (if c.length < 5864062014805 then (jigsawref20_each.l0 k b e d (c ++ [rd_L7 b a]) (wrap64 (a + 1))) else (none)))) else (none)) else (some c)
def jigsawref20_each.f (k : Nat) (a : List (List Int)) (b : Int) (c : Int) : Option ((List (List Int))) := jigsawref20_each.l0 k a b c ([] : List (List Int)) 0
theorem jigsawref20_each.mono_l : ∀ k, (∀ a b c d e, LeO (jigsawref20_each.l0 k a b c d e) (jigsawref20_each.l0 (k + 1) a b c d e))
 | 0 => by intros; exact LeO.none _
 | k + 1 => by
  have ih0 := jigsawref20_each.mono_l k
  intro a b c d e
  unfold jigsawref20_each.l0
  have m0 := @jigsawref02_Has.mono
  have m1 := @jigsawref02_Keep.mono
  exact leo_
theorem jigsawref20_each.mono : ∀ a b c k, LeO (jigsawref20_each.f k a b c) (jigsawref20_each.f (k + 1) a b c) := by
 intro a b c k
 have ih0 := jigsawref20_each.mono_l k
 unfold jigsawref20_each.f
 have m0 := @jigsawref02_Has.mono
 have m1 := @jigsawref02_Keep.mono
 exact leo_
set_option maxHeartbeats 8000000 in
set_option maxRecDepth 100000 in
theorem jigsawref20_each.calls (k : Nat) (P0_ : Nat → Prop) (A0 : Option Addr) (c0 : Nat) (l : List (List Int)) (a1 : Int) (F : Int) (r : List (List Int)) (w : World) (ax : Kd.V (Kd.slice 3 (Kd.int .i64)) 30 w w.heap.size (fun a => P0_ a) (.slice A0 l.length c0) l) (h : jigsawref20_each.f k l a1 F = some r) :
  Calls Tryz.prog 32 #[.slice A0 l.length c0, .int .i64 a1, .int .i64 F] w fun e w' => ∃ ap : Value, e = .returned (ap) ∧ Kd.N (Kd.slice 3 (Kd.int .i64)) 30 w' w.heap.size (fun a => (P0_ a ∨ w.heap.size ≤ a)) ap r ∧ Below w.heap.size w w' := by
 have ay := a_ (show Kd.V (Kd.slice 3 (Kd.int .i64)) 30 w w.heap.size (fun a => (P0_ a ∨ w.heap.size ≤ a)) (.slice A0 l.length c0) l from vm_ ax (fun a hk => .inl hk))
 have HB := a_ (Below.refl w.heap.size w)
 unfold jigsawref20_each.f at h
 have H := h
 clear h
 have H' := a_ H
 clear H
 go_enter Tryz.func32, Tryz.ntmps32
 go_wp2
 go_loopg [7, 8] k (fun kq v7 v8 w' => ∃ (y : List (List Int)) (c : Int), v8 = .int .i64 c ∧ Aside0 (jigsawref20_each.l0 kq l a1 F y c = some r) ∧ Aside0 (kq ≤ k) ∧ Aside0 (Kd.V (Kd.slice 3 (Kd.int .i64)) 30 w' w.heap.size (fun a => (P0_ a ∨ w.heap.size ≤ a) ∧ some a ≠ v7.ownBlock) (.slice A0 l.length c0) l) ∧ Aside0 (Kd.N (Kd.slice 3 (Kd.int .i64)) 30 w' w.heap.size (fun a => (P0_ a ∨ w.heap.size ≤ a)) v7 y) ∧ Aside0 (Below w.heap.size w w'))
 case atStart => exact ⟨(([] : List (List Int))), (0), eq_, H', ⟨lr_ _⟩, ⟨by refine vV_ ?_; exact vm_ ay.out (fun _ hk => ⟨hk, (by simp [Value.ownBlock])⟩)⟩, ⟨nil_⟩, ⟨bel_⟩⟩
 clear H'
 try clear p2
 try clear c3
 obtain ⟨y, c, rfl, HA, Y, HO_0, HO_7, HB⟩ := hrel
 cases gk with
 | zero => exact absurd HA.out (by simp [jigsawref20_each.l0])
 | succ k1 =>
  have H := HA.out
  clear HA
  simp only [jigsawref20_each.l0] at H
  by_cases c4 : c < (l.length : Int)
  rotate_left
  ·
   rw [ig_ c4] at H
   have c4b0 : decide (c < (l.length : Int)) = false := df_ c4
   clear c4
   obtain rfl := si_ H
   go_wp2
   go_ret
   exact ⟨_, er_, vN_ HO_7.out, bel_⟩
  rw [ip_ c4] at H
  have c4b0 : decide (c < (l.length : Int)) = true := dt_ c4
  clear c4
  by_cases c5 : 0 ≤ c
  rotate_left
  ·
   rw [ig_ c5] at H
   exact ab_ H
  rw [ip_ c5] at H
  have c5b0 : decide (0 ≤ c) = true := dt_ c5
  clear c5
  replace H := bo_ H
  obtain ⟨ar, A6, H⟩ := H
  try dsimp only at H
  by_cases c7 : ar = true
  rotate_left
  ·
   replace c7 := bf_.mpr c7
   subst c7
   have H1 : (if y.length < 5864062014805 then (jigsawref20_each.l0 k1 l a1 F (y ++ [rd_L7 l c]) (wrap64 (c + 1))) else (none)) = some r := by rw [ig_ (show ¬ (false = true) by decide)] at H; exact H
   clear H
   have H := H1
   clear H1
   by_cases c16 : y.length < 5864062014805
   rotate_left
   ·
    rw [ig_ c16] at H
    exact ab_ H
   rw [ip_ c16] at H
   have LMc16 := a_ c16
   clear c16
   obtain ⟨ah, O⟩ : ∃ y_ : List (List Int), y_ = (y ++ [rd_L7 l c]) := ⟨_, rfl⟩
   replace H : (jigsawref20_each.l0 k1 l a1 F ah (wrap64 (c + 1))) = some r := h2_ H O
   have an := a_ O
   clear O
   have H' := a_ H
   clear H
   have p571 : 0 ≤ (c : Int) := dq_
   have z : c < (l.length : Int) := dq_
   obtain ⟨I, B, c571_0, W, o, p, C⟩ := at_L7 (Kd.V_reads' HO_0.out).2.2 c p571 z
   cases W
   obtain ⟨ce571, hce571, hMe571, hcc571⟩ := Kd.V_get HO_0.out [] c p571 (by first | exact z | exact dq_ | (have e_ := (Kd.V_reads' HO_0.out).1; omega))
   obtain ⟨ua571_0, uc571_0, rfl, m, n⟩ := Kd.FK_slice_open hMe571
   have d := hcc571 0 _ rfl
   rw [Nat.add_zero, show ((Kd.slice 3 (Kd.int .i64))).sz = 1 from rfl, Nat.mul_one] at d
   replace d := si_ (d.symm.trans o)
   injection d with hva_ hvn_ hvc_
   rw [hva_] at n
   rw [hvc_] at m
   have HL571_0 := a_ (show Kd.V (Kd.int .i64) 3 _ w.heap.size _ _ (rd_L7 l c) from Kd.V_mk m n)
   clear hva_ hvn_ hvc_ n m
   clear hcc571 hce571
   have P := a_ p
   clear C p
   replace p571 := et_ p571
   replace z := et_ z
   have p572 : 0 ≤ (c : Int) := dq_
   have A : c < (l.length : Int) := dq_
   obtain ⟨J, ab, c572_0, X, q, s, t⟩ := at_L7 (Kd.V_reads' HO_0.out).2.2 c p572 A
   obtain rfl : I = J := (by injection X)
   obtain ⟨ce572, hce572, hMe572, hcc572⟩ := Kd.V_get HO_0.out [] c p572 (by first | exact A | exact dq_ | (have e_ := (Kd.V_reads' HO_0.out).1; omega))
   obtain ⟨ua572_0, uc572_0, rfl, u, v⟩ := Kd.FK_slice_open hMe572
   have g := hcc572 0 _ rfl
   rw [Nat.add_zero, show ((Kd.slice 3 (Kd.int .i64))).sz = 1 from rfl, Nat.mul_one] at g
   replace g := si_ (g.symm.trans q)
   injection g with hva_ hvn_ hvc_
   rw [hva_] at v
   rw [hvc_] at u
   clear hva_ hvn_ hvc_ v u
   clear hcc572 hce572
   have x := a_ t
   have E := a_ s
   clear t s
   replace p572 := et_ p572
   replace A := et_ A
   have ea_ := si_ (o.symm.trans q)
   injection ea_ with ea_ en_ ec_
   subst ea_
   subst ec_
   clear en_
   go_wp2_with (first | ((with_reducible refine gate_callee (f := 67) rfl ?_); refine goesL_ (some 26) rfl rfl Tryz.func67 kr_ rfl #[.slice B (rd_L7 l c).length c571_0, .int .i64 F] rfl ar_ ?_; (with_reducible refine (jigsawref02_Has.calls k1 _ _ (rd_L7 l c) F false _ ?side1 ?side2 A6.out).mono ?_); (case side1 => repeat (first | exact (by repeat (first | (with_reducible exact x.out) | (with_reducible refine Kd.C_alloc ?_ _) | (with_reducible refine Kd.C_drewN ?_ _) | (with_reducible refine Kd.C_drew ?_) | exact x.out)) | (with_reducible refine Kd.C_alloc ?_ _) | (with_reducible refine Kd.C_drewN ?_ _) | (with_reducible refine Kd.C_drew ?_))); (case side2 => exact E.out); rintro e w' ⟨rfl, ⟨nd, rfl⟩⟩; refine ⟨_, rfl, ?_⟩) | ((with_reducible refine gate_builtin (b := .append) (xs := #[.tmp 40, .tmp 42]) rfl ?_); (try (refine gate_guard (by rfl) ?_; dsimp only)); at_builtin; refine Kd.N_append (Kd.slice 3 (Kd.int .i64)) (w0 := w) w.heap.size rfl (.tmp 40) (.tmp 42) 27 30 (.slice none 0 0) 24 rfl Tryz.underlying27 info30 rfl (by decide) (by omega) u7 y (rd_L7 l c) [.slice B (rd_L7 l c).length c571_0] (fun a => (P0_ a ∨ w.heap.size ≤ a)) (fun a => ((fun a => (P0_ a ∨ w.heap.size ≤ a))) a ∧ some a ≠ u7.ownBlock) rfl rfl ?aP (fun _ hk => hk) ?aF ?aO ?aB ?aS ?aL ?_; (case aP => first | exact (Kd.FK_slice_mk (Kd.V_reads' (vm_ (ok' := (fun a => ((fun a => (P0_ a ∨ w.heap.size ≤ a))) a ∧ some a ≠ u7.ownBlock)) (HL571_0.out) (fun a hk => ⟨hk.1, hk.2⟩))).2.1 (Kd.V_F (vm_ (ok' := (fun a => ((fun a => (P0_ a ∨ w.heap.size ≤ a))) a ∧ some a ≠ u7.ownBlock)) (HL571_0.out) (fun a hk => ⟨hk.1, hk.2⟩)))) | exact (Kd.FK_slice_mk (Kd.V_reads' (vm_ (ok' := (fun a => ((fun a => (P0_ a ∨ w.heap.size ≤ a))) a ∧ some a ≠ u7.ownBlock)) (HL571_0.out) (fun a hk => ⟨hk.1, hk.2⟩))).2.1 (Kd.V_F (vm_ (ok' := (fun a => ((fun a => (P0_ a ∨ w.heap.size ≤ a))) a ∧ some a ≠ u7.ownBlock)) (Kd.V_drewN HL571_0.out _) (fun a hk => ⟨hk.1, hk.2⟩))))); (case aB => exact bel_); (case aF => exact (fun a hk => (.inr (Nat.le_trans (bz_ bel_) hk)))); (case aO => exact (vN_ HO_7.out)); (case aS => exact (bz_ bel_)); (case aL => have := LMc16.out; omega); intro aH w17 ho hb hg hat; rw [← an.out] at ho; replace HO_0 := a_ (Kd.V_afterv (ok := (fun a => (P0_ a ∨ w.heap.size ≤ a))) (vV_ HO_0.out) hg hat); replace HB := a_ (hb); have ao := a_ (ho); clear HO_7; clear ho hb hg hat))
   go_roundg k1
   case measure => have := Y.out; omega
   exact ⟨(ah), (wrap64 (c + 1)), eq_, H', ⟨by have := Y.out; omega⟩, ⟨vV_ HO_0.out⟩, ⟨vN_ ao.out⟩, ⟨bel_⟩⟩
  subst c7
  rw [ip_ rfl] at H
  by_cases c8 : ((rd_L7 l c).length : Int) > 1
  rotate_left
  ·
   rw [ig_ c8] at H
   have c8b0 : decide (1 < ((rd_L7 l c).length : Int)) = false := df_ c8
   have c8b1 : decide (1 < (rd_L7 l c).length) = false := df_ (by omega)
   clear c8
   by_cases c14 : y.length < 5864062014805
   rotate_left
   ·
    rw [ig_ c14] at H
    exact ab_ H
   rw [ip_ c14] at H
   have LMc14 := a_ c14
   clear c14
   obtain ⟨ag, K⟩ : ∃ y_ : List (List Int), y_ = (y ++ [rd_L7 l c]) := ⟨_, rfl⟩
   replace H : (jigsawref20_each.l0 k1 l a1 F ag (wrap64 (c + 1))) = some r := h2_ H K
   have al := a_ K
   clear K
   have H' := a_ H
   clear H
   have p571 : 0 ≤ (c : Int) := dq_
   have z : c < (l.length : Int) := dq_
   obtain ⟨I, B, c571_0, W, o, p, C⟩ := at_L7 (Kd.V_reads' HO_0.out).2.2 c p571 z
   cases W
   obtain ⟨ce571, hce571, hMe571, hcc571⟩ := Kd.V_get HO_0.out [] c p571 (by first | exact z | exact dq_ | (have e_ := (Kd.V_reads' HO_0.out).1; omega))
   obtain ⟨ua571_0, uc571_0, rfl, m, n⟩ := Kd.FK_slice_open hMe571
   have d := hcc571 0 _ rfl
   rw [Nat.add_zero, show ((Kd.slice 3 (Kd.int .i64))).sz = 1 from rfl, Nat.mul_one] at d
   replace d := si_ (d.symm.trans o)
   injection d with hva_ hvn_ hvc_
   rw [hva_] at n
   rw [hvc_] at m
   have HL571_0 := a_ (show Kd.V (Kd.int .i64) 3 _ w.heap.size _ _ (rd_L7 l c) from Kd.V_mk m n)
   clear hva_ hvn_ hvc_ n m
   clear hcc571 hce571
   have P := a_ p
   clear C p
   replace p571 := et_ p571
   replace z := et_ z
   have p572 : 0 ≤ (c : Int) := dq_
   have A : c < (l.length : Int) := dq_
   obtain ⟨J, ab, c572_0, X, q, s, t⟩ := at_L7 (Kd.V_reads' HO_0.out).2.2 c p572 A
   obtain rfl : I = J := (by injection X)
   obtain ⟨ce572, hce572, hMe572, hcc572⟩ := Kd.V_get HO_0.out [] c p572 (by first | exact A | exact dq_ | (have e_ := (Kd.V_reads' HO_0.out).1; omega))
   obtain ⟨ua572_0, uc572_0, rfl, u, v⟩ := Kd.FK_slice_open hMe572
   have g := hcc572 0 _ rfl
   rw [Nat.add_zero, show ((Kd.slice 3 (Kd.int .i64))).sz = 1 from rfl, Nat.mul_one] at g
   replace g := si_ (g.symm.trans q)
   injection g with hva_ hvn_ hvc_
   rw [hva_] at v
   rw [hvc_] at u
   clear hva_ hvn_ hvc_ v u
   clear hcc572 hce572
   have x := a_ t
   have E := a_ s
   clear t s
   replace p572 := et_ p572
   replace A := et_ A
   have ea_ := si_ (o.symm.trans q)
   injection ea_ with ea_ en_ ec_
   subst ea_
   subst ec_
   clear en_
   go_wp2_with (first | ((with_reducible refine gate_callee (f := 67) rfl ?_); refine goesL_ (some 26) rfl rfl Tryz.func67 kr_ rfl #[.slice B (rd_L7 l c).length c571_0, .int .i64 F] rfl ar_ ?_; (with_reducible refine (jigsawref02_Has.calls k1 _ _ (rd_L7 l c) F true _ ?side1 ?side2 A6.out).mono ?_); (case side1 => repeat (first | exact (by repeat (first | (with_reducible exact x.out) | (with_reducible refine Kd.C_alloc ?_ _) | (with_reducible refine Kd.C_drewN ?_ _) | (with_reducible refine Kd.C_drew ?_) | exact x.out)) | (with_reducible refine Kd.C_alloc ?_ _) | (with_reducible refine Kd.C_drewN ?_ _) | (with_reducible refine Kd.C_drew ?_))); (case side2 => exact E.out); rintro e w' ⟨rfl, ⟨nd, rfl⟩⟩; refine ⟨_, rfl, ?_⟩) | ((with_reducible refine gate_builtin (b := .append) (xs := #[.tmp 40, .tmp 42]) rfl ?_); (try (refine gate_guard (by rfl) ?_; dsimp only)); at_builtin; refine Kd.N_append (Kd.slice 3 (Kd.int .i64)) (w0 := w) w.heap.size rfl (.tmp 40) (.tmp 42) 27 30 (.slice none 0 0) 24 rfl Tryz.underlying27 info30 rfl (by decide) (by omega) u7 y (rd_L7 l c) [.slice B (rd_L7 l c).length c571_0] (fun a => (P0_ a ∨ w.heap.size ≤ a)) (fun a => ((fun a => (P0_ a ∨ w.heap.size ≤ a))) a ∧ some a ≠ u7.ownBlock) rfl rfl ?aP (fun _ hk => hk) ?aF ?aO ?aB ?aS ?aL ?_; (case aP => first | exact (Kd.FK_slice_mk (Kd.V_reads' (vm_ (ok' := (fun a => ((fun a => (P0_ a ∨ w.heap.size ≤ a))) a ∧ some a ≠ u7.ownBlock)) (HL571_0.out) (fun a hk => ⟨hk.1, hk.2⟩))).2.1 (Kd.V_F (vm_ (ok' := (fun a => ((fun a => (P0_ a ∨ w.heap.size ≤ a))) a ∧ some a ≠ u7.ownBlock)) (HL571_0.out) (fun a hk => ⟨hk.1, hk.2⟩)))) | exact (Kd.FK_slice_mk (Kd.V_reads' (vm_ (ok' := (fun a => ((fun a => (P0_ a ∨ w.heap.size ≤ a))) a ∧ some a ≠ u7.ownBlock)) (HL571_0.out) (fun a hk => ⟨hk.1, hk.2⟩))).2.1 (Kd.V_F (vm_ (ok' := (fun a => ((fun a => (P0_ a ∨ w.heap.size ≤ a))) a ∧ some a ≠ u7.ownBlock)) (Kd.V_drewN HL571_0.out _) (fun a hk => ⟨hk.1, hk.2⟩))))); (case aB => exact bel_); (case aF => exact (fun a hk => (.inr (Nat.le_trans (bz_ bel_) hk)))); (case aO => exact (vN_ HO_7.out)); (case aS => exact (bz_ bel_)); (case aL => have := LMc14.out; omega); intro aG w15 ho hb hg hat; rw [← al.out] at ho; replace HO_0 := a_ (Kd.V_afterv (ok := (fun a => (P0_ a ∨ w.heap.size ≤ a))) (vV_ HO_0.out) hg hat); replace HB := a_ (hb); have am := a_ (ho); clear HO_7; clear ho hb hg hat))
   go_roundg k1
   case measure => have := Y.out; omega
   exact ⟨(ag), (wrap64 (c + 1)), eq_, H', ⟨by have := Y.out; omega⟩, ⟨vV_ HO_0.out⟩, ⟨vN_ am.out⟩, ⟨bel_⟩⟩
  rw [ip_ c8] at H
  have c8b0 : decide (1 < ((rd_L7 l c).length : Int)) = true := dt_ c8
  have c8b1 : decide (1 < (rd_L7 l c).length) = true := dt_ (by omega)
  clear c8
  replace H := bs_.mp H
  obtain ⟨⟨U, av⟩, aq, H⟩ := H
  try dsimp only at H
  have A9 := a_ aq
  clear aq
  by_cases c10 : y.length < 5864062014805
  rotate_left
  ·
   rw [ig_ c10] at H
   exact ab_ H
  rw [ip_ c10] at H
  have LMc10 := a_ c10
  clear c10
  obtain ⟨ad, G⟩ : ∃ y_ : List (List Int), y_ = (y ++ [U]) := ⟨_, rfl⟩
  replace H : (jigsawref20_each.l0 k1 l a1 F ad (wrap64 (c + 1))) = some r := h2_ H G
  have aj := a_ G
  clear G
  have H' := a_ H
  clear H
  have p571 : 0 ≤ (c : Int) := dq_
  have z : c < (l.length : Int) := dq_
  obtain ⟨I, B, c571_0, W, o, p, C⟩ := at_L7 (Kd.V_reads' HO_0.out).2.2 c p571 z
  cases W
  obtain ⟨ce571, hce571, hMe571, hcc571⟩ := Kd.V_get HO_0.out [] c p571 (by first | exact z | exact dq_ | (have e_ := (Kd.V_reads' HO_0.out).1; omega))
  obtain ⟨ua571_0, uc571_0, rfl, m, n⟩ := Kd.FK_slice_open hMe571
  have d := hcc571 0 _ rfl
  rw [Nat.add_zero, show ((Kd.slice 3 (Kd.int .i64))).sz = 1 from rfl, Nat.mul_one] at d
  replace d := si_ (d.symm.trans o)
  injection d with hva_ hvn_ hvc_
  rw [hva_] at n
  rw [hvc_] at m
  clear hva_ hvn_ hvc_ n m
  clear hcc571 hce571
  have Z := a_ C
  have P := a_ p
  clear C p
  replace p571 := et_ p571
  replace z := et_ z
  have p572 : 0 ≤ (c : Int) := dq_
  have A : c < (l.length : Int) := dq_
  obtain ⟨J, ab, c572_0, X, q, s, t⟩ := at_L7 (Kd.V_reads' HO_0.out).2.2 c p572 A
  obtain rfl : I = J := (by injection X)
  obtain ⟨ce572, hce572, hMe572, hcc572⟩ := Kd.V_get HO_0.out [] c p572 (by first | exact A | exact dq_ | (have e_ := (Kd.V_reads' HO_0.out).1; omega))
  obtain ⟨ua572_0, uc572_0, rfl, u, v⟩ := Kd.FK_slice_open hMe572
  have g := hcc572 0 _ rfl
  rw [Nat.add_zero, show ((Kd.slice 3 (Kd.int .i64))).sz = 1 from rfl, Nat.mul_one] at g
  replace g := si_ (g.symm.trans q)
  injection g with hva_ hvn_ hvc_
  rw [hva_] at v
  rw [hvc_] at u
  clear hva_ hvn_ hvc_ v u
  clear hcc572 hce572
  have x := a_ t
  have E := a_ s
  clear t s
  replace p572 := et_ p572
  replace A := et_ A
  have ea_ := si_ (o.symm.trans q)
  injection ea_ with ea_ en_ ec_
  subst ea_
  subst ec_
  clear en_
  go_wp2_with (first | ((with_reducible refine gate_callee (f := 67) rfl ?_); refine goesL_ (some 26) rfl rfl Tryz.func67 kr_ rfl #[.slice B (rd_L7 l c).length c571_0, .int .i64 F] rfl ar_ ?_; (with_reducible refine (jigsawref02_Has.calls k1 _ _ (rd_L7 l c) F true _ ?side1 ?side2 A6.out).mono ?_); (case side1 => repeat (first | exact (by repeat (first | (with_reducible exact x.out) | (with_reducible refine Kd.C_alloc ?_ _) | (with_reducible refine Kd.C_drewN ?_ _) | (with_reducible refine Kd.C_drew ?_) | exact x.out)) | (with_reducible refine Kd.C_alloc ?_ _) | (with_reducible refine Kd.C_drewN ?_ _) | (with_reducible refine Kd.C_drew ?_))); (case side2 => exact E.out); rintro e w' ⟨rfl, ⟨nd, rfl⟩⟩; refine ⟨_, rfl, ?_⟩) | ((with_reducible refine gate_callee (f := 68) rfl ?_); refine goesL_ (some 37) rfl rfl Tryz.func68 kr_ rfl #[.slice B (rd_L7 l c).length c571_0, .int .i64 a1, .int .i64 F, .slice none 0 0] rfl ar_ ?_; (refine (jigsawref02_Keep.calls k1 _ _ (rd_L7 l c) a1 F _ _ ([] : List Int) U av _ ?side1 ?side2 ?side3 ?side4 A9.out).mono ?_); (case side1 => repeat (first | exact (by repeat (first | (with_reducible exact Z.out) | (with_reducible refine Kd.C_alloc ?_ _) | (with_reducible refine Kd.C_drewN ?_ _) | (with_reducible refine Kd.C_drew ?_) | exact Z.out)) | (with_reducible refine Kd.C_alloc ?_ _) | (with_reducible refine Kd.C_drewN ?_ _) | (with_reducible refine Kd.C_drew ?_))); (case side2 => exact P.out); (case side3 => exact Kd.C_nil _ _); (case side4 => exact lr_ _); rintro e w11 ⟨aD, rfl, ac, hb⟩; refine ⟨_, rfl, ?_⟩; replace HO_0 := a_ (Kd.V_elder' (vV_ HO_0.out) (rs_ ac) hb); replace HO_7 := a_ (Kd.N_elder' (vN_ HO_7.out) (rs_ ac) hb); have Q := a_ (Kd.R_lower (Kd.R_newM (M := fun a => (w.heap.size ≤ a)) ac (bz_ bel_) (fun a h_ => h_)) (bz_ bel_)); replace HB := hq_ hb; clear hb ac; obtain ⟨ae, af, aw⟩ := Kd.R_slice Q.out; subst aw) | ((with_reducible refine gate_builtin (b := .append) (xs := #[.tmp 40, .tmp 42]) rfl ?_); (try (refine gate_guard (by rfl) ?_; dsimp only)); at_builtin; refine Kd.N_append (Kd.slice 3 (Kd.int .i64)) (w0 := w) w.heap.size rfl (.tmp 40) (.tmp 42) 27 30 (.slice none 0 0) 24 rfl Tryz.underlying27 info30 rfl (by decide) (by omega) u7 y U [.slice ae U.length af] (fun a => (P0_ a ∨ w.heap.size ≤ a)) (fun a => ((fun a => (P0_ a ∨ w.heap.size ≤ a))) a ∧ some a ≠ u7.ownBlock) rfl rfl ?aP (fun _ hk => hk) ?aF ?aO ?aB ?aS ?aL ?_; (case aP => exact (Kd.FK_slice_mk (rr_ (rm_ (ok' := (fun a => ((fun a => (P0_ a ∨ w.heap.size ≤ a))) a ∧ some a ≠ u7.ownBlock)) (Kd.R_apart' (Q.out) (Kd.N_typed HO_7.out) (by decide)) (fun a hk => ⟨(.inr (hk.1.1)), hk.2⟩))).2.1 (Kd.R_F (rm_ (ok' := (fun a => ((fun a => (P0_ a ∨ w.heap.size ≤ a))) a ∧ some a ≠ u7.ownBlock)) (Kd.R_apart' (Q.out) (Kd.N_typed HO_7.out) (by decide)) (fun a hk => ⟨(.inr (hk.1.1)), hk.2⟩))))); (case aB => exact bel_); (case aF => exact (fun a hk => (.inr (Nat.le_trans (bz_ bel_) hk)))); (case aO => exact (by refine vN_ ?_; exact nm_ HO_7.out (fun _ hk => hk.1))); (case aS => exact (bz_ bel_)); (case aL => have := LMc10.out; omega); intro aE w12 ho hb hg hat; rw [← aj.out] at ho; replace HO_0 := a_ (Kd.V_afterv (ok := (fun a => (P0_ a ∨ w.heap.size ≤ a) ∧ some a ≠ (.slice ae U.length af : Value).ownBlock)) (by refine vV_ ?_; exact vm_ HO_0.out (fun _ hk => ⟨⟨hk.1.1, hk.2⟩, hk.1.2⟩)) hg hat); replace HB := a_ (hb); have ak := a_ (ho); clear HO_7 Q; clear ho hb hg hat))
  go_roundg k1
  case measure => have := Y.out; omega
  exact ⟨(ad), (wrap64 (c + 1)), eq_, H', ⟨by have := Y.out; omega⟩, ⟨by refine vV_ ?_; exact vm_ HO_0.out (fun _ hk => ⟨hk.1.1, hk.2⟩)⟩, ⟨vN_ ak.out⟩, ⟨bel_⟩⟩

end Go.Proofs.YtijjhobjmehhoaaGreatDoor.XGccFilters
