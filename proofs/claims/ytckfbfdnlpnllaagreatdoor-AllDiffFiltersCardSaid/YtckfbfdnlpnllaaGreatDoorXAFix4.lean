-- by xprint.py, a program of this session, over the kit's print
import Derived.Test.YtckfbfdnlpnllaaGreatDoorXAFix0
import Derived.Test.YtckfbfdnlpnllaaGreatDoorXAFix3
import Derived.Test.YtckfbfdnlpnllaaGreatDoorSq
namespace Go.Proofs.YtckfbfdnlpnllaaGreatDoor.XAllDiffFilters
open Go.RowKit Go.Proofs.YtckfbfdnlpnllaaGreatDoor.Sq Go.Proofs.YtckfbfdnlpnllaaGreatDoorW.PrintWords Go.Proofs.YtckfbfdnlpnllaaGreatDoorW.PrintLast Go.Proofs.YtckfbfdnlpnllaaGreatDoorW.PrintMore
attribute [local go_sem] max2_int min2_int max_two min_two max_three min_three max_four min_four   -- for this text's walks alone
set_option linter.unusedVariables false
set_option linter.unusedSimpArgs false

/-! ### jigsawref02_Small: function 24 -/
def jigsawref02_Small.l0 : Nat → List Int → Int → Int → List Int → Int → Option (List Int)
 | 0, _, _, _, _, _ => none
 | k + 1, e, l, g, b, a => if a < (e.length : Int) then (if a < l then (if 0 ≤ a then (if g = 0 then (none) else (if b.length < 17592186044416 then (jigsawref02_Small.l0 k e l g (b ++ [Int.tmod (rd e a) g]) (wrap64 (a + 1))) else (none))) else (none)) else ((jigsawref02_Of.f k b).bind fun c => (some c.1))) else ((jigsawref02_Of.f k b).bind fun d => (some d.1))
def jigsawref02_Small.f (k : Nat) (a : List Int) (b : Int) (c : Int) : Option (List Int) := jigsawref02_Small.l0 k a b c ([] : List Int) 0
theorem jigsawref02_Small.mono_l : ∀ k, (∀ a b c d e, LeO (jigsawref02_Small.l0 k a b c d e) (jigsawref02_Small.l0 (k + 1) a b c d e))
 | 0 => by intros; exact LeO.none _
 | k + 1 => by
  have ih0 := jigsawref02_Small.mono_l k
  intro a b c d e
  unfold jigsawref02_Small.l0
  have m0 := @jigsawref02_Of.mono
  exact leo_
theorem jigsawref02_Small.mono : ∀ a b c k, LeO (jigsawref02_Small.f k a b c) (jigsawref02_Small.f (k + 1) a b c) := by
 intro a b c k
 have ih0 := jigsawref02_Small.mono_l k
 unfold jigsawref02_Small.f
 have m0 := @jigsawref02_Of.mono
 exact leo_
set_option maxHeartbeats 8000000 in
set_option maxRecDepth 100000 in
theorem jigsawref02_Small.calls (k : Nat) (V : Option Addr) (c0 : Nat) (d : List Int) (o : Int) (m : Int) (r : List Int) (w : World) (z : Kd.C (Kd.int .i64) w V d.length d) (A : d.length ≤ c0) (h : jigsawref02_Small.f k d o m = some r) :
  Calls Tryz.prog 24 #[.slice V d.length c0, .int .i64 o, .int .i64 m] w fun e w' => ∃ B : Value, e = .returned (B) ∧ Kd.R (Kd.int .i64) 3 w' w.heap.size (fun _ => True) B r ∧ Below w.heap.size w w' := by
 have W := a_ z
 have af := a_ A
 clear z A
 have HB := a_ (Below.refl w.heap.size w)
 unfold jigsawref02_Small.f at h
 have H := h
 clear h
 have H' := a_ H
 clear H
 go_enter Tryz.func24, Tryz.ntmps24
 go_wp2
 go_loopg [7, 8] k (fun kq v7 v8 w' => ∃ (c : List Int) (a : Int), v8 = .int .i64 a ∧ Aside0 (jigsawref02_Small.l0 kq d o m c a = some r) ∧ Aside0 (kq ≤ k) ∧ Aside0 (Kd.R (Kd.int .i64) 3 w' w.heap.size (fun _ => True) v7 c) ∧ Aside0 (Below w.heap.size w w'))
 case atStart => exact ⟨(([] : List Int)), (0), eq_, H', ⟨lr_ _⟩, ⟨nil_⟩, ⟨bel_⟩⟩
 clear H'
 try clear c2
 try clear p2
 obtain ⟨c, a, rfl, HA, E, HO_7, HB⟩ := hrel
 cases gk with
 | zero => exact absurd HA.out (by simp [jigsawref02_Small.l0])
 | succ k1 =>
  have H := HA.out
  clear HA
  simp only [jigsawref02_Small.l0] at H
  by_cases c4 : a < (d.length : Int)
  rotate_left
  ·
   rw [ig_ c4] at H
   have c4b0 : decide (a < (d.length : Int)) = false := df_ c4
   clear c4
   replace H := bs_.mp H
   obtain ⟨⟨N, O⟩, t, H⟩ := H
   try dsimp only at H
   have Y := a_ t
   clear t
   obtain rfl := si_ H
   obtain ⟨P, Q, U⟩ := Kd.R_slice HO_7.out
   subst U
   go_wp2_with (first | ((with_reducible refine gate_callee (f := 52) rfl ?_); refine goesL_ (some 35) rfl rfl Tryz.func52 kr_ rfl #[.slice P c.length Q] rfl ar_ ?_; (with_reducible refine (jigsawref02_Of.calls k1 _ _ c N O _ ?_ ?_ Y.out).mono ?_); exact ca_ ((rr_ HO_7.out).2.2); exact (rr_ HO_7.out).2.1; rintro e w15 ⟨ae, rfl, n, hb⟩; refine ⟨_, rfl, ?_⟩; have y := a_ (Kd.R_lower (Kd.R_new' n (rl_ (vR_ HO_7.out))) (bz_ bel_)); replace HB := hq_ hb; clear hb n))
   go_ret
   exact ⟨_, er_, by refine vR_ ?_; exact rm_ y.out (fun _ hk => trivial), bel_⟩
  rw [ip_ c4] at H
  have c4b0 : decide (a < (d.length : Int)) = true := dt_ c4
  clear c4
  by_cases c5 : a < o
  rotate_left
  ·
   rw [ig_ c5] at H
   have c5b0 : decide (a < o) = false := df_ c5
   clear c5
   replace H := bs_.mp H
   obtain ⟨⟨G, I⟩, s, H⟩ := H
   try dsimp only at H
   have X := a_ s
   clear s
   obtain rfl := si_ H
   obtain ⟨J, K, M⟩ := Kd.R_slice HO_7.out
   subst M
   go_wp2_with (first | ((with_reducible refine gate_callee (f := 52) rfl ?_); refine goesL_ (some 35) rfl rfl Tryz.func52 kr_ rfl #[.slice J c.length K] rfl ar_ ?_; (with_reducible refine (jigsawref02_Of.calls k1 _ _ c G I _ ?_ ?_ X.out).mono ?_); exact ca_ ((rr_ HO_7.out).2.2); exact (rr_ HO_7.out).2.1; rintro e w12 ⟨ad, rfl, n, hb⟩; refine ⟨_, rfl, ?_⟩; have x := a_ (Kd.R_lower (Kd.R_new' n (rl_ (vR_ HO_7.out))) (bz_ bel_)); replace HB := hq_ hb; clear hb n))
   go_ret
   exact ⟨_, er_, by refine vR_ ?_; exact rm_ x.out (fun _ hk => trivial), bel_⟩
  rw [ip_ c5] at H
  have c5b0 : decide (a < o) = true := dt_ c5
  clear c5
  by_cases c6 : 0 ≤ a
  rotate_left
  ·
   rw [ig_ c6] at H
   exact ab_ H
  rw [ip_ c6] at H
  have c6b0 : decide (0 ≤ a) = true := dt_ c6
  clear c6
  by_cases c7 : m = 0
  ·
   rw [ip_ c7] at H
   exact ab_ H
  rw [ig_ c7] at H
  have c7b0 : (m == 0) = false := be_.mpr c7
  have c7b1 : (m != 0) = true := ni_.mpr c7
  by_cases c8 : c.length < 17592186044416
  rotate_left
  ·
   rw [ig_ c8] at H
   exact ab_ H
  rw [ip_ c8] at H
  have LMc8 := a_ c8
  clear c8
  obtain ⟨q, g⟩ : ∃ y_ : List Int, y_ = (c ++ [Int.tmod (rd d a) m]) := ⟨_, rfl⟩
  replace H : (jigsawref02_Small.l0 k1 d o m q (wrap64 (a + 1))) = some r := h2_ H g
  have u := a_ g
  clear g
  have H' := a_ H
  clear H
  have p161 : 0 ≤ (a : Int) := dq_
  have p : a < (d.length : Int) := dq_
  obtain ⟨Z, F, l⟩ := ai_ W.out a p161 p
  cases F
  replace l := hx_ HB l
  replace p161 := et_ p161
  replace p := et_ p
  go_wp2_with (first | ((with_reducible refine gate_builtin (b := .append) (xs := #[.tmp 29, .tmp 31]) rfl ?_); at_builtin; refine Kd.R_append (Kd.int .i64) (w0 := w) w.heap.size rfl (.tmp 29) (.tmp 31) 30 3 (.int .i64 0) 8 rfl Tryz.underlying30 info3 rfl (by decide) (by omega) u7 c (Int.tmod (rd d a) m) [.int .i64 (Int.tmod (rd d a) m)] (fun _ => True) (fun _ => False) rfl rfl ?aP (fun _ hk => hk.elim) ?aF ?aO ?aB ?aS ?aL ?_; (case aP => exact rfl); (case aB => exact bel_); (case aF => exact (fun _ _ => trivial)); (case aO => exact (vR_ HO_7.out)); (case aS => exact (bz_ bel_)); (case aL => have := LMc8.out; omega); intro ac w9 ho hb hg hat; rw [← u.out] at ho; replace HB := a_ (hb); have v := a_ (ho); clear HO_7; clear ho hb hg hat))
  go_roundg k1
  case measure => have := E.out; omega
  exact ⟨(q), (wrap64 (a + 1)), eq_, H', ⟨by have := E.out; omega⟩, ⟨vR_ v.out⟩, ⟨bel_⟩⟩

end Go.Proofs.YtckfbfdnlpnllaaGreatDoor.XAllDiffFilters
