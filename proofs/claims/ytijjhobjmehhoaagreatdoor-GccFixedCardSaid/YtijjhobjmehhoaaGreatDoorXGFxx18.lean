-- by xprint.py, a program of this session, over the kit's print
import Derived.Test.YtijjhobjmehhoaaGreatDoorXGFxx0
import Derived.Test.YtijjhobjmehhoaaGreatDoorSq
namespace Go.Proofs.YtijjhobjmehhoaaGreatDoor.XGccFixed
open Go.RowKit Go.Proofs.YtijjhobjmehhoaaGreatDoor.Sq Go.Proofs.YtijjhobjmehhoaaGreatDoorW.PrintWords Go.Proofs.YtijjhobjmehhoaaGreatDoorW.PrintLast Go.Proofs.YtijjhobjmehhoaaGreatDoorW.PrintMore
attribute [local go_sem] max2_int min2_int max_two min_two max_three min_three max_four min_four   -- for this text's walks alone
set_option linter.unusedVariables false
set_option linter.unusedSimpArgs false

/-! ### jigsawref06_numbers: function 39 -/
def jigsawref06_numbers.l0 : Nat → List Int → Int → Int → Int → Int → List Int → Int → Option (List Int)
 | 0, _, _, _, _, _, _, _ => none
 | k + 1, e, d, g, f, c, a, b => if b < g then (if (wrap64 (d + b)) < (e.length : Int) then (if 0 ≤ (wrap64 (d + b)) then (if c = 0 then (none) else (if (Int.tmod (wrap64 (rd e (wrap64 (d + b)))) c) < 0 then (if f ≥ 0 then (if a.length < 17592186044416 then (jigsawref06_numbers.l0 k e d g f c (a ++ [wrap64 (-(Int.tmod (wrap64 (rd e (wrap64 (d + b)))) c))]) (wrap64 (b + 1))) else (none)) else (if a.length < 17592186044416 then (jigsawref06_numbers.l0 k e d g f c (a ++ [Int.tmod (wrap64 (rd e (wrap64 (d + b)))) c]) (wrap64 (b + 1))) else (none))) else (if a.length < 17592186044416 then (jigsawref06_numbers.l0 k e d g f c (a ++ [Int.tmod (wrap64 (rd e (wrap64 (d + b)))) c]) (wrap64 (b + 1))) else (none)))) else (none)) else (if c = 0 then (none) else (if ((1 : Int) % c) < 0 then (if f ≥ 0 then (if a.length < 17592186044416 then (jigsawref06_numbers.l0 k e d g f c (a ++ [wrap64 (-((1 : Int) % c))]) (wrap64 (b + 1))) else (none)) else (if a.length < 17592186044416 then (jigsawref06_numbers.l0 k e d g f c (a ++ [(1 : Int) % c]) (wrap64 (b + 1))) else (none))) else (if a.length < 17592186044416 then (jigsawref06_numbers.l0 k e d g f c (a ++ [(1 : Int) % c]) (wrap64 (b + 1))) else (none))))) else (some a)
def jigsawref06_numbers.f (k : Nat) (a : List Int) (b : Int) (c : Int) (d : Int) (e : Int) : Option (List Int) := jigsawref06_numbers.l0 k a b c d e ([] : List Int) 0
theorem jigsawref06_numbers.mono_l : ∀ k, (∀ a b c d e f g, LeO (jigsawref06_numbers.l0 k a b c d e f g) (jigsawref06_numbers.l0 (k + 1) a b c d e f g))
 | 0 => by intros; exact LeO.none _
 | k + 1 => by
  have ih0 := jigsawref06_numbers.mono_l k
  intro a b c d e f g
  unfold jigsawref06_numbers.l0
  exact leo_
theorem jigsawref06_numbers.mono : ∀ a b c d e k, LeO (jigsawref06_numbers.f k a b c d e) (jigsawref06_numbers.f (k + 1) a b c d e) := by
 intro a b c d e k
 have ih0 := jigsawref06_numbers.mono_l k
 unfold jigsawref06_numbers.f
 exact leo_
set_option maxHeartbeats 8000000 in
set_option maxRecDepth 100000 in
theorem jigsawref06_numbers.calls (k : Nat) (A0 : Option Addr) (c0 : Nat) (m : List Int) (q : Int) (s : Int) (o : Int) (d : Int) (r : List Int) (w : World) (ad : Kd.C (Kd.int .i8) w A0 m.length m) (ae : m.length ≤ c0) (h : jigsawref06_numbers.f k m q s o d = some r) :
  Calls Tryz.prog 39 #[.slice A0 m.length c0, .int .i64 q, .int .i64 s, .int .i64 o, .int .i64 d] w fun e w' => ∃ af : Value, e = .returned (af) ∧ Kd.R (Kd.int .i64) 3 w' w.heap.size (fun _ => True) af r ∧ Below w.heap.size w w' := by
 have F := a_ ad
 have ap := a_ ae
 clear ad ae
 have HB := a_ (Below.refl w.heap.size w)
 unfold jigsawref06_numbers.f at h
 have H := h
 clear h
 have H' := a_ H
 clear H
 go_enter Tryz.func39, Tryz.ntmps39
 go_wp2
 go_loopg [11, 12] k (fun kq ah ai w' => ∃ (a : List Int) (c : Int), ai = .int .i64 c ∧ Aside0 (jigsawref06_numbers.l0 kq m q s o d a c = some r) ∧ Aside0 (kq ≤ k) ∧ Aside0 (Kd.R (Kd.int .i64) 3 w' w.heap.size (fun _ => True) ah a) ∧ Aside0 (Below w.heap.size w w'))
 case atStart => exact ⟨(([] : List Int)), (0), eq_, H', ⟨lr_ _⟩, ⟨nil_⟩, ⟨bel_⟩⟩
 clear H'
 try clear p2
 try clear c3
 obtain ⟨a, c, rfl, HA, p, HO_11, HB⟩ := hrel
 cases gk with
 | zero => exact absurd HA.out (by simp [jigsawref06_numbers.l0])
 | succ k1 =>
  have H := HA.out
  clear HA
  simp only [jigsawref06_numbers.l0] at H
  by_cases c6 : c < s
  rotate_left
  ·
   rw [ig_ c6] at H
   have c6b0 : decide (c < s) = false := df_ c6
   clear c6
   obtain rfl := si_ H
   go_wp2
   go_ret
   exact ⟨_, er_, vR_ HO_11.out, bel_⟩
  rw [ip_ c6] at H
  have c6b0 : decide (c < s) = true := dt_ c6
  clear c6
  by_cases c7 : (wrap64 (q + c)) < (m.length : Int)
  rotate_left
  ·
   rw [ig_ c7] at H
   have c7b0 : decide ((wrap64 (q + c)) < (m.length : Int)) = false := df_ c7
   clear c7
   by_cases c19 : d = 0
   ·
    rw [ip_ c19] at H
    exact ab_ H
   rw [ig_ c19] at H
   have c19b0 : (d == 0) = false := be_.mpr c19
   have c19b1 : (d != 0) = true := ni_.mpr c19
   by_cases c20 : ((1 : Int) % d) < 0
   rotate_left
   ·
    rw [ig_ c20] at H
    have c20b0 : decide (((1 : Int) % d) < 0) = false := df_ c20
    clear c20
    by_cases c26 : a.length < 17592186044416
    rotate_left
    ·
     rw [ig_ c26] at H
     exact ab_ H
    rw [ip_ c26] at H
    have LMc26 := a_ c26
    clear c26
    obtain ⟨N, z⟩ : ∃ y_ : List Int, y_ = (a ++ [(1 : Int) % d]) := ⟨_, rfl⟩
    replace H : (jigsawref06_numbers.l0 k1 m q s o d N (wrap64 (c + 1))) = some r := h2_ H z
    have ab := a_ z
    clear z
    have H' := a_ H
    clear H
    go_wp2_with (first | ((with_reducible refine gate_builtin (b := .append) (xs := #[.tmp 43, .tmp 45]) rfl ?_); at_builtin; refine Kd.R_append (Kd.int .i64) (w0 := w) w.heap.size rfl (.tmp 43) (.tmp 45) 30 3 (.int .i64 0) 8 rfl Tryz.underlying30 info3 rfl (by decide) (by omega) u11 a ((1 : Int) % d) [.int .i64 ((1 : Int) % d)] (fun _ => True) (fun _ => False) rfl rfl ?aP (fun _ hk => hk.elim) ?aF ?aO ?aB ?aS ?aL ?_; (case aP => exact rfl); (case aB => exact bel_); (case aF => exact (fun _ _ => trivial)); (case aO => exact (vR_ HO_11.out)); (case aS => exact (bz_ bel_)); (case aL => have := LMc26.out; omega); intro ao w27 ho hb hg hat; rw [← ab.out] at ho; replace HB := a_ (hb); have ac := a_ (ho); clear HO_11; clear ho hb hg hat))
    go_roundg k1
    case measure => have := p.out; omega
    exact ⟨(N), (wrap64 (c + 1)), eq_, H', ⟨by have := p.out; omega⟩, ⟨vR_ ac.out⟩, ⟨bel_⟩⟩
   rw [ip_ c20] at H
   have c20b0 : decide (((1 : Int) % d) < 0) = true := dt_ c20
   clear c20
   by_cases c21 : o ≥ 0
   rotate_left
   ·
    rw [ig_ c21] at H
    have c21b0 : decide (0 ≤ o) = false := df_ c21
    clear c21
    by_cases c24 : a.length < 17592186044416
    rotate_left
    ·
     rw [ig_ c24] at H
     exact ab_ H
    rw [ip_ c24] at H
    have LMc24 := a_ c24
    clear c24
    obtain ⟨M, y⟩ : ∃ y_ : List Int, y_ = (a ++ [(1 : Int) % d]) := ⟨_, rfl⟩
    replace H : (jigsawref06_numbers.l0 k1 m q s o d M (wrap64 (c + 1))) = some r := h2_ H y
    have Z := a_ y
    clear y
    have H' := a_ H
    clear H
    go_wp2_with (first | ((with_reducible refine gate_builtin (b := .append) (xs := #[.tmp 43, .tmp 45]) rfl ?_); at_builtin; refine Kd.R_append (Kd.int .i64) (w0 := w) w.heap.size rfl (.tmp 43) (.tmp 45) 30 3 (.int .i64 0) 8 rfl Tryz.underlying30 info3 rfl (by decide) (by omega) u11 a ((1 : Int) % d) [.int .i64 ((1 : Int) % d)] (fun _ => True) (fun _ => False) rfl rfl ?aP (fun _ hk => hk.elim) ?aF ?aO ?aB ?aS ?aL ?_; (case aP => exact rfl); (case aB => exact bel_); (case aF => exact (fun _ _ => trivial)); (case aO => exact (vR_ HO_11.out)); (case aS => exact (bz_ bel_)); (case aL => have := LMc24.out; omega); intro an w25 ho hb hg hat; rw [← Z.out] at ho; replace HB := a_ (hb); have aa := a_ (ho); clear HO_11; clear ho hb hg hat))
    go_roundg k1
    case measure => have := p.out; omega
    exact ⟨(M), (wrap64 (c + 1)), eq_, H', ⟨by have := p.out; omega⟩, ⟨vR_ aa.out⟩, ⟨bel_⟩⟩
   rw [ip_ c21] at H
   have c21b0 : decide (0 ≤ o) = true := dt_ c21
   clear c21
   by_cases c22 : a.length < 17592186044416
   rotate_left
   ·
    rw [ig_ c22] at H
    exact ab_ H
   rw [ip_ c22] at H
   have LMc22 := a_ c22
   clear c22
   obtain ⟨K, x⟩ : ∃ y_ : List Int, y_ = (a ++ [wrap64 (-((1 : Int) % d))]) := ⟨_, rfl⟩
   replace H : (jigsawref06_numbers.l0 k1 m q s o d K (wrap64 (c + 1))) = some r := h2_ H x
   have X := a_ x
   clear x
   have H' := a_ H
   clear H
   go_wp2_with (first | ((with_reducible refine gate_builtin (b := .append) (xs := #[.tmp 43, .tmp 45]) rfl ?_); at_builtin; refine Kd.R_append (Kd.int .i64) (w0 := w) w.heap.size rfl (.tmp 43) (.tmp 45) 30 3 (.int .i64 0) 8 rfl Tryz.underlying30 info3 rfl (by decide) (by omega) u11 a (wrap64 (-((1 : Int) % d))) [.int .i64 (wrap64 (-((1 : Int) % d)))] (fun _ => True) (fun _ => False) rfl rfl ?aP (fun _ hk => hk.elim) ?aF ?aO ?aB ?aS ?aL ?_; (case aP => exact rfl); (case aB => exact bel_); (case aF => exact (fun _ _ => trivial)); (case aO => exact (vR_ HO_11.out)); (case aS => exact (bz_ bel_)); (case aL => have := LMc22.out; omega); intro am w23 ho hb hg hat; rw [← X.out] at ho; replace HB := a_ (hb); have Y := a_ (ho); clear HO_11; clear ho hb hg hat))
   go_roundg k1
   case measure => have := p.out; omega
   exact ⟨(K), (wrap64 (c + 1)), eq_, H', ⟨by have := p.out; omega⟩, ⟨vR_ Y.out⟩, ⟨bel_⟩⟩
  rw [ip_ c7] at H
  have c7b0 : decide ((wrap64 (q + c)) < (m.length : Int)) = true := dt_ c7
  clear c7
  obtain ⟨g, B⟩ : ∃ j_ : Int, (wrap64 (q + c)) = j_ := ⟨_, rfl⟩
  replace H : (if 0 ≤ (g) then (if d = 0 then (none) else (if (Int.tmod (wrap64 (rd m (g))) d) < 0 then (if o ≥ 0 then (if a.length < 17592186044416 then (jigsawref06_numbers.l0 k1 m q s o d (a ++ [wrap64 (-(Int.tmod (wrap64 (rd m (g))) d))]) (wrap64 (c + 1))) else (none)) else (if a.length < 17592186044416 then (jigsawref06_numbers.l0 k1 m q s o d (a ++ [Int.tmod (wrap64 (rd m (g))) d]) (wrap64 (c + 1))) else (none))) else (if a.length < 17592186044416 then (jigsawref06_numbers.l0 k1 m q s o d (a ++ [Int.tmod (wrap64 (rd m (g))) d]) (wrap64 (c + 1))) else (none)))) else (none)) = some r := by first | (rw [B] at H; exact H) | (simp only [B] at H ⊢; exact H)
  (try rw [B] at c7b0)
  have hji8w : (IntKind.i64.wrap (q + c)) = g := (i64_w _).trans B
  by_cases c9 : 0 ≤ (g)
  rotate_left
  ·
   rw [ig_ c9] at H
   exact ab_ H
  rw [ip_ c9] at H
  have c9b0 : decide (0 ≤ (g)) = true := dt_ c9
  clear c9
  by_cases c10 : d = 0
  ·
   rw [ip_ c10] at H
   exact ab_ H
  rw [ig_ c10] at H
  have c10b0 : (d == 0) = false := be_.mpr c10
  have c10b1 : (d != 0) = true := ni_.mpr c10
  by_cases c11 : (Int.tmod (wrap64 (rd m (g))) d) < 0
  rotate_left
  ·
   rw [ig_ c11] at H
   have c11b0 : decide ((Int.tmod (wrap64 (rd m (g))) d) < 0) = false := df_ c11
   clear c11
   by_cases c17 : a.length < 17592186044416
   rotate_left
   ·
    rw [ig_ c17] at H
    exact ab_ H
   rw [ip_ c17] at H
   have LMc17 := a_ c17
   clear c17
   obtain ⟨J, v⟩ : ∃ y_ : List Int, y_ = (a ++ [Int.tmod (wrap64 (rd m (g))) d]) := ⟨_, rfl⟩
   replace H : (jigsawref06_numbers.l0 k1 m q s o d J (wrap64 (c + 1))) = some r := h2_ H v
   have V := a_ v
   clear v
   have H' := a_ H
   clear H
   have p489 : 0 ≤ ((g) : Int) := dq_
   have n : (g) < (m.length : Int) := dq_
   obtain ⟨E, A, l⟩ := ai_ F.out (g) p489 n
   cases A
   replace l := hx_ HB l
   replace p489 := et_ p489
   replace n := et_ n
   go_wp2_with (first | ((with_reducible refine gate_builtin (b := .append) (xs := #[.tmp 43, .tmp 45]) rfl ?_); at_builtin; refine Kd.R_append (Kd.int .i64) (w0 := w) w.heap.size rfl (.tmp 43) (.tmp 45) 30 3 (.int .i64 0) 8 rfl Tryz.underlying30 info3 rfl (by decide) (by omega) u11 a (Int.tmod (wrap64 (rd m (g))) d) [.int .i64 (Int.tmod (wrap64 (rd m (g))) d)] (fun _ => True) (fun _ => False) rfl rfl ?aP (fun _ hk => hk.elim) ?aF ?aO ?aB ?aS ?aL ?_; (case aP => exact rfl); (case aB => exact bel_); (case aF => exact (fun _ _ => trivial)); (case aO => exact (vR_ HO_11.out)); (case aS => exact (bz_ bel_)); (case aL => have := LMc17.out; omega); intro al w18 ho hb hg hat; rw [← V.out] at ho; replace HB := a_ (hb); have W := a_ (ho); clear HO_11; clear ho hb hg hat))
   go_roundg k1
   case measure => have := p.out; omega
   exact ⟨(J), (wrap64 (c + 1)), eq_, H', ⟨by have := p.out; omega⟩, ⟨vR_ W.out⟩, ⟨bel_⟩⟩
  rw [ip_ c11] at H
  have c11b0 : decide ((Int.tmod (wrap64 (rd m (g))) d) < 0) = true := dt_ c11
  clear c11
  by_cases c12 : o ≥ 0
  rotate_left
  ·
   rw [ig_ c12] at H
   have c12b0 : decide (0 ≤ o) = false := df_ c12
   clear c12
   by_cases c15 : a.length < 17592186044416
   rotate_left
   ·
    rw [ig_ c15] at H
    exact ab_ H
   rw [ip_ c15] at H
   have LMc15 := a_ c15
   clear c15
   obtain ⟨I, u⟩ : ∃ y_ : List Int, y_ = (a ++ [Int.tmod (wrap64 (rd m (g))) d]) := ⟨_, rfl⟩
   replace H : (jigsawref06_numbers.l0 k1 m q s o d I (wrap64 (c + 1))) = some r := h2_ H u
   have Q := a_ u
   clear u
   have H' := a_ H
   clear H
   have p489 : 0 ≤ ((g) : Int) := dq_
   have n : (g) < (m.length : Int) := dq_
   obtain ⟨E, A, l⟩ := ai_ F.out (g) p489 n
   cases A
   replace l := hx_ HB l
   replace p489 := et_ p489
   replace n := et_ n
   go_wp2_with (first | ((with_reducible refine gate_builtin (b := .append) (xs := #[.tmp 43, .tmp 45]) rfl ?_); at_builtin; refine Kd.R_append (Kd.int .i64) (w0 := w) w.heap.size rfl (.tmp 43) (.tmp 45) 30 3 (.int .i64 0) 8 rfl Tryz.underlying30 info3 rfl (by decide) (by omega) u11 a (Int.tmod (wrap64 (rd m (g))) d) [.int .i64 (Int.tmod (wrap64 (rd m (g))) d)] (fun _ => True) (fun _ => False) rfl rfl ?aP (fun _ hk => hk.elim) ?aF ?aO ?aB ?aS ?aL ?_; (case aP => exact rfl); (case aB => exact bel_); (case aF => exact (fun _ _ => trivial)); (case aO => exact (vR_ HO_11.out)); (case aS => exact (bz_ bel_)); (case aL => have := LMc15.out; omega); intro ak w16 ho hb hg hat; rw [← Q.out] at ho; replace HB := a_ (hb); have U := a_ (ho); clear HO_11; clear ho hb hg hat))
   go_roundg k1
   case measure => have := p.out; omega
   exact ⟨(I), (wrap64 (c + 1)), eq_, H', ⟨by have := p.out; omega⟩, ⟨vR_ U.out⟩, ⟨bel_⟩⟩
  rw [ip_ c12] at H
  have c12b0 : decide (0 ≤ o) = true := dt_ c12
  clear c12
  by_cases c13 : a.length < 17592186044416
  rotate_left
  ·
   rw [ig_ c13] at H
   exact ab_ H
  rw [ip_ c13] at H
  have LMc13 := a_ c13
  clear c13
  obtain ⟨G, t⟩ : ∃ y_ : List Int, y_ = (a ++ [wrap64 (-(Int.tmod (wrap64 (rd m (g))) d))]) := ⟨_, rfl⟩
  replace H : (jigsawref06_numbers.l0 k1 m q s o d G (wrap64 (c + 1))) = some r := h2_ H t
  have O := a_ t
  clear t
  have H' := a_ H
  clear H
  have p489 : 0 ≤ ((g) : Int) := dq_
  have n : (g) < (m.length : Int) := dq_
  obtain ⟨E, A, l⟩ := ai_ F.out (g) p489 n
  cases A
  replace l := hx_ HB l
  replace p489 := et_ p489
  replace n := et_ n
  go_wp2_with (first | ((with_reducible refine gate_builtin (b := .append) (xs := #[.tmp 43, .tmp 45]) rfl ?_); at_builtin; refine Kd.R_append (Kd.int .i64) (w0 := w) w.heap.size rfl (.tmp 43) (.tmp 45) 30 3 (.int .i64 0) 8 rfl Tryz.underlying30 info3 rfl (by decide) (by omega) u11 a (wrap64 (-(Int.tmod (wrap64 (rd m (g))) d))) [.int .i64 (wrap64 (-(Int.tmod (wrap64 (rd m (g))) d)))] (fun _ => True) (fun _ => False) rfl rfl ?aP (fun _ hk => hk.elim) ?aF ?aO ?aB ?aS ?aL ?_; (case aP => exact rfl); (case aB => exact bel_); (case aF => exact (fun _ _ => trivial)); (case aO => exact (vR_ HO_11.out)); (case aS => exact (bz_ bel_)); (case aL => have := LMc13.out; omega); intro aj w14 ho hb hg hat; rw [← O.out] at ho; replace HB := a_ (hb); have P := a_ (ho); clear HO_11; clear ho hb hg hat))
  go_roundg k1
  case measure => have := p.out; omega
  exact ⟨(G), (wrap64 (c + 1)), eq_, H', ⟨by have := p.out; omega⟩, ⟨vR_ P.out⟩, ⟨bel_⟩⟩

end Go.Proofs.YtijjhobjmehhoaaGreatDoor.XGccFixed
