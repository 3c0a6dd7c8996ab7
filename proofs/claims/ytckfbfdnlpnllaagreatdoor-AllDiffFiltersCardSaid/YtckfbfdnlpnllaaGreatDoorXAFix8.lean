-- by xprint.py, a program of this session, over the kit's print
import Derived.Test.YtckfbfdnlpnllaaGreatDoorXAFix0
import Derived.Test.YtckfbfdnlpnllaaGreatDoorSq
namespace Go.Proofs.YtckfbfdnlpnllaaGreatDoor.XAllDiffFilters
open Go.RowKit Go.Proofs.YtckfbfdnlpnllaaGreatDoor.Sq Go.Proofs.YtckfbfdnlpnllaaGreatDoorW.PrintWords Go.Proofs.YtckfbfdnlpnllaaGreatDoorW.PrintLast Go.Proofs.YtckfbfdnlpnllaaGreatDoorW.PrintMore
attribute [local go_sem] max2_int min2_int max_two min_two max_three min_three max_four min_four   -- for this text's walks alone
set_option linter.unusedVariables false
set_option linter.unusedSimpArgs false

/-! ### jigsawref09_Product: function 25 -/
mutual
def jigsawref09_Product.l0 : Nat → List (List Int) → Int → Int → Int → Option ((List (List Int)))
 | 0, _, _, _, _ => none
 | k + 1, a, d, c, b => if b < (a.length : Int) then (if 0 ≤ b then (if (wrap64 (c * ((rd_L3 a b).length : Int))) > d then (some ([] : List (List Int))) else (jigsawref09_Product.l0 k a d (wrap64 (c * ((rd_L3 a b).length : Int))) (wrap64 (b + 1)))) else (none)) else (jigsawref09_Product.l1 k a c ([] : List (List Int)) 0)
def jigsawref09_Product.l1 : Nat → List (List Int) → Int → List (List Int) → Int → Option ((List (List Int)))
 | 0, _, _, _, _ => none
 | k + 1, a, c, d, b => if b < c then (if 0 ≤ (a.length : Int) then (if ((a.length : Int) : Int).toNat ≤ 35184372088832 then (jigsawref09_Product.l2 k a c d b (List.replicate ((a.length : Int) : Int).toNat 0) b (wrap64 ((a.length : Int) - 1))) else (none)) else (none)) else (some d)
def jigsawref09_Product.l2 : Nat → List (List Int) → Int → List (List Int) → Int → List Int → Int → Int → Option ((List (List Int)))
 | 0, _, _, _, _, _, _, _ => none
 | k + 1, b, f, d, g, e, c, a => if a ≥ 0 then (if 0 ≤ a then (if a < (b.length : Int) then (if ((rd_L3 b a).length : Int) = 0 then (none) else (if 0 ≤ (Int.tmod c ((rd_L3 b a).length : Int)) then (if (Int.tmod c ((rd_L3 b a).length : Int)) < ((rd_L3 b a).length : Int) then (if a < (e.length : Int) then (jigsawref09_Product.l2 k b f d g (e.set (a : Int).toNat (rd (rd_L3 b a) (Int.tmod c ((rd_L3 b a).length : Int)))) (wrap64 (Int.tdiv c ((rd_L3 b a).length : Int))) (wrap64 (a - 1))) else (none)) else (none)) else (none))) else (none)) else (none)) else (if d.length < 5864062014805 then (jigsawref09_Product.l1 k b f (d ++ [e]) (wrap64 (g + 1))) else (none))
end
def jigsawref09_Product.f (k : Nat) (a : List (List Int)) (b : Int) : Option ((List (List Int))) := jigsawref09_Product.l0 k a b 1 0
theorem jigsawref09_Product.mono_l : ∀ k, (∀ a b c d, LeO (jigsawref09_Product.l0 k a b c d) (jigsawref09_Product.l0 (k + 1) a b c d)) ∧ (∀ a b c d, LeO (jigsawref09_Product.l1 k a b c d) (jigsawref09_Product.l1 (k + 1) a b c d)) ∧ (∀ a b c d e f g, LeO (jigsawref09_Product.l2 k a b c d e f g) (jigsawref09_Product.l2 (k + 1) a b c d e f g))
 | 0 => by refine ⟨?_, ?_, ?_⟩ <;> (intros; exact LeO.none _)
 | k + 1 => by
  obtain ⟨ih0, ih1, ih2⟩ := jigsawref09_Product.mono_l k
  refine ⟨?_, ?_, ?_⟩ <;> intros
  all_goals first | unfold jigsawref09_Product.l0 | unfold jigsawref09_Product.l1 | unfold jigsawref09_Product.l2
  all_goals exact leo_
theorem jigsawref09_Product.mono : ∀ a b k, LeO (jigsawref09_Product.f k a b) (jigsawref09_Product.f (k + 1) a b) := by
 intro a b k
 obtain ⟨ih0, ih1, ih2⟩ := jigsawref09_Product.mono_l k
 unfold jigsawref09_Product.f
 exact leo_
def jigsawref09_Product.T17 : Bool × List (List Nat × List Nat) := (true, [([], []), ([], []), ([], []), ([], []), ([2, 3], [2, 3]), ([4], [4]), ([], []), ([], []), ([], []), ([7, 8], [7, 8]), ([9], [9]), ([10], [10]), ([6, 11], [6, 11]), ([5, 12], [5, 12]), ([13], [13]), ([0, 1, 0, 1, 2, 3, 4, 5, 6, 7, 8, 9, 10, 11, 12, 13, 14], [0, 1]), ([15, 14, 0, 1, 2, 3, 4, 5, 6, 7, 8, 9, 10, 11, 12, 13, 14], [14, 15])])
def jigsawref09_Product.B17 : List Nat := [0, 0, 0, 0, 12, 28, 0, 0, 0, 384, 896, 1920, 4032, 8188, 16380, 32767, 65535]
theorem jigsawref09_Product.tab17 : rtab .any (opsOf Tryz.f25 17) = jigsawref09_Product.T17 := by kernel_rfl
theorem jigsawref09_Product.bits17 : waitsOk jigsawref09_Product.T17.2 jigsawref09_Product.B17 = true := by kernel_rfl
set_option maxHeartbeats 8000000 in
set_option maxRecDepth 100000 in
theorem jigsawref09_Product.calls (k : Nat) (A0 : Option Addr) (c0 : Nat) (c : List (List Int)) (a1 : Int) (r : List (List Int)) (w : World) (aM : Kd.C (Kd.slice 3 (Kd.int .i64)) w A0 c.length c) (aN : c.length ≤ c0) (h : jigsawref09_Product.f k c a1 = some r) :
  Calls Tryz.prog 25 #[.slice A0 c.length c0, .int .i64 a1] w fun e w' => ∃ aQ : Value, e = .returned (aQ) ∧ Kd.S (Kd.slice 3 (Kd.int .i64)) 30 w' w.heap.size (fun _ => True) aQ r ∧ Below w.heap.size w w' := by
 have ab := a_ aM
 have bf := a_ aN
 clear aM aN
 have HB := a_ (Below.refl w.heap.size w)
 unfold jigsawref09_Product.f at h
 have H := h
 clear h
 have H' := a_ H
 clear H
 go_enter Tryz.func25, Tryz.ntmps25
 go_wp2
 go_loopg [5, 6] k (fun kq v5 v6 w' => ∃ (l : Int) (d : Int), v5 = .int .i64 l ∧ v6 = .int .i64 d ∧ Aside0 (jigsawref09_Product.l0 kq c a1 l d = some r) ∧ Aside0 (kq ≤ k) ∧ Aside0 (Below w.heap.size w w'))
 case atStart => exact ⟨(1), (0), eq_, eq_, H', ⟨lr_ _⟩, ⟨bel_⟩⟩
 clear H'
 try clear c2
 try clear p2
 obtain ⟨l, d, rfl, rfl, HA, O, HB⟩ := hrel
 cases gk with
 | zero => exact absurd HA.out (by simp [jigsawref09_Product.l0])
 | succ k1 =>
  have H := HA.out
  clear HA
  simp only [jigsawref09_Product.l0] at H
  by_cases c3 : d < (c.length : Int)
  ·
   rw [ip_ c3] at H
   have c3b0 : decide (d < (c.length : Int)) = true := dt_ c3
   clear c3
   by_cases c4 : 0 ≤ d
   rotate_left
   ·
    rw [ig_ c4] at H
    exact ab_ H
   rw [ip_ c4] at H
   have c4b0 : decide (0 ≤ d) = true := dt_ c4
   clear c4
   by_cases c5 : (wrap64 (l * ((rd_L3 c d).length : Int))) > a1
   ·
    rw [ip_ c5] at H
    have c5b0 : decide (a1 < (wrap64 (l * ((rd_L3 c d).length : Int)))) = true := dt_ c5
    clear c5
    obtain rfl := si_ H
    have p233 : 0 ≤ (d : Int) := dq_
    have z : d < (c.length : Int) := dq_
    obtain ⟨aD, ap, c233_0, ac, g, x, J⟩ := at_L3 ab.out d p233 z
    cases ac
    replace g := hx_ HB g
    have am := a_ x
    clear J x
    replace p233 := et_ p233
    replace z := et_ z
    go_wp2
    go_ret
    exact ⟨_, er_, by first | exact Kd.S_nil _ _ _ _ _ | exact Kd.N_nil _ _ _ _ _ | exact Kd.V_nil _ _ _ _ _ | exact Kd.Q_nil _ _ _ _ _ | exact Kd.R_nil _ _ _ _ _, bel_⟩
   rw [ig_ c5] at H
   have c5b0 : decide (a1 < (wrap64 (l * ((rd_L3 c d).length : Int)))) = false := df_ c5
   clear c5
   have H' := a_ H
   clear H
   have p233 : 0 ≤ (d : Int) := dq_
   have z : d < (c.length : Int) := dq_
   obtain ⟨aD, ap, c233_0, ac, g, x, J⟩ := at_L3 ab.out d p233 z
   cases ac
   replace g := hx_ HB g
   have am := a_ x
   clear J x
   replace p233 := et_ p233
   replace z := et_ z
   go_wp2
   go_roundg k1
   case measure => have := O.out; omega
   exact ⟨(wrap64 (l * ((rd_L3 c d).length : Int))), (wrap64 (d + 1)), eq_, eq_, H', ⟨by have := O.out; omega⟩, ⟨bel_⟩⟩
  rw [ig_ c3] at H
  have c3b0 : decide (d < (c.length : Int)) = false := df_ c3
  clear c3
  have H' := a_ H
  clear H
  go_wp2
  go_loopg [7, 8] k1 (fun kq v7 v8 w' => ∃ (v : List (List Int)) (o : Int), v8 = .int .i64 o ∧ Aside0 (jigsawref09_Product.l1 kq c l v o = some r) ∧ Aside0 (kq ≤ k1) ∧ Aside0 (Kd.S (Kd.slice 3 (Kd.int .i64)) 30 w' w.heap.size (fun _ => True) v7 v) ∧ Aside0 (Below w.heap.size w w'))
  case atStart => exact ⟨(([] : List (List Int))), (0), eq_, H', ⟨lr_ _⟩, ⟨nil_⟩, ⟨bel_⟩⟩
  clear H'
  try clear c2
  try clear p2
  try clear q2
  try clear a3
  try clear c3
  try clear c3b0
  try clear c4
  try clear c4b0
  try clear c5
  try clear c5b0
  try clear g
  try clear p2
  try clear p233
  try clear z
  obtain ⟨v, o, rfl, HA, ah, HO_7, HB⟩ := hrel
  cases gk with
  | zero => exact absurd HA.out (by simp [jigsawref09_Product.l1])
  | succ k2 =>
   have H := HA.out
   clear HA
   simp only [jigsawref09_Product.l1] at H
   by_cases c6 : o < l
   rotate_left
   ·
    rw [ig_ c6] at H
    have c6b0 : decide (o < l) = false := df_ c6
    clear c6
    obtain rfl := si_ H
    go_wp2
    go_ret
    exact ⟨_, er_, vS_ HO_7.out, bel_⟩
   rw [ip_ c6] at H
   have c6b0 : decide (o < l) = true := dt_ c6
   clear c6
   by_cases c7 : 0 ≤ (c.length : Int)
   rotate_left
   ·
    rw [ig_ c7] at H
    exact ab_ H
   rw [ip_ c7] at H
   have c7b0 := et_ c7
   have c7b1 : decide (0 ≤ (c.length : Int)) = true := dt_ c7
   clear c7
   by_cases c8 : ((c.length : Int) : Int).toNat ≤ 35184372088832
   rotate_left
   ·
    rw [ig_ c8] at H
    exact ab_ H
   rw [ip_ c8] at H
   have c8b0 := et_ c8
   have c8b1 : decide (((c.length : Int) : Int).toNat ≤ 35184372088832) = true := dt_ c8
   clear c8
   obtain ⟨aq, E⟩ : ∃ y_ : List Int, y_ = (List.replicate ((c.length : Int) : Int).toNat 0) := ⟨_, rfl⟩
   replace H : (jigsawref09_Product.l2 k2 c l v o aq o (wrap64 ((c.length : Int) - 1))) = some r := h2_ H E
   have ai := a_ E
   clear E
   have H' := a_ H
   clear H
   go_wp2_with (first | ((with_reducible refine gate_dst (N := 35) rfl ?_); refine Kd.R_make (Kd.int .i64) _ 3 rfl (N := 35) rfl 30 _ _ rfl (c.length : Int) rfl rfl Tryz.underlying30 (.int .i64 0) 8 info3 rfl (by decide) (by omega) 0 (ok := fun _ => True) (okp := fun _ => True) rfl (fun _ hk => hk) trivial (dq_) (Nat.le_trans (Nat.mul_le_mul_right _ (dq_ : (c.length : Int).toNat ≤ 35184372088832)) (by omega)) (Below.refl _ _) (lr_ _) ?_; intro ar w9 M hb hg_ hnew_; clear hg_ hnew_; (first | rw [← ai.out] at M | (simp only [Int.reduceToNat] at M; rw [← ai.out] at M)); replace HO_7 := a_ (Kd.S_elder' (vS_ HO_7.out) (rs_ M) hb); have aE := a_ (Kd.R_lower M (bz_ bel_)); replace HB := hq_ hb; clear hb M))
   go_loopg [10, 11] k2 (fun kq a4 a5 w' => ∃ (q : List Int) (A : Int) (a : Int), a4 = .int .i64 A ∧ a5 = .int .i64 a ∧ Aside0 (jigsawref09_Product.l2 kq c l v o q A a = some r) ∧ Aside0 (kq ≤ k2) ∧ Aside0 (Kd.S (Kd.slice 3 (Kd.int .i64)) 30 w' w.heap.size (fun B => some B ≠ ar.ownBlock) u7 v) ∧ Aside0 (Kd.R (Kd.int .i64) 3 w' w.heap.size (fun _ => True) ar q) ∧ Aside0 (Below w.heap.size w w'))
   case atStart => exact ⟨(aq), (o), (wrap64 ((c.length : Int) - 1)), eq_, eq_, H', ⟨lr_ _⟩, ⟨by refine vS_ ?_; exact Kd.S_mono HO_7.out (fun _ hk => hk.2)⟩, ⟨vR_ aE.out⟩, ⟨bel_⟩⟩
   clear H'
   try clear c2
   try clear p2
   try clear q2
   try clear a3
   try clear c3
   try clear c3b0
   try clear c4
   try clear c4b0
   try clear c5
   try clear c5b0
   try clear c6
   try clear c6b0
   try clear p6
   try clear c7
   try clear c7b0
   try clear c7b1
   try clear c8
   try clear c8b0
   try clear c8b1
   try clear g
   try clear p2
   try clear p233
   try clear q2
   try clear z
   obtain ⟨q, A, a, rfl, rfl, HA, aj, HO_7, HO_9, HB⟩ := hrel
   cases gk with
   | zero => exact absurd HA.out (by simp [jigsawref09_Product.l2])
   | succ k3 =>
    have H := HA.out
    clear HA
    simp only [jigsawref09_Product.l2] at H
    by_cases c11 : a ≥ 0
    rotate_left
    ·
     rw [ig_ c11] at H
     have c11b0 : decide (0 ≤ a) = false := df_ c11
     clear c11
     by_cases c22 : v.length < 5864062014805
     rotate_left
     ·
      rw [ig_ c22] at H
      exact ab_ H
     rw [ip_ c22] at H
     have LMc22 := a_ c22
     clear c22
     obtain ⟨az, I⟩ : ∃ y_ : List (List Int), y_ = (v ++ [q]) := ⟨_, rfl⟩
     replace H : (jigsawref09_Product.l1 k3 c l az (wrap64 (o + 1))) = some r := h2_ H I
     have aJ := a_ I
     clear I
     have H' := a_ H
     clear H
     obtain ⟨aA, aC, aW⟩ := Kd.R_slice HO_9.out
     subst aW
     go_wp2_with (first | ((with_reducible refine gate_builtin (b := .append) (xs := #[.tmp 67, .tmp 69]) rfl ?_); at_builtin; refine Kd.S_append (Kd.slice 3 (Kd.int .i64)) (w0 := w) w.heap.size rfl (.tmp 67) (.tmp 69) 27 30 (.slice none 0 0) 24 rfl Tryz.underlying27 info30 rfl (by decide) (by omega) u7 v q [.slice aA q.length aC] (fun _ => True) (fun B => some B = (.slice aA q.length aC : Value).ownBlock) rfl rfl ?aP (fun B hk_ => ((rm_ (ok' := fun B => ((fun _ => True)) B ∧ some B ≠ u7.ownBlock) (Kd.R_apart' (HO_9.out) (Kd.S_typed HO_7.out) (by decide)) (fun B hk => ⟨trivial, hk.2⟩))).1 B hk_.symm) ?aF ?aO ?aB ?aS ?aL ?_; (case aP => exact Kd.M_row (rm_ (Kd.R_tight rfl (rm_ (ok' := fun B => ((fun _ => True)) B ∧ some B ≠ u7.ownBlock) (Kd.R_apart' (HO_9.out) (Kd.S_typed HO_7.out) (by decide)) (fun B hk => ⟨trivial, hk.2⟩))) (fun _ h_ => h_))); (case aB => exact bel_); (case aF => exact (fun _ _ => trivial)); (case aO => exact (by refine vS_ ?_; exact Kd.S_mono HO_7.out (fun B hk => ⟨trivial, fun e_ => hk e_⟩))); (case aS => exact (bz_ bel_)); (case aL => have := LMc22.out; omega); intro be w23 ho hb hg hat; rw [← aJ.out] at ho; replace HB := a_ (hb); have aK := a_ (ho); clear HO_7 HO_9; clear ho hb hg hat))
     go_roundg k3
     case measure => have := O.out; have := ah.out; have := aj.out; omega
     exact ⟨(az), (wrap64 (o + 1)), eq_, H', ⟨by have := O.out; have := ah.out; have := aj.out; omega⟩, ⟨vS_ aK.out⟩, ⟨bel_⟩⟩
    rw [ip_ c11] at H
    have c11b0 : decide (0 ≤ a) = true := dt_ c11
    clear c11
    by_cases c12 : 0 ≤ a
    rotate_left
    ·
     rw [ig_ c12] at H
     exact ab_ H
    rw [ip_ c12] at H
    have c12b0 : decide (0 ≤ a) = true := dt_ c12
    clear c12
    by_cases c13 : a < (c.length : Int)
    rotate_left
    ·
     rw [ig_ c13] at H
     exact ab_ H
    rw [ip_ c13] at H
    have c13b0 : decide (a < (c.length : Int)) = true := dt_ c13
    clear c13
    by_cases c14 : ((rd_L3 c a).length : Int) = 0
    ·
     rw [ip_ c14] at H
     exact ab_ H
    rw [ig_ c14] at H
    have c14b0 : (((rd_L3 c a).length : Int) == 0) = false := be_.mpr c14
    have c14b1 : (((rd_L3 c a).length : Int) != 0) = true := ni_.mpr c14
    have c14b2 : ¬ ((rd_L3 c a) = []) := fun h_ => c14 (by rw [h_]; rfl)
    obtain ⟨m, ak⟩ : ∃ j_ : Int, (Int.tmod A ((rd_L3 c a).length : Int)) = j_ := ⟨_, rfl⟩
    replace H : (if 0 ≤ (m) then (if (m) < ((rd_L3 c a).length : Int) then (if a < (q.length : Int) then (jigsawref09_Product.l2 k3 c l v o (q.set (a : Int).toNat (rd (rd_L3 c a) (m))) (wrap64 (Int.tdiv A ((rd_L3 c a).length : Int))) (wrap64 (a - 1))) else (none)) else (none)) else (none)) = some r := by first | (rw [ak] at H; exact H) | (simp only [ak] at H ⊢; exact H)
    by_cases c16 : 0 ≤ (m)
    rotate_left
    ·
     rw [ig_ c16] at H
     exact ab_ H
    rw [ip_ c16] at H
    have c16b0 : decide (0 ≤ (m)) = true := dt_ c16
    clear c16
    by_cases c17 : (m) < ((rd_L3 c a).length : Int)
    rotate_left
    ·
     rw [ig_ c17] at H
     exact ab_ H
    rw [ip_ c17] at H
    have c17b0 : decide ((m) < ((rd_L3 c a).length : Int)) = true := dt_ c17
    clear c17
    by_cases c18 : a < (q.length : Int)
    rotate_left
    ·
     rw [ig_ c18] at H
     exact ab_ H
    rw [ip_ c18] at H
    have c18b0 : decide (a < (q.length : Int)) = true := dt_ c18
    clear c18
    obtain ⟨au, F⟩ : ∃ y_ : List Int, y_ = (q.set (a : Int).toNat (rd (rd_L3 c a) (m))) := ⟨_, rfl⟩
    replace H : (jigsawref09_Product.l2 k3 c l v o au (wrap64 (Int.tdiv A ((rd_L3 c a).length : Int))) (wrap64 (a - 1))) = some r := h2_ H F
    have aG := a_ F
    clear F
    have H' := a_ H
    clear H
    try go_wp2
    replace HO_7 := a_ (Kd.S_drew HO_7.out)
    replace HO_9 := a_ (Kd.R_drew HO_9.out)
    replace HB := a_ (below_drew1 HB.out)
    have p237 : 0 ≤ (a : Int) := dq_
    have ad : a < (c.length : Int) := dq_
    obtain ⟨G, a6, c237_0, aR, s, P, Q⟩ := at_L3 ab.out a p237 ad
    have U := s
    cases aR
    replace s := hx_ HB s
    have V := a_ Q
    have aX := a_ P
    clear Q P
    replace p237 := et_ p237
    replace ad := et_ ad
    have p238 : 0 ≤ (a : Int) := dq_
    have ae : a < (c.length : Int) := dq_
    obtain ⟨aH, a7, c238_0, aT, t, W, an⟩ := at_L3 ab.out a p238 ae
    have X := t
    obtain rfl : G = aH := (by injection aT)
    replace t := hx_ HB t
    have aY := a_ W
    clear an W
    replace p238 := et_ p238
    replace ae := et_ ae
    have ea_ := si_ (s.symm.trans t)
    injection ea_ with ea_ en_ ec_
    subst ea_
    subst ec_
    clear en_
    have p239 : 0 ≤ ((m) : Int) := dq_
    have af : (m) < ((rd_L3 c a).length : Int) := dq_
    obtain ⟨aa, aU, y⟩ := ai_ V.out (m) p239 af
    have Y := y
    cases aU
    replace y := hx_ HB y
    replace p239 := et_ p239
    replace af := et_ af
    have p19 : 0 ≤ (a : Int) := dq_
    have av : (a : Int) < ((q.length : Int) : Int) := dq_
    obtain ⟨go19, bd, aw, ax, gl19, cl19, HG19⟩ := Kd.R_form HO_9.out (by omega)
    (first | cases aw | (injection aw with ea_ en_ ec_; (first | subst ea_ | (injection ea_ with ea_; subst ea_)); subst ec_; clear en_))
    have GB19 := a_ ax
    have GG19 := a_ HG19
    clear ax gl19 HG19
    obtain ⟨ay, hf19_0⟩ := Kd.R_celln 0 HO_9.out (a : Int) p19 av
    replace p19 := et_ p19
    replace av := et_ av
    have HP21 := Kd.R_putn HO_9.out (a : Int) (rd (rd_L3 c a) (m))
    rw [← aG.out] at HP21
    have HQ21 := a_ HP21
    clear HP21
    refine start_ (n := 17) (S := fun w' => w'.cell? (G.add (a).toNat) = some (.slice (some aa) (rd_L3 c a).length c237_0) ∧ w'.cell? (G.add (a).toNat) = some (.slice (some aa) (rd_L3 c a).length c237_0) ∧ w'.cell? (aa.add ((m)).toNat) = some (.int .i64 (rd (rd_L3 c a) (m)))) (ds := [16]) #[false, false, false, false, false, false, false, false, false, false, false, false, false, false, false, false, false] kr_ rfl rfl ⟨(hx_ HB U), (hx_ HB X), (hx_ HB Y)⟩ (fun hHeld => ?_); refine with_tabW jigsawref09_Product.tab17 jigsawref09_Product.bits17 (fun HT_ HW_ => ?_)
    generalize wr.drew = w20 at HO_7 HO_9 HB GG19 HQ21 V hf19_0 ay s t y hHeld ⊢
    refine pn_ 0 44 ao_ ?_
    refine pn_ 1 45 ao_ ?_
    refine pn_ 2 46 ao_ ?_
    refine pn_ 3 47 ao_ ?_
    refine pn_ 4 48 ao_ ?_
    refine pn_ 6 50 ao_ ?_
    refine pn_ 7 51 ao_ ?_
    refine pn_ 8 52 ao_ ?_
    refine pn_ 9 53 ao_ ?_
    refine tn_ 5 49 tw_ hHeld ?_
    refine tn_ 10 54 tw_ hHeld ?_
    refine pn_ 11 55 ao_ ?_
    refine pn_ 12 56 ao_ ?_
    refine pn_ 13 57 ao_ ?_
    refine tn_ 14 58 tw_ hHeld ?_
    refine pn_ 15 59 ao_ ?_
    refine last_ (i := 16) (N := none) #[true, true, true, true, true, true, true, true, true, true, true, true, true, true, true, true, true] rfl rfl on_ (by decide) (fun K hK => ?_)
    refine skip_ (w1 := ?_) (by rfl) rfl ?_ ?_
    rotate_left
    ·
     go_simp
     rfl
    refine hK.out _ _ ?_
    clear hK K
    refine done_ dn_ ?_
    have p241 : 0 ≤ (a : Int) := dq_
    have ag : a < (c.length : Int) := dq_
    obtain ⟨aI, a8, c241_0, aV, u, Z, ao⟩ := at_L3 ab.out a p241 ag
    obtain rfl : G = aI := (by injection aV)
    have hn241_0 : G.block ≠ go19 := Nat.ne_of_lt (Nat.lt_of_lt_of_le (by have := wl_ _ _ u; first | rwa [add_block] at this | exact this) GB19.out)
    replace u := hx_ HB u
    have aZ := a_ Z
    clear ao Z
    replace u := (cell_far (p := ⟨go19, (a : Int).toNat, none⟩) (by first | (rw [add_block]; exact hn241_0) | (show (Addr.add _ _).block ≠ _; rw [add_block]; exact hn241_0) | exact hn241_0) (.int .i64 (rd (rd_L3 c a) (m)))).trans u
    clear hn241_0
    replace p241 := et_ p241
    replace ag := et_ ag
    try go_wp2
    go_roundg k3
    case measure => have := O.out; have := ah.out; have := aj.out; omega
    exact ⟨(au), (wrap64 (Int.tdiv A ((rd_L3 c a).length : Int))), (wrap64 (a - 1)), eq_, eq_, H', ⟨by have := O.out; have := ah.out; have := aj.out; omega⟩, ⟨by refine vS_ ?_; exact Kd.S_mono (Kd.S_far (p := ⟨go19, (a : Int).toNat, none⟩) (Kd.S_mono HO_7.out (fun B hk => (⟨hk, fun e_ => hk (by rw [e_]; rfl)⟩ : _ ∧ B ≠ go19))) (fun _ hk => hk.2) _) (fun _ hk => hk.1)⟩, ⟨vR_ HQ21.out⟩, ⟨by repeat (first | (with_reducible first | exact HB.out | apply below_alloc | apply pw_below_drewN | apply below_drew1 | refine below_set ?_ GB19.out) | exact HB.out)⟩⟩

end Go.Proofs.YtckfbfdnlpnllaaGreatDoor.XAllDiffFilters
