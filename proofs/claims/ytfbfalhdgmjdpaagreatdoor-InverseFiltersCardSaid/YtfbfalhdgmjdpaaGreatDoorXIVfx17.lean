-- by xprint.py, a program of this session, over the kit's print
import Derived.Test.YtfbfalhdgmjdpaaGreatDoorXIVfx0
import Derived.Test.YtfbfalhdgmjdpaaGreatDoorXIVfx2
import Derived.Test.YtfbfalhdgmjdpaaGreatDoorSq
namespace Go.Proofs.YtfbfalhdgmjdpaaGreatDoor.XInverseFilters
open Go.RowKit Go.Proofs.YtfbfalhdgmjdpaaGreatDoor.Sq Go.Proofs.YtfbfalhdgmjdpaaGreatDoorW.PrintWords Go.Proofs.YtfbfalhdgmjdpaaGreatDoorW.PrintLast Go.Proofs.YtfbfalhdgmjdpaaGreatDoorW.PrintMore
attribute [local go_sem] max2_int min2_int max_two min_two max_three min_three max_four min_four   -- for this text's walks alone
set_option linter.unusedVariables false
set_option linter.unusedSimpArgs false

/-! ### jigsawref22_side: function 32 -/
mutual
def jigsawref22_side.l0 : Nat → List (List Int) → List (List Int) → List (List Int) → Int → Option ((List (List Int)))
 | 0, _, _, _, _ => none
 | k + 1, a, d, b, c => if c < (a.length : Int) then (jigsawref22_side.l1 k a d b c ([] : List Int) 0) else (some b)
def jigsawref22_side.l1 : Nat → List (List Int) → List (List Int) → List (List Int) → Int → List Int → Int → Option ((List (List Int)))
 | 0, _, _, _, _, _, _ => none
 | k + 1, b, d, e, a, f, c => if 0 ≤ a then (if a < (b.length : Int) then (if c < ((rd_L7 b a).length : Int) then (if 0 ≤ c then (if (rd (rd_L7 b a) c) < 1 then (jigsawref22_side.j2 k b d e a f c (rd (rd_L7 b a) c) true) else (jigsawref22_side.j2 k b d e a f c (rd (rd_L7 b a) c) (decide ((rd (rd_L7 b a) c) > (d.length : Int))))) else (none)) else (if e.length < 5864062014805 then (jigsawref22_side.l0 k b d (e ++ [f]) (wrap64 (a + 1))) else (none))) else (none)) else (none)
def jigsawref22_side.j2 : Nat → List (List Int) → List (List Int) → List (List Int) → Int → List Int → Int → Int → Bool → Option ((List (List Int)))
 | 0, _, _, _, _, _, _, _, _ => none
 | k + 1, e, a, g, b, c, l, d, n => if n = true then (jigsawref22_side.l1 k e a g b c (wrap64 (l + 1))) else (if 0 ≤ (wrap64 (d - 1)) then (if (wrap64 (d - 1)) < (a.length : Int) then ((jigsawref02_Has.f k (rd_L7 a (wrap64 (d - 1))) (wrap64 (b + 1))).bind fun m => (if m = true then (if c.length < 17592186044416 then (jigsawref22_side.l1 k e a g b (c ++ [d]) (wrap64 (l + 1))) else (none)) else (jigsawref22_side.l1 k e a g b c (wrap64 (l + 1))))) else (none)) else (none))
end
def jigsawref22_side.f (k : Nat) (a : List (List Int)) (b : List (List Int)) : Option ((List (List Int))) := jigsawref22_side.l0 k a b ([] : List (List Int)) 0
theorem jigsawref22_side.mono_l : ∀ k, (∀ a b c d, LeO (jigsawref22_side.l0 k a b c d) (jigsawref22_side.l0 (k + 1) a b c d)) ∧ (∀ a b c d e f, LeO (jigsawref22_side.l1 k a b c d e f) (jigsawref22_side.l1 (k + 1) a b c d e f)) ∧ (∀ a b c d e f g l, LeO (jigsawref22_side.j2 k a b c d e f g l) (jigsawref22_side.j2 (k + 1) a b c d e f g l))
 | 0 => by refine ⟨?_, ?_, ?_⟩ <;> (intros; exact LeO.none _)
 | k + 1 => by
  obtain ⟨ih0, ih1, ih2⟩ := jigsawref22_side.mono_l k
  have m0 := @jigsawref02_Has.mono
  refine ⟨?_, ?_, ?_⟩ <;> intros
  all_goals first | unfold jigsawref22_side.l0 | unfold jigsawref22_side.l1 | unfold jigsawref22_side.j2
  all_goals exact leo_
theorem jigsawref22_side.mono : ∀ a b k, LeO (jigsawref22_side.f k a b) (jigsawref22_side.f (k + 1) a b) := by
 intro a b k
 obtain ⟨ih0, ih1, ih2⟩ := jigsawref22_side.mono_l k
 unfold jigsawref22_side.f
 have m0 := @jigsawref02_Has.mono
 exact leo_
set_option maxHeartbeats 8000000 in
set_option maxRecDepth 100000 in
theorem jigsawref22_side.calls (k : Nat) (A0 : Option Addr) (c0 : Nat) (g : List (List Int)) (A1 : Option Addr) (c1 : Nat) (o : List (List Int)) (r : List (List Int)) (w : World) (ap : Kd.C (Kd.slice 3 (Kd.int .i64)) w A0 g.length g) (aq : g.length ≤ c0) (ar : Kd.C (Kd.slice 3 (Kd.int .i64)) w A1 o.length o) (au : o.length ≤ c1) (h : jigsawref22_side.f k g o = some r) :
  Calls Tryz.prog 32 #[.slice A0 g.length c0, .slice A1 o.length c1] w fun e w' => ∃ av : Value, e = .returned (av) ∧ Kd.S (Kd.slice 3 (Kd.int .i64)) 30 w' w.heap.size (fun _ => True) av r ∧ Below w.heap.size w w' := by
 have ac := a_ ap
 have aT := a_ aq
 clear ap aq
 have aw := a_ ar
 have aU := a_ au
 clear ar au
 have HB := a_ (Below.refl w.heap.size w)
 unfold jigsawref22_side.f at h
 have H := h
 clear h
 have H' := a_ H
 clear H
 go_enter Tryz.func32, Tryz.ntmps32
 go_wp2
 go_loopg [5, 6] k (fun kq v5 v6 w' => ∃ (n : List (List Int)) (a : Int), v6 = .int .i64 a ∧ Aside0 (jigsawref22_side.l0 kq g o n a = some r) ∧ Aside0 (kq ≤ k) ∧ Aside0 (Kd.S (Kd.slice 3 (Kd.int .i64)) 30 w' w.heap.size (fun _ => True) v5 n) ∧ Aside0 (Below w.heap.size w w'))
 case atStart => exact ⟨(([] : List (List Int))), (0), eq_, H', ⟨lr_ _⟩, ⟨nil_⟩, ⟨bel_⟩⟩
 clear H'
 try clear c1
 try clear p2
 obtain ⟨n, a, rfl, HA, z, HO_5, HB⟩ := hrel
 cases gk with
 | zero => exact absurd HA.out (by simp [jigsawref22_side.l0])
 | succ k1 =>
  have H := HA.out
  clear HA
  simp only [jigsawref22_side.l0] at H
  by_cases c3 : a < (g.length : Int)
  rotate_left
  ·
   rw [ig_ c3] at H
   have c3b0 : decide (a < (g.length : Int)) = false := df_ c3
   clear c3
   obtain rfl := si_ H
   go_wp2
   go_ret
   exact ⟨_, er_, vS_ HO_5.out, bel_⟩
  rw [ip_ c3] at H
  have c3b0 : decide (a < (g.length : Int)) = true := dt_ c3
  clear c3
  have H' := a_ H
  clear H
  go_wp2
  go_loopg [7, 8] k1 (fun kq v7 v8 w' => ∃ (d : List Int) (c : Int), v8 = .int .i64 c ∧ Aside0 (jigsawref22_side.l1 kq g o n a d c = some r) ∧ Aside0 (kq ≤ k1) ∧ Aside0 (Kd.S (Kd.slice 3 (Kd.int .i64)) 30 w' w.heap.size (fun y => some y ≠ v7.ownBlock) u5 n) ∧ Aside0 (Kd.R (Kd.int .i64) 3 w' w.heap.size (fun _ => True) v7 d) ∧ Aside0 (Below w.heap.size w w'))
  case atStart => exact ⟨(([] : List Int)), (0), eq_, H', ⟨lr_ _⟩, ⟨by refine vS_ ?_; exact Kd.S_mono HO_5.out (fun _ hk => (by simp [Value.ownBlock]))⟩, ⟨nil_⟩, ⟨bel_⟩⟩
  clear H'
  try clear c1
  try clear p2
  try clear c3
  try clear c3b0
  try clear p2
  obtain ⟨d, c, rfl, HA, A, HO_5, HO_7, HB⟩ := hrel
  cases gk with
  | zero => exact absurd HA.out (by simp [jigsawref22_side.l1])
  | succ k2 =>
   have H := HA.out
   clear HA
   simp only [jigsawref22_side.l1] at H
   by_cases c4 : 0 ≤ a
   rotate_left
   ·
    rw [ig_ c4] at H
    exact ab_ H
   rw [ip_ c4] at H
   have c4b0 : decide (0 ≤ a) = true := dt_ c4
   clear c4
   by_cases c5 : a < (g.length : Int)
   rotate_left
   ·
    rw [ig_ c5] at H
    exact ab_ H
   rw [ip_ c5] at H
   have c5b0 : decide (a < (g.length : Int)) = true := dt_ c5
   clear c5
   by_cases c6 : c < ((rd_L7 g a).length : Int)
   rotate_left
   ·
    rw [ig_ c6] at H
    have c6b0 : decide (c < ((rd_L7 g a).length : Int)) = false := df_ c6
    clear c6
    by_cases c18 : n.length < 5864062014805
    rotate_left
    ·
     rw [ig_ c18] at H
     exact ab_ H
    rw [ip_ c18] at H
    have LMc18 := a_ c18
    clear c18
    obtain ⟨ag, G⟩ : ∃ y_ : List (List Int), y_ = (n ++ [d]) := ⟨_, rfl⟩
    replace H : (jigsawref22_side.l0 k2 g o ag (wrap64 (a + 1))) = some r := h2_ H G
    have an := a_ G
    clear G
    have H' := a_ H
    clear H
    have p455 : 0 ≤ (a : Int) := dq_
    have v : a < (g.length : Int) := dq_
    obtain ⟨Z, ae, c455_0, X, m, q, I⟩ := at_L7 ac.out a p455 v
    cases X
    replace m := hx_ HB m
    have aa := a_ q
    clear I q
    replace p455 := et_ p455
    replace v := et_ v
    obtain ⟨ah, ai, aA⟩ := Kd.R_slice HO_7.out
    subst aA
    go_wp2_with (first | ((with_reducible refine gate_builtin (b := .append) (xs := #[.tmp 54, .tmp 56]) rfl ?_); (try (refine gate_guard (by rfl) ?_; dsimp only)); at_builtin; refine Kd.S_append (Kd.slice 3 (Kd.int .i64)) (w0 := w) w.heap.size rfl (.tmp 54) (.tmp 56) 27 30 (.slice none 0 0) 24 rfl Tryz.underlying27 info30 rfl (by decide) (by omega) u5 n d [.slice ah d.length ai] (fun _ => True) (fun y => some y = (.slice ah d.length ai : Value).ownBlock) rfl rfl ?aP (fun y hk_ => ((rm_ (ok' := fun y => ((fun _ => True)) y ∧ some y ≠ u5.ownBlock) (Kd.R_apart' (HO_7.out) (Kd.S_typed HO_5.out) (by decide)) (fun y hk => ⟨trivial, hk.2⟩))).1 y hk_.symm) ?aF ?aO ?aB ?aS ?aL ?_; (case aP => exact Kd.M_row (rm_ (Kd.R_tight rfl (rm_ (ok' := fun y => ((fun _ => True)) y ∧ some y ≠ u5.ownBlock) (Kd.R_apart' (HO_7.out) (Kd.S_typed HO_5.out) (by decide)) (fun y hk => ⟨trivial, hk.2⟩))) (fun _ h_ => h_))); (case aB => exact bel_); (case aF => exact (fun _ _ => trivial)); (case aO => exact (by refine vS_ ?_; exact Kd.S_mono HO_5.out (fun y hk => ⟨trivial, fun e_ => hk e_⟩))); (case aS => exact (bz_ bel_)); (case aL => have := LMc18.out; omega); intro aR w19 ho hb hg hat; rw [← an.out] at ho; replace HB := a_ (hb); have ao := a_ (ho); clear HO_5 HO_7; clear ho hb hg hat))
    go_roundg k2
    case measure => have := z.out; have := A.out; omega
    exact ⟨(ag), (wrap64 (a + 1)), eq_, H', ⟨by have := z.out; have := A.out; omega⟩, ⟨vS_ ao.out⟩, ⟨bel_⟩⟩
   rw [ip_ c6] at H
   have c6b0 : decide (c < ((rd_L7 g a).length : Int)) = true := dt_ c6
   clear c6
   by_cases c7 : 0 ≤ c
   rotate_left
   ·
    rw [ig_ c7] at H
    exact ab_ H
   rw [ip_ c7] at H
   have c7b0 : decide (0 ≤ c) = true := dt_ c7
   clear c7
   have ad := a_ H
   clear H
   have p455 : 0 ≤ (a : Int) := dq_
   have v : a < (g.length : Int) := dq_
   obtain ⟨Z, ae, c455_0, X, m, q, I⟩ := at_L7 ac.out a p455 v
   cases X
   replace m := hx_ HB m
   have aa := a_ q
   clear I q
   replace p455 := et_ p455
   replace v := et_ v
   have p459 : 0 ≤ (a : Int) := dq_
   have V : a < (g.length : Int) := dq_
   obtain ⟨aj, aH, c459_0, ay, s, P, Q⟩ := at_L7 ac.out a p459 V
   obtain rfl : Z = aj := (by injection ay)
   replace s := hx_ HB s
   have ab := a_ Q
   have aC := a_ P
   clear Q P
   replace p459 := et_ p459
   replace V := et_ V
   have ea_ := si_ (m.symm.trans s)
   injection ea_ with ea_ en_ ec_
   subst ea_
   subst ec_
   clear en_
   have p460 : 0 ≤ (c : Int) := dq_
   have W : c < ((rd_L7 g a).length : Int) := dq_
   obtain ⟨aJ, az, x⟩ := ai_ ab.out c p460 W
   cases az
   replace x := hx_ HB x
   replace p460 := et_ p460
   replace W := et_ W
   go_upto_region 10 with (fail)
   go_cut [40] (fun aI wc => ∃ (kq : Nat) (M : Bool), aI = .bool M ∧ Aside0 (jigsawref22_side.j2 kq g o n a d c (rd (rd_L7 g a) c) M = some r) ∧ Aside0 (kq ≤ k2) ∧ Aside0 (Kd.S (Kd.slice 3 (Kd.int .i64)) 30 wc w.heap.size (fun y => some y ≠ u7.ownBlock) u5 n) ∧ Aside0 (Kd.R (Kd.int .i64) 3 wc w.heap.size (fun _ => True) u7 d) ∧ Aside0 (Below w.heap.size w wc))
   case first =>
    have H := ad.out
    clear ad
    by_cases c9 : (rd (rd_L7 g a) c) < 1
    ·
     rw [ip_ c9] at H
     have c9b0 : decide ((rd (rd_L7 g a) c) < 1) = true := dt_ c9
     clear c9
     (first | rw [c9b0] | (simp only [i64_w, i32_w]; rw [c9b0]) | skip)
     have H' := a_ H
     clear H
     go_wp2
     go_meet
     exact ⟨_, (true), eq_, H', ⟨by have := z.out; have := A.out; first | omega | exact lr_ _⟩, ⟨vS_ HO_5.out⟩, ⟨vR_ HO_7.out⟩, ⟨bel_⟩⟩
    rw [ig_ c9] at H
    have c9b0 : decide ((rd (rd_L7 g a) c) < 1) = false := df_ c9
    clear c9
    (first | rw [c9b0] | (simp only [i64_w, i32_w]; rw [c9b0]) | skip)
    have H' := a_ H
    clear H
    go_wp2
    go_meet
    exact ⟨_, (decide ((rd (rd_L7 g a) c) > (o.length : Int))), eq_, H', ⟨by have := z.out; have := A.out; first | omega | exact lr_ _⟩, ⟨vS_ HO_5.out⟩, ⟨vR_ HO_7.out⟩, ⟨bel_⟩⟩
   clear ad
   try clear c1
   try clear p2
   try clear c3
   try clear c3b0
   try clear c4
   try clear c4b0
   try clear p4
   try clear q4
   try clear aV
   try clear c5
   try clear c5b0
   try clear c6
   try clear c6b0
   try clear c7
   try clear c7b0
   try clear c9
   try clear c9b0
   try clear m
   try clear s
   try clear x
   try clear p2
   try clear p455
   try clear p459
   try clear p460
   try clear v
   try clear V
   try clear W
   obtain ⟨kq, M, rfl, HA, U, HO_5, HO_7, HB⟩ := hcut
   cases kq with
   | zero => exact absurd HA.out (by simp [jigsawref22_side.j2])
   | succ kj7 =>
    have H := HA.out
    clear HA
    simp only [jigsawref22_side.j2] at H
    by_cases c10 : M = true
    ·
     subst c10
     rw [ip_ rfl] at H
     have H' := a_ H
     clear H
     go_wp2
     go_roundg kj7
     case measure => have := z.out; have := A.out; have := U.out; omega
     exact ⟨(d), (wrap64 (c + 1)), eq_, H', ⟨by have := z.out; have := A.out; have := U.out; omega⟩, ⟨vS_ HO_5.out⟩, ⟨vR_ HO_7.out⟩, ⟨bel_⟩⟩
    replace c10 := bf_.mpr c10
    subst c10
    have H1 : (if 0 ≤ (wrap64 ((rd (rd_L7 g a) c) - 1)) then (if (wrap64 ((rd (rd_L7 g a) c) - 1)) < (o.length : Int) then ((jigsawref02_Has.f kj7 (rd_L7 o (wrap64 ((rd (rd_L7 g a) c) - 1))) (wrap64 (a + 1))).bind fun N => (if N = true then (if d.length < 17592186044416 then (jigsawref22_side.l1 kj7 g o n a (d ++ [(rd (rd_L7 g a) c)]) (wrap64 (c + 1))) else (none)) else (jigsawref22_side.l1 kj7 g o n a d (wrap64 (c + 1))))) else (none)) else (none)) = some r := by rw [ig_ (show ¬ (false = true) by decide)] at H; exact H
    clear H
    have H := H1
    clear H1
    obtain ⟨l, E⟩ : ∃ j_ : Int, (wrap64 ((rd (rd_L7 g a) c) - 1)) = j_ := ⟨_, rfl⟩
    replace H : (if 0 ≤ (l) then (if (l) < (o.length : Int) then ((jigsawref02_Has.f kj7 (rd_L7 o (l)) (wrap64 (a + 1))).bind fun N => (if N = true then (if d.length < 17592186044416 then (jigsawref22_side.l1 kj7 g o n a (d ++ [(rd (rd_L7 g a) c)]) (wrap64 (c + 1))) else (none)) else (jigsawref22_side.l1 kj7 g o n a d (wrap64 (c + 1))))) else (none)) else (none)) = some r := by first | (rw [E] at H; exact H) | (simp only [E] at H ⊢; exact H)
    have hji11w : (IntKind.i64.wrap ((rd (rd_L7 g a) c) - 1)) = l := (i64_w _).trans E
    by_cases c12 : 0 ≤ (l)
    rotate_left
    ·
     rw [ig_ c12] at H
     exact ab_ H
    rw [ip_ c12] at H
    have c12b0 : decide (0 ≤ (l)) = true := dt_ c12
    clear c12
    by_cases c13 : (l) < (o.length : Int)
    rotate_left
    ·
     rw [ig_ c13] at H
     exact ab_ H
    rw [ip_ c13] at H
    have c13b0 : decide ((l) < (o.length : Int)) = true := dt_ c13
    clear c13
    replace H := bo_ H
    obtain ⟨N, ax, H⟩ := H
    try dsimp only at H
    by_cases c15 : N = true
    rotate_left
    ·
     replace c15 := bf_.mpr c15
     subst c15
     have H1 : (jigsawref22_side.l1 kj7 g o n a d (wrap64 (c + 1))) = some r := by rw [ig_ (show ¬ (false = true) by decide)] at H; exact H
     clear H
     have H := H1
     clear H1
     have H' := a_ H
     clear H
     have p461 : 0 ≤ ((l) : Int) := dq_
     have B : (l) < (o.length : Int) := dq_
     obtain ⟨al, O, c461_0, Y, p, t, u⟩ := at_L7 aw.out (l) p461 B
     cases Y
     replace p := hx_ HB p
     have J := a_ u
     have K := a_ t
     clear u t
     replace p461 := et_ p461
     replace B := et_ B
     go_wp2_with (first | ((with_reducible refine gate_callee (f := 66) rfl ?_); refine goesL_ (some 48) rfl rfl Tryz.func66 kr_ rfl #[.slice O (rd_L7 o (l)).length c461_0, .int .i64 (wrap64 (a + 1))] rfl (by (try simp only [List.map_toArray, List.map_cons, List.map_nil]); first | done | (simp only [E]; rfl) | rfl | (simp only [List.length_drop, List.length_take]; rfl)) ?_; (with_reducible refine (jigsawref02_Has.calls kj7 _ _ (rd_L7 o (l)) (wrap64 (a + 1)) false _ ?_ ?_ ax.out).mono ?_); exact ca_ ((cb_ J.out HB.out)); exact K.out; rintro e w' ⟨rfl, ⟨nd, rfl⟩⟩; refine ⟨_, rfl, ?_⟩))
     go_roundg kj7
     case measure => have := z.out; have := A.out; have := U.out; omega
     exact ⟨(d), (wrap64 (c + 1)), eq_, H', ⟨by have := z.out; have := A.out; have := U.out; omega⟩, ⟨vS_ HO_5.out⟩, ⟨vR_ HO_7.out⟩, ⟨bel_⟩⟩
    subst c15
    rw [ip_ rfl] at H
    by_cases c16 : d.length < 17592186044416
    rotate_left
    ·
     rw [ig_ c16] at H
     exact ab_ H
    rw [ip_ c16] at H
    have LMc16 := a_ c16
    clear c16
    obtain ⟨af, F⟩ : ∃ y_ : List Int, y_ = (d ++ [(rd (rd_L7 g a) c)]) := ⟨_, rfl⟩
    replace H : (jigsawref22_side.l1 kj7 g o n a af (wrap64 (c + 1))) = some r := h2_ H F
    have ak := a_ F
    clear F
    have H' := a_ H
    clear H
    have p461 : 0 ≤ ((l) : Int) := dq_
    have B : (l) < (o.length : Int) := dq_
    obtain ⟨al, O, c461_0, Y, p, t, u⟩ := at_L7 aw.out (l) p461 B
    cases Y
    replace p := hx_ HB p
    have J := a_ u
    have K := a_ t
    clear u t
    replace p461 := et_ p461
    replace B := et_ B
    go_wp2_with (first | ((with_reducible refine gate_callee (f := 66) rfl ?_); refine goesL_ (some 48) rfl rfl Tryz.func66 kr_ rfl #[.slice O (rd_L7 o (l)).length c461_0, .int .i64 (wrap64 (a + 1))] rfl (by (try simp only [List.map_toArray, List.map_cons, List.map_nil]); first | done | (simp only [E]; rfl) | rfl | (simp only [List.length_drop, List.length_take]; rfl)) ?_; (with_reducible refine (jigsawref02_Has.calls kj7 _ _ (rd_L7 o (l)) (wrap64 (a + 1)) true _ ?_ ?_ ax.out).mono ?_); exact ca_ ((cb_ J.out HB.out)); exact K.out; rintro e w' ⟨rfl, ⟨nd, rfl⟩⟩; refine ⟨_, rfl, ?_⟩) | ((with_reducible refine gate_builtin (b := .append) (xs := #[.tmp 50, .tmp 52]) rfl ?_); (try (refine gate_guard (by rfl) ?_; dsimp only)); at_builtin; refine Kd.R_append (Kd.int .i64) (w0 := w) w.heap.size rfl (.tmp 50) (.tmp 52) 30 3 (.int .i64 0) 8 rfl Tryz.underlying30 info3 rfl (by decide) (by omega) u7 d (rd (rd_L7 g a) c) [.int .i64 (rd (rd_L7 g a) c)] (fun _ => True) (fun _ => False) rfl rfl ?aP (fun _ hk => hk.elim) ?aF ?aO ?aB ?aS ?aL ?_; (case aP => exact rfl); (case aB => exact bel_); (case aF => exact (fun _ _ => trivial)); (case aO => exact (vR_ HO_7.out)); (case aS => exact (bz_ bel_)); (case aL => have := LMc16.out; omega); intro aQ w17 ho hb hg hat; rw [← ak.out] at ho; replace HO_5 := a_ (Kd.S_after (ok := (fun _ => True)) (by refine vS_ ?_; exact Kd.S_mono HO_5.out (fun _ hk => ⟨trivial, hk⟩)) hg hat); replace HB := a_ (hb); have am := a_ (ho); clear HO_7; clear ho hb hg hat))
    go_roundg kj7
    case measure => have := z.out; have := A.out; have := U.out; omega
    exact ⟨(af), (wrap64 (c + 1)), eq_, H', ⟨by have := z.out; have := A.out; have := U.out; omega⟩, ⟨by refine vS_ ?_; exact Kd.S_mono HO_5.out (fun _ hk => hk.2)⟩, ⟨vR_ am.out⟩, ⟨bel_⟩⟩

end Go.Proofs.YtfbfalhdgmjdpaaGreatDoor.XInverseFilters
