-- by xprint.py, a program of this session, over the kit's print
import Derived.Test.YtijjhobjmehhoaaGreatDoorXGFix0
import Derived.Test.YtijjhobjmehhoaaGreatDoorXGFix11
import Derived.Test.YtijjhobjmehhoaaGreatDoorXGFix25
import Derived.Test.YtijjhobjmehhoaaGreatDoorSq
namespace Go.Proofs.YtijjhobjmehhoaaGreatDoor.XGccFilters
open Go.RowKit Go.Proofs.YtijjhobjmehhoaaGreatDoor.Sq Go.Proofs.YtijjhobjmehhoaaGreatDoorW.PrintWords Go.Proofs.YtijjhobjmehhoaaGreatDoorW.PrintLast Go.Proofs.YtijjhobjmehhoaaGreatDoorW.PrintMore
attribute [local go_sem] max2_int min2_int max_two min_two max_three min_three max_four min_four   -- for this text's walks alone
set_option linter.unusedVariables false
set_option linter.unusedSimpArgs false

/-! ### jigsawlaw20_lists: function 15 -/
def jigsawlaw20_lists.l0 : Nat → List (List Int) → List (S58) → Int → Int → Option ((List (List Int)))
 | 0, _, _, _, _ => none
 | k + 1, c, b, e, a => if a < e then (if 0 ≤ a then (if a < (b.length : Int) then ((dom_Dom_List.f k ((rd_T58 b a).f0) ((rd_T58 b a).f1) ((rd_T58 b a).f2) ((rd_T58 b a).f3) ((rd_T58 b a).f4)).bind fun d => (if c.length < 5864062014805 then (jigsawlaw20_lists.l0 k (c ++ [d]) b e (wrap64 (a + 1))) else (none))) else (none)) else (none)) else (some c)
def jigsawlaw20_lists.f (k : Nat) (a : List (S58)) : Option ((List (List Int))) := jigsawlaw20_lists.l0 k ([] : List (List Int)) a (a.length : Int) 0
theorem jigsawlaw20_lists.mono_l : ∀ k, (∀ a b c d, LeO (jigsawlaw20_lists.l0 k a b c d) (jigsawlaw20_lists.l0 (k + 1) a b c d))
 | 0 => by intros; exact LeO.none _
 | k + 1 => by
  have ih0 := jigsawlaw20_lists.mono_l k
  intro a b c d
  unfold jigsawlaw20_lists.l0
  have m0 := @dom_Dom_List.mono
  exact leo_
theorem jigsawlaw20_lists.mono : ∀ a k, LeO (jigsawlaw20_lists.f k a) (jigsawlaw20_lists.f (k + 1) a) := by
 intro a k
 have ih0 := jigsawlaw20_lists.mono_l k
 unfold jigsawlaw20_lists.f
 have m0 := @dom_Dom_List.mono
 exact leo_
set_option maxHeartbeats 8000000 in
set_option maxRecDepth 100000 in
theorem jigsawlaw20_lists.calls (k : Nat) (Z : Option Addr) (c0 : Nat) (c : List (S58)) (r : List (List Int)) (w : World) (Q : Kd.C k58 w Z c.length c) (U : c.length ≤ c0) (hrtab : Kd.C (Kd.int .u8) w (some ⟨0, 0, none⟩) tabL.length tabL) (h : jigsawlaw20_lists.f k c = some r) :
  Calls Tryz.prog 15 #[.slice Z c.length c0] w fun e w' => ∃ V : Value, e = .returned (V) ∧ Kd.S (Kd.slice 3 (Kd.int .i64)) 30 w' w.heap.size (fun _ => True) V r ∧ Below w.heap.size w w' := by
 have hu58 := Tryz.underlying58
 have aa := a_ Q
 have ai := a_ U
 clear Q U
 have HRtab := a_ hrtab
 clear hrtab
 have HB := a_ (Below.refl w.heap.size w)
 unfold jigsawlaw20_lists.f at h
 have H := h
 clear h
 have H' := a_ H
 clear H
 go_enter Tryz.func15, Tryz.ntmps15
 go_wp2
 go_loopg [3, 8] k (fun kq v3 v8 w' => ∃ (g : List (List Int)) (a : Int), v8 = .int .i64 a ∧ Aside0 (jigsawlaw20_lists.l0 kq g c (c.length : Int) a = some r) ∧ Aside0 (kq ≤ k) ∧ Aside0 (Kd.S (Kd.slice 3 (Kd.int .i64)) 30 w' w.heap.size (fun _ => True) v3 g) ∧ Aside0 (Below w.heap.size w w'))
 case atStart => exact ⟨(([] : List (List Int))), (0), eq_, H', ⟨lr_ _⟩, ⟨nil_⟩, ⟨bel_⟩⟩
 clear H'
 try clear c1
 obtain ⟨g, a, rfl, HA, W, HO_3, HB⟩ := hrel
 cases gk with
 | zero => exact absurd HA.out (by simp [jigsawlaw20_lists.l0])
 | succ k1 =>
  have H := HA.out
  clear HA
  simp only [jigsawlaw20_lists.l0] at H
  by_cases c2 : a < (c.length : Int)
  rotate_left
  ·
   rw [ig_ c2] at H
   have c2b0 : decide (a < (c.length : Int)) = false := df_ c2
   clear c2
   obtain rfl := si_ H
   go_wp2
   go_ret
   exact ⟨_, er_, vS_ HO_3.out, bel_⟩
  rw [ip_ c2] at H
  have c2b0 : decide (a < (c.length : Int)) = true := dt_ c2
  clear c2
  by_cases c3 : 0 ≤ a
  rotate_left
  ·
   rw [ig_ c3] at H
   exact ab_ H
  rw [ip_ c3] at H
  have c3b0 : decide (0 ≤ a) = true := dt_ c3
  clear c3
  by_cases c4 : a < (c.length : Int)
  rotate_left
  ·
   rw [ig_ c4] at H
   exact ab_ H
  rw [ip_ c4] at H
  have c4b0 : decide (a < (c.length : Int)) = true := dt_ c4
  clear c4
  replace H := bo_ H
  obtain ⟨u, A5, H⟩ := H
  try dsimp only at H
  by_cases c6 : g.length < 5864062014805
  rotate_left
  ·
   rw [ig_ c6] at H
   exact ab_ H
  rw [ip_ c6] at H
  have LMc6 := a_ c6
  clear c6
  obtain ⟨E, d⟩ : ∃ y_ : List (List Int), y_ = (g ++ [u]) := ⟨_, rfl⟩
  replace H : (jigsawlaw20_lists.l0 k1 E c (c.length : Int) (wrap64 (a + 1))) = some r := h2_ H d
  have K := a_ d
  clear d
  have H' := a_ H
  clear H
  have p721 : 0 ≤ (a : Int) := dq_
  have y : a < (c.length : Int) := dq_
  obtain ⟨ab, F, c721_1, X, l, m, n, o, p, v, x⟩ := at_T58 aa.out a p721 y
  cases X
  replace l := hx_ HB l
  replace m := hx_ HB m
  replace n := hx_ HB n
  replace o := hx_ HB o
  replace p := hx_ HB p
  have A := a_ x
  have B := a_ v
  clear x v
  replace p721 := et_ p721
  replace y := et_ y
  go_wp2_with (first | ((with_reducible refine gate_dst (N := 5) rfl ?_); refine bxe_ (N := 5) (cs := #[.int .i64 0, .slice none 0 0, .int .i64 0, .int .i64 0, .int .i64 0]) (t := 58) ?_; intro M hg w7 hbox hb; replace HO_3 := a_ (Kd.S_below (vS_ HO_3.out) hb); have z := a_ (hbox); have O := a_ (by rw [hg]; exact (bz_ bel_) : w.heap.size ≤ M); have ac := O; replace HB := hq_ hb; clear hb hbox hg; obtain ⟨_, _, _, _, _, _, _, _, _, _⟩ := cel5_ z.out) | ((with_reducible refine gate_callee (f := 21) rfl ?_); refine goesL_ (some 14) rfl rfl Tryz.func21 kr_ rfl #[.agg #[.int .i64 ((rd_T58 c a).f0), .slice F ((rd_T58 c a).f1).length c721_1, .int .i64 ((rd_T58 c a).f2), .int .i64 ((rd_T58 c a).f3), .int .i64 ((rd_T58 c a).f4)]] rfl ar_ ?_; (with_reducible refine (dom_Dom_List.calls k1 ((rd_T58 c a).f0) _ _ ((rd_T58 c a).f1) ((rd_T58 c a).f2) ((rd_T58 c a).f3) ((rd_T58 c a).f4) u _ ?_ ?_ ?_ A5.out).mono ?_); exact cb_ A.out bel_; exact B.out; exact cb_ HRtab.out bel_; rintro e w9 ⟨ag, rfl, G, hb⟩; refine ⟨_, rfl, ?_⟩; replace HO_3 := a_ (Kd.S_elder' (by refine vS_ ?_; exact (Kd.S_mono (fS_ (fS_ (fS_ (fS_ (fS_ (Kd.S_types HO_3.out z.out (by decide))))))) (fun _ h_ => h_.1))) (rs_ G) hb); have s := a_ (Kd.R_lower G (bz_ bel_)); replace HB := hq_ hb; clear hb G; obtain ⟨I, J, Y⟩ := Kd.R_slice s.out; subst Y) | ((with_reducible refine gate_builtin (b := .append) (xs := #[.tmp 12, .tmp 15]) rfl ?_); at_builtin; refine Kd.S_append (Kd.slice 3 (Kd.int .i64)) (w0 := w) w.heap.size rfl (.tmp 12) (.tmp 15) 27 30 (.slice none 0 0) 24 rfl Tryz.underlying27 info30 rfl (by decide) (by omega) u3 g u [.slice I u.length J] (fun _ => True) (fun q => some q = (.slice I u.length J : Value).ownBlock) rfl rfl ?aP (fun q hk_ => ((rm_ (ok' := fun q => ((fun _ => True)) q ∧ some q ≠ u3.ownBlock) (Kd.R_apart' (s.out) (Kd.S_typed HO_3.out) (by decide)) (fun q hk => ⟨trivial, hk.2⟩))).1 q hk_.symm) ?aF ?aO ?aB ?aS ?aL ?_; (case aP => exact Kd.M_row (rm_ (Kd.R_tight rfl (rm_ (ok' := fun q => ((fun _ => True)) q ∧ some q ≠ u3.ownBlock) (Kd.R_apart' (s.out) (Kd.S_typed HO_3.out) (by decide)) (fun q hk => ⟨trivial, hk.2⟩))) (fun _ h_ => h_))); (case aB => exact bel_); (case aF => exact (fun _ _ => trivial)); (case aO => exact (by refine vS_ ?_; exact Kd.S_mono HO_3.out (fun q hk => ⟨trivial, fun e_ => hk.2 e_⟩))); (case aS => exact (bz_ bel_)); (case aL => have := LMc6.out; omega); intro ah w10 ho hb hg hat; rw [← K.out] at ho; replace HB := a_ (hb); have P := a_ (ho); clear HO_3 s; clear ho hb hg hat))
  go_roundg k1
  case measure => have := W.out; omega
  exact ⟨(E), (wrap64 (a + 1)), eq_, H', ⟨by have := W.out; omega⟩, ⟨vS_ P.out⟩, ⟨bel_⟩⟩

end Go.Proofs.YtijjhobjmehhoaaGreatDoor.XGccFilters
