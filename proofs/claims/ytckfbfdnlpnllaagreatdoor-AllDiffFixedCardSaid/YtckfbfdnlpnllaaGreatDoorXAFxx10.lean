-- by xprint.py, a program of this session, over the kit's print
import Derived.Test.YtckfbfdnlpnllaaGreatDoorXAFxx0
import Derived.Test.YtckfbfdnlpnllaaGreatDoorXAFxx1
import Derived.Test.YtckfbfdnlpnllaaGreatDoorXAFxx7
import Derived.Test.YtckfbfdnlpnllaaGreatDoorXAFxx8
import Derived.Test.YtckfbfdnlpnllaaGreatDoorXAFxx9
import Derived.Test.YtckfbfdnlpnllaaGreatDoorSq
namespace Go.Proofs.YtckfbfdnlpnllaaGreatDoor.XAllDiffFixed
open Go.RowKit Go.Proofs.YtckfbfdnlpnllaaGreatDoor.Sq Go.Proofs.YtckfbfdnlpnllaaGreatDoorW.PrintWords Go.Proofs.YtckfbfdnlpnllaaGreatDoorW.PrintLast Go.Proofs.YtckfbfdnlpnllaaGreatDoorW.PrintMore
attribute [local go_sem] max2_int min2_int max_two min_two max_three min_three max_four min_four   -- for this text's walks alone
set_option linter.unusedVariables false
set_option linter.unusedSimpArgs false

/-! ### jigsawlaw16_wakes: function 10 -/
def jigsawlaw16_wakes.f (k : Nat)  : Option (Bool) := (dom_Range.f k 1 2).bind fun a => ((dom_Range.f k 1 3).bind fun c => ((alldiff_Filter.f k 17 (([0, 1, 2] : List Int)) ([] : List Int) ([] : List Int) ([] : List Int) ([] : List Int) 0 ([] : List (List Int)) (([(⟨a.1, a.2.1, a.2.2.1, a.2.2.2.1, a.2.2.2.2.1⟩ : S57), (⟨a.1, a.2.1, a.2.2.1, a.2.2.2.1, a.2.2.2.2.1⟩ : S57), (⟨c.1, c.2.1, c.2.2.1, c.2.2.2.1, c.2.2.2.2.1⟩ : S57)] : List (S57)))).bind fun b => ((alldiff_Filter.f k 17 (([0, 1, 2] : List Int)) ([] : List Int) ([] : List Int) ([] : List Int) ([] : List Int) 0 ([] : List (List Int)) (([(⟨a.1, a.2.1, a.2.2.1, a.2.2.2.1, a.2.2.2.2.1⟩ : S57), (⟨a.1, a.2.1, a.2.2.1, a.2.2.2.1, a.2.2.2.2.1⟩ : S57), (⟨a.1, a.2.1, a.2.2.1, a.2.2.2.1, a.2.2.2.2.1⟩ : S57)] : List (S57)))).bind fun d => (if b.2 = true then (if (b.1.length : Int) = 3 then (if 0 < (b.1.length : Int) then ((dom_Dom_Size.f ((rd_T57 b.1 0).f0) ((rd_T57 b.1 0).f1) ((rd_T57 b.1 0).f2) ((rd_T57 b.1 0).f3) ((rd_T57 b.1 0).f4)).bind fun e => (if e = 2 then (if 2 < (b.1.length : Int) then ((dom_Dom_List.f k ((rd_T57 b.1 2).f0) ((rd_T57 b.1 2).f1) ((rd_T57 b.1 2).f2) ((rd_T57 b.1 2).f3) ((rd_T57 b.1 2).f4)).bind fun g => ((slices_Equal_int_int.f k g (([3] : List Int))).bind fun l => (if l = true then (some (!d.2)) else (none)))) else (none)) else (none))) else (none)) else (none)) else (none)))))
theorem jigsawlaw16_wakes.mono : ∀ k, LeO (jigsawlaw16_wakes.f k ) (jigsawlaw16_wakes.f (k + 1) ) := by
 intro k
 unfold jigsawlaw16_wakes.f
 have m0 := @alldiff_Filter.mono
 have m1 := @dom_Dom_List.mono
 have m2 := @dom_Range.mono
 have m3 := @slices_Equal_int_int.mono
 exact leo_
set_option maxHeartbeats 8000000 in
set_option maxRecDepth 100000 in
theorem jigsawlaw16_wakes.calls (k : Nat)  (r : Bool) (w : World) (hrtab : Kd.C (Kd.int .u8) w (some ⟨0, 0, none⟩) tabL.length tabL) (h : jigsawlaw16_wakes.f k  = some r) :
  Calls Tryz.prog 10 #[] w fun e w' => e = .returned (.bool r) ∧ Below w.heap.size w w' := by
 have hu57 := Tryz.underlying57
 have hu32 := Tryz.underlying32
 have HRtab := a_ hrtab
 clear hrtab
 have HB := a_ (Below.refl w.heap.size w)
 unfold jigsawlaw16_wakes.f at h
 have H := h
 clear h
 replace H := bs_.mp H
 obtain ⟨⟨b, c, l, m, n, bi⟩, be, H⟩ := H
 try dsimp only at H
 have A1 := a_ be
 clear be
 replace H := bs_.mp H
 obtain ⟨⟨O, U, X, ac, af, bj⟩, bf, H⟩ := H
 try dsimp only at H
 have A2 := a_ bf
 clear bf
 obtain ⟨y, aq⟩ : ∃ y_ : List Int, y_ = (([0, 1, 2] : List Int)) := ⟨_, rfl⟩
 replace H : ((alldiff_Filter.f k 17 y ([] : List Int) ([] : List Int) ([] : List Int) ([] : List Int) 0 ([] : List (List Int)) (([(⟨b, c, l, m, n⟩ : S57), (⟨b, c, l, m, n⟩ : S57), (⟨O, U, X, ac, af⟩ : S57)] : List (S57)))).bind fun p => ((alldiff_Filter.f k 17 (([0, 1, 2] : List Int)) ([] : List Int) ([] : List Int) ([] : List Int) ([] : List Int) 0 ([] : List (List Int)) (([(⟨b, c, l, m, n⟩ : S57), (⟨b, c, l, m, n⟩ : S57), (⟨b, c, l, m, n⟩ : S57)] : List (S57)))).bind fun ag => (if p.2 = true then (if (p.1.length : Int) = 3 then (if 0 < (p.1.length : Int) then ((dom_Dom_Size.f ((rd_T57 p.1 0).f0) ((rd_T57 p.1 0).f1) ((rd_T57 p.1 0).f2) ((rd_T57 p.1 0).f3) ((rd_T57 p.1 0).f4)).bind fun V => (if V = 2 then (if 2 < (p.1.length : Int) then ((dom_Dom_List.f k ((rd_T57 p.1 2).f0) ((rd_T57 p.1 2).f1) ((rd_T57 p.1 2).f2) ((rd_T57 p.1 2).f3) ((rd_T57 p.1 2).f4)).bind fun Y => ((slices_Equal_int_int.f k Y (([3] : List Int))).bind fun Z => (if Z = true then (some (!ag.2)) else (none)))) else (none)) else (none))) else (none)) else (none)) else (none)))) = some r := h2_ H aq
 have a1 := a_ aq
 clear aq
 obtain ⟨P, ar⟩ : ∃ y_ : List (S57), y_ = (([(⟨b, c, l, m, n⟩ : S57), (⟨b, c, l, m, n⟩ : S57), (⟨O, U, X, ac, af⟩ : S57)] : List (S57))) := ⟨_, rfl⟩
 replace H : ((alldiff_Filter.f k 17 y ([] : List Int) ([] : List Int) ([] : List Int) ([] : List Int) 0 ([] : List (List Int)) P).bind fun p => ((alldiff_Filter.f k 17 (([0, 1, 2] : List Int)) ([] : List Int) ([] : List Int) ([] : List Int) ([] : List Int) 0 ([] : List (List Int)) (([(⟨b, c, l, m, n⟩ : S57), (⟨b, c, l, m, n⟩ : S57), (⟨b, c, l, m, n⟩ : S57)] : List (S57)))).bind fun ag => (if p.2 = true then (if (p.1.length : Int) = 3 then (if 0 < (p.1.length : Int) then ((dom_Dom_Size.f ((rd_T57 p.1 0).f0) ((rd_T57 p.1 0).f1) ((rd_T57 p.1 0).f2) ((rd_T57 p.1 0).f3) ((rd_T57 p.1 0).f4)).bind fun V => (if V = 2 then (if 2 < (p.1.length : Int) then ((dom_Dom_List.f k ((rd_T57 p.1 2).f0) ((rd_T57 p.1 2).f1) ((rd_T57 p.1 2).f2) ((rd_T57 p.1 2).f3) ((rd_T57 p.1 2).f4)).bind fun Y => ((slices_Equal_int_int.f k Y (([3] : List Int))).bind fun Z => (if Z = true then (some (!ag.2)) else (none)))) else (none)) else (none))) else (none)) else (none)) else (none)))) = some r := h2_ H ar
 have a2 := a_ ar
 clear ar
 replace H := bs_.mp H
 obtain ⟨⟨d, aZ⟩, bg, H⟩ := H
 try dsimp only at H
 have A3 := a_ bg
 clear bg
 obtain ⟨Q, au⟩ : ∃ y_ : List Int, y_ = (([0, 1, 2] : List Int)) := ⟨_, rfl⟩
 replace H : ((alldiff_Filter.f k 17 Q ([] : List Int) ([] : List Int) ([] : List Int) ([] : List Int) 0 ([] : List (List Int)) (([(⟨b, c, l, m, n⟩ : S57), (⟨b, c, l, m, n⟩ : S57), (⟨b, c, l, m, n⟩ : S57)] : List (S57)))).bind fun ag => (if aZ = true then (if (d.length : Int) = 3 then (if 0 < (d.length : Int) then ((dom_Dom_Size.f ((rd_T57 d 0).f0) ((rd_T57 d 0).f1) ((rd_T57 d 0).f2) ((rd_T57 d 0).f3) ((rd_T57 d 0).f4)).bind fun V => (if V = 2 then (if 2 < (d.length : Int) then ((dom_Dom_List.f k ((rd_T57 d 2).f0) ((rd_T57 d 2).f1) ((rd_T57 d 2).f2) ((rd_T57 d 2).f3) ((rd_T57 d 2).f4)).bind fun Y => ((slices_Equal_int_int.f k Y (([3] : List Int))).bind fun Z => (if Z = true then (some (!ag.2)) else (none)))) else (none)) else (none))) else (none)) else (none)) else (none))) = some r := h2_ H au
 have a3 := a_ au
 clear au
 obtain ⟨a0, av⟩ : ∃ y_ : List (S57), y_ = (([(⟨b, c, l, m, n⟩ : S57), (⟨b, c, l, m, n⟩ : S57), (⟨b, c, l, m, n⟩ : S57)] : List (S57))) := ⟨_, rfl⟩
 replace H : ((alldiff_Filter.f k 17 Q ([] : List Int) ([] : List Int) ([] : List Int) ([] : List Int) 0 ([] : List (List Int)) a0).bind fun ag => (if aZ = true then (if (d.length : Int) = 3 then (if 0 < (d.length : Int) then ((dom_Dom_Size.f ((rd_T57 d 0).f0) ((rd_T57 d 0).f1) ((rd_T57 d 0).f2) ((rd_T57 d 0).f3) ((rd_T57 d 0).f4)).bind fun V => (if V = 2 then (if 2 < (d.length : Int) then ((dom_Dom_List.f k ((rd_T57 d 2).f0) ((rd_T57 d 2).f1) ((rd_T57 d 2).f2) ((rd_T57 d 2).f3) ((rd_T57 d 2).f4)).bind fun Y => ((slices_Equal_int_int.f k Y (([3] : List Int))).bind fun Z => (if Z = true then (some (!ag.2)) else (none)))) else (none)) else (none))) else (none)) else (none)) else (none))) = some r := h2_ H av
 have a4 := a_ av
 clear av
 replace H := bs_.mp H
 obtain ⟨⟨bk, a8⟩, bh, H⟩ := H
 try dsimp only at H
 have A4 := a_ bh
 clear bh
 by_cases c5 : aZ = true
 rotate_left
 ·
  replace c5 := bf_.mpr c5
  subst c5
  have H1 : (none) = some r := by rw [ig_ (show ¬ (false = true) by decide)] at H; exact H
  clear H
  have H := H1
  clear H1
  exact ab_ H
 subst c5
 rw [ip_ rfl] at H
 by_cases c6 : (d.length : Int) = 3
 rotate_left
 ·
  rw [ig_ c6] at H
  exact ab_ H
 rw [ip_ c6] at H
 have c6b0 : ((d.length : Int) == 3) = true := beq_iff_eq.mpr c6
 have c6b1 : ((d.length : Int) != 3) = false := bn_.mpr c6
 clear c6
 by_cases c7 : 0 < (d.length : Int)
 rotate_left
 ·
  rw [ig_ c7] at H
  exact ab_ H
 rw [ip_ c7] at H
 have c7b0 : decide (0 < (d.length : Int)) = true := dt_ c7
 have c7b1 : decide (0 < d.length) = true := dt_ (by omega)
 clear c7
 replace H := bo_ H
 obtain ⟨V, A8, H⟩ := H
 try dsimp only at H
 by_cases c9 : V = 2
 rotate_left
 ·
  rw [ig_ c9] at H
  exact ab_ H
 rw [ip_ c9] at H
 have c9b0 : (V == 2) = true := beq_iff_eq.mpr c9
 have c9b1 : (V != 2) = false := bn_.mpr c9
 clear c9
 by_cases c10 : 2 < (d.length : Int)
 rotate_left
 ·
  rw [ig_ c10] at H
  exact ab_ H
 rw [ip_ c10] at H
 have c10b0 : decide (2 < (d.length : Int)) = true := dt_ c10
 have c10b1 : decide (2 < d.length) = true := dt_ (by omega)
 clear c10
 replace H := bo_ H
 obtain ⟨Y, bA, H⟩ := H
 try dsimp only at H
 obtain ⟨a9, aw⟩ : ∃ y_ : List Int, y_ = (([3] : List Int)) := ⟨_, rfl⟩
 replace H : ((slices_Equal_int_int.f k Y a9).bind fun Z => (if Z = true then (some (!a8)) else (none))) = some r := h2_ H aw
 have a5 := a_ aw
 clear aw
 replace H := bo_ H
 obtain ⟨Z, bB, H⟩ := H
 try dsimp only at H
 by_cases c13 : Z = true
 rotate_left
 ·
  replace c13 := bf_.mpr c13
  subst c13
  have H1 : (none) = some r := by rw [ig_ (show ¬ (false = true) by decide)] at H; exact H
  clear H
  have H := H1
  clear H1
  exact ab_ H
 subst c13
 rw [ip_ rfl] at H
 obtain rfl := si_ H
 go_enter Tryz.func10, Tryz.ntmps10
 go_wp2_with (first | ((with_reducible refine gate_callee (f := 26) rfl ?_); refine goesL_ (some 10) rfl rfl Tryz.func26 kr_ rfl #[.int .i64 1, .int .i64 2] rfl ar_ ?_; (with_reducible refine (dom_Range.calls k 1 2 b c l m n bi _ ?_ A1.out).mono ?_); exact ca_ (HRtab.out); rintro e w14 ⟨bP, rfl, K, hb⟩; refine ⟨_, rfl, ?_⟩; have u := a_ (Kd.V_lower (vm_ (ok' := fun a => True) K (fun a hk_ => trivial)) (bz_ bel_)); replace HB := hq_ hb; clear hb K) | ((with_reducible refine gate_dst (N := 1) rfl ?_); (try (refine gate_guard (by rfl) ?_; dsimp only)); refine bxe_ (N := 1) (cs := #[.int .i64 0, .slice none 0 0, .int .i64 0, .int .i64 0, .int .i64 0]) (t := 57) ?_; intro q hg w15 hbox hb; replace u := a_ (vb_ (Kd.V_elderB (vV_ u.out) q (Nat.le_of_eq hg.symm)) hb); have x := a_ (hbox); have ba := a_ (by rw [hg]; exact (bz_ bel_) : w.heap.size ≤ q); have bE := ba; replace HB := hq_ hb; clear hb hbox hg; obtain ⟨_, _, _, _, _, _, _, _, _, _⟩ := cel5_ x.out; obtain ⟨E, F, bl⟩ := Kd.V_slice u.out; subst bl) | ((with_reducible refine gate_callee (f := 26) rfl ?_); refine goesL_ (some 14) rfl rfl Tryz.func26 kr_ rfl #[.int .i64 1, .int .i64 3] rfl ar_ ?_; (with_reducible refine (dom_Range.calls k 1 3 O U X ac af bj _ ?_ A2.out).mono ?_); exact cb_ HRtab.out bel_; rintro e w18 ⟨bQ, rfl, K, hb⟩; refine ⟨_, rfl, ?_⟩; replace u := a_ (vb_ (by refine vV_ ?_; exact (vm_ (fV_ (fV_ (fV_ (fV_ (fV_ (vm_ u.out (fun a hk => (⟨hk, hk.2⟩ : _ ∧ a ≠ q)))))))) (fun _ h_ => h_.1))) hb); have ah := a_ (Kd.V_lower (vm_ (ok' := fun a => a ≠ q) K (fun a hk_ => (Kd.freshB (g := q) (o := .cells #[.int .i64 b, .slice E c.length F, .int .i64 l, .int .i64 m, .int .i64 n] 57 (0, 0)) (by refine bk_ ?_; refine bu_ (cs := #[.int .i64 b, .slice E c.length F, .int .i64 l, .int .i64 m, .int .i64 0]) ?_ 4 _ rfl; refine bk_ ?_; refine bu_ (cs := #[.int .i64 b, .slice E c.length F, .int .i64 l, .int .i64 0, .int .i64 0]) ?_ 3 _ rfl; refine bk_ ?_; refine bu_ (cs := #[.int .i64 b, .slice E c.length F, .int .i64 0, .int .i64 0, .int .i64 0]) ?_ 2 _ rfl; refine bk_ ?_; refine bu_ (cs := #[.int .i64 b, .slice none 0 0, .int .i64 0, .int .i64 0, .int .i64 0]) ?_ 1 _ rfl; refine bk_ ?_; refine bu_ (cs := #[.int .i64 0, .slice none 0 0, .int .i64 0, .int .i64 0, .int .i64 0]) ?_ 0 _ rfl; refine bk_ ?_; exact x.out) a hk_))) (bz_ bel_)); replace x := a_ (bb_ (g := q) (o := .cells #[.int .i64 b, .slice E c.length F, .int .i64 l, .int .i64 m, .int .i64 n] 57 (0, 0)) (by refine bk_ ?_; refine bu_ (cs := #[.int .i64 b, .slice E c.length F, .int .i64 l, .int .i64 m, .int .i64 0]) ?_ 4 _ rfl; refine bk_ ?_; refine bu_ (cs := #[.int .i64 b, .slice E c.length F, .int .i64 l, .int .i64 0, .int .i64 0]) ?_ 3 _ rfl; refine bk_ ?_; refine bu_ (cs := #[.int .i64 b, .slice E c.length F, .int .i64 0, .int .i64 0, .int .i64 0]) ?_ 2 _ rfl; refine bk_ ?_; refine bu_ (cs := #[.int .i64 b, .slice none 0 0, .int .i64 0, .int .i64 0, .int .i64 0]) ?_ 1 _ rfl; refine bk_ ?_; refine bu_ (cs := #[.int .i64 0, .slice none 0 0, .int .i64 0, .int .i64 0, .int .i64 0]) ?_ 0 _ rfl; refine bk_ ?_; exact x.out) hb); replace HB := hq_ hb; clear hb K) | ((with_reducible refine gate_dst (N := 3) rfl ?_); (try (refine gate_guard (by rfl) ?_; dsimp only)); refine bxe_ (N := 3) (cs := #[.int .i64 0, .slice none 0 0, .int .i64 0, .int .i64 0, .int .i64 0]) (t := 57) ?_; intro s hg w19 hbox hb; replace u := a_ (vb_ (Kd.V_elderB (vV_ u.out) s (Nat.le_of_eq hg.symm)) hb); replace ah := a_ (vb_ (Kd.V_elderB (vV_ ah.out) s (Nat.le_of_eq hg.symm)) hb); have I := a_ (hbox); have bb := a_ (by rw [hg]; exact (bz_ bel_) : w.heap.size ≤ s); have bF := bb; replace HB := hq_ hb; have J := a_ ((by rw [hg]; exact Nat.ne_of_lt (blk_lt (bk_ x.out)) : q ≠ s)); have aY := a_ ((by rw [hg]; exact Nat.ne_of_gt (blk_lt (bk_ x.out)) : s ≠ q)); replace x := a_ (bq_ x.out hb); clear hb hbox hg; have bG := aY.out; have bH := J.out; obtain ⟨_, _, _, _, _, _, _, _, _, _⟩ := cel5_ I.out; obtain ⟨ax, ay, bm⟩ := Kd.V_slice ah.out; subst bm) | ((with_reducible refine gate_dst (N := 18) rfl ?_); (try (refine gate_guard (by rfl) ?_; dsimp only)); refine Kd.R_lit (Kd.int .i64) _ 3 ?hg (N := 18) ?hd (xs := ([0, 1, 2] : List Int)) (inner := [.int .i64 0, .int .i64 1, .int .i64 2]) (ok := fun _ => True) (okp := fun _ => True) ?hr ?hp (fun _ hk => hk) trivial (Below.refl _ _) (lr_ _) (by simp) ?_; (case hd => rfl); (case hg => rfl); (case hr => first | (go_simp; done) | (go_simp; rfl)); (case hp => exact (Reps.one (show Kd.M (Kd.int .i64) _ _ _ 0 [.int .i64 0] from rfl) (Reps.one (show Kd.M (Kd.int .i64) _ _ _ 1 [.int .i64 1] from rfl) (Reps.one (show Kd.M (Kd.int .i64) _ _ _ 2 [.int .i64 2] from rfl) (Reps.none _ _))))); intro bR w23 ap hb hg_ hnew_; clear hg_ hnew_; (first | rw [← a1.out] at ap | (simp only [Int.reduceToNat] at ap; rw [← a1.out] at ap)); replace u := a_ (Kd.V_elder' (by refine vV_ ?_; exact (vm_ (fV_ (fV_ (fV_ (fV_ (fV_ (vm_ u.out (fun a hk => (⟨hk, hk.2⟩ : _ ∧ a ≠ s)))))))) (fun _ h_ => h_.1))) (rs_ ap) hb); replace ah := a_ (Kd.V_elder' (by refine vV_ ?_; exact (vm_ (fV_ (fV_ (fV_ (fV_ (fV_ (vm_ ah.out (fun a hk => (⟨hk, hk.2⟩ : _ ∧ a ≠ s)))))))) (fun _ h_ => h_.1))) (rs_ ap) hb); have v := a_ (Kd.R_lower ap (bz_ bel_)); replace x := a_ (bb_ (g := q) (o := .cells #[.int .i64 b, .slice E c.length F, .int .i64 l, .int .i64 m, .int .i64 n] 57 (0, 0)) (by refine bk_ ?_; refine blk_far ?_ J.out _; refine bk_ ?_; refine blk_far ?_ J.out _; refine bk_ ?_; refine blk_far ?_ J.out _; refine bk_ ?_; refine blk_far ?_ J.out _; refine bk_ ?_; refine blk_far ?_ J.out _; refine bk_ ?_; exact x.out) hb); replace I := a_ (bb_ (g := s) (o := .cells #[.int .i64 O, .slice ax U.length ay, .int .i64 X, .int .i64 ac, .int .i64 af] 57 (0, 0)) (by refine bk_ ?_; refine bu_ (cs := #[.int .i64 O, .slice ax U.length ay, .int .i64 X, .int .i64 ac, .int .i64 0]) ?_ 4 _ rfl; refine bk_ ?_; refine bu_ (cs := #[.int .i64 O, .slice ax U.length ay, .int .i64 X, .int .i64 0, .int .i64 0]) ?_ 3 _ rfl; refine bk_ ?_; refine bu_ (cs := #[.int .i64 O, .slice ax U.length ay, .int .i64 0, .int .i64 0, .int .i64 0]) ?_ 2 _ rfl; refine bk_ ?_; refine bu_ (cs := #[.int .i64 O, .slice none 0 0, .int .i64 0, .int .i64 0, .int .i64 0]) ?_ 1 _ rfl; refine bk_ ?_; refine bu_ (cs := #[.int .i64 0, .slice none 0 0, .int .i64 0, .int .i64 0, .int .i64 0]) ?_ 0 _ rfl; refine bk_ ?_; exact I.out) hb); replace HB := hq_ hb; clear hb ap; obtain ⟨A, B, bn⟩ := Kd.R_slice v.out; subst bn; obtain ⟨_, _, _, _, _, _, _, _, _, _⟩ := cel5_ x.out; obtain ⟨_, _, _, _, _, _, _, _, _, _⟩ := cel5_ I.out) | ((with_reducible refine gate_dst (N := 23) rfl ?_); (try (refine gate_guard (by rfl) ?_; dsimp only)); refine Kd.N_lit k57 _ 57 ?hg (N' := 23) ?hd (xs := ([(⟨b, c, l, m, n⟩ : S57), (⟨b, c, l, m, n⟩ : S57), (⟨O, U, X, ac, af⟩ : S57)] : List (S57))) (inner := [.int .i64 b, .slice E c.length F, .int .i64 l, .int .i64 m, .int .i64 n, .int .i64 b, .slice E c.length F, .int .i64 l, .int .i64 m, .int .i64 n, .int .i64 O, .slice ax U.length ay, .int .i64 X, .int .i64 ac, .int .i64 af]) (ok := (fun a => some a ≠ (.slice A y.length B : Value).ownBlock ∧ a ≠ q ∧ a ≠ s)) (okp := (fun a => some a ≠ (.slice A y.length B : Value).ownBlock ∧ a ≠ q ∧ a ≠ s)) ?hr ?hp (fun _ hk => hk) ((show ∀ a, w23.heap.size ≤ a → (fun a => some a ≠ (.slice A y.length B : Value).ownBlock ∧ a ≠ q ∧ a ≠ s) a from fun a hk => ⟨fr_ (rl_ (vR_ v.out)) a hk, Kd.freshB (bk_ x.out) a hk, Kd.freshB (bk_ I.out) a hk⟩) _ (lr_ _)) (Below.refl _ _) (lr_ _) (by simp) ?_; (case hd => rfl); (case hg => rfl); (case hr => first | (go_simp; done) | (go_simp; rfl)); (case hp => exact (Reps.c5 (show Kd.FK k57 _ _ (⟨b, c, l, m, n⟩ : S57) [.int .i64 b, .slice E c.length F, .int .i64 l, .int .i64 m, .int .i64 n] from (k57_mkF _ _ (⟨b, c, l, m, n⟩ : S57) (Kd.V_reads' (vm_ (ok' := (fun a => some a ≠ (.slice A y.length B : Value).ownBlock ∧ a ≠ q ∧ a ≠ s)) (u.out) (fun a hk => ⟨hk.2, ⟨hk.1.1.2, hk.1.2⟩⟩))).2.1 (Kd.V_F (vm_ (ok' := (fun a => some a ≠ (.slice A y.length B : Value).ownBlock ∧ a ≠ q ∧ a ≠ s)) (u.out) (fun a hk => ⟨hk.2, ⟨hk.1.1.2, hk.1.2⟩⟩))))) (Reps.c5 (show Kd.FK k57 _ _ (⟨b, c, l, m, n⟩ : S57) [.int .i64 b, .slice E c.length F, .int .i64 l, .int .i64 m, .int .i64 n] from (k57_mkF _ _ (⟨b, c, l, m, n⟩ : S57) (Kd.V_reads' (vm_ (ok' := (fun a => some a ≠ (.slice A y.length B : Value).ownBlock ∧ a ≠ q ∧ a ≠ s)) (u.out) (fun a hk => ⟨hk.2, ⟨hk.1.1.2, hk.1.2⟩⟩))).2.1 (Kd.V_F (vm_ (ok' := (fun a => some a ≠ (.slice A y.length B : Value).ownBlock ∧ a ≠ q ∧ a ≠ s)) (u.out) (fun a hk => ⟨hk.2, ⟨hk.1.1.2, hk.1.2⟩⟩))))) (Reps.c5 (show Kd.FK k57 _ _ (⟨O, U, X, ac, af⟩ : S57) [.int .i64 O, .slice ax U.length ay, .int .i64 X, .int .i64 ac, .int .i64 af] from (k57_mkF _ _ (⟨O, U, X, ac, af⟩ : S57) (Kd.V_reads' (vm_ (ok' := (fun a => some a ≠ (.slice A y.length B : Value).ownBlock ∧ a ≠ q ∧ a ≠ s)) (ah.out) (fun a hk => ⟨hk.2, ⟨hk.1.1, hk.1.2⟩⟩))).2.1 (Kd.V_F (vm_ (ok' := (fun a => some a ≠ (.slice A y.length B : Value).ownBlock ∧ a ≠ q ∧ a ≠ s)) (ah.out) (fun a hk => ⟨hk.2, ⟨hk.1.1, hk.1.2⟩⟩))))) (Reps.none _ _))))); intro bS w28 az hb hg_ hnew_; clear hg_ hnew_; (first | rw [← a2.out] at az | (simp only [Int.reduceToNat] at az; rw [← a2.out] at az)); replace u := a_ (Kd.V_elder' (vV_ u.out) (Kd.N_base az) hb); replace v := a_ (rb_ (vR_ v.out) hb); have W := a_ (Kd.N_lower az (bz_ bel_)); replace x := a_ (bq_ x.out hb); replace I := a_ (bq_ I.out hb); replace HB := hq_ hb; clear hb az; obtain ⟨aa, ab, bo⟩ := Kd.N_slice W.out; subst bo) | ((with_reducible refine gate_callee (f := 11) rfl ?_); refine goesL_ (some 24) rfl rfl Tryz.func11 kr_ rfl #[.agg #[.int .i64 17, .slice A y.length B, .slice none 0 0, .slice none 0 0, .slice none 0 0, .slice none 0 0, .int .i64 0, .slice none 0 0], .slice aa P.length ab] rfl ar_ ?_; (refine (alldiff_Filter.calls k 17 _ _ y _ _ ([] : List Int) _ _ ([] : List Int) _ _ ([] : List Int) _ _ ([] : List Int) 0 _ _ ([] : List (List Int)) _ _ P d true _ ?side1 ?side2 ?side3 ?side4 ?side5 ?side6 ?side7 ?side8 ?side9 ?side10 ?side11 ?side12 ?side13 ?side14 ?side15 A3.out).mono ?_); (case side1 => exact ca_ ((rr_ v.out).2.2)); (case side2 => exact (rr_ v.out).2.1); (case side3 => exact Kd.C_nil _ _); (case side4 => exact lr_ _); (case side5 => exact Kd.C_nil _ _); (case side6 => exact lr_ _); (case side7 => exact Kd.C_nil _ _); (case side8 => exact lr_ _); (case side9 => exact Kd.C_nil _ _); (case side10 => exact lr_ _); (case side11 => exact Kd.C_nil _ _); (case side12 => exact lr_ _); (case side13 => exact ca_ ((Kd.N_reads' W.out).2.2)); (case side14 => exact (Kd.N_reads' W.out).2.1); (case side15 => exact ca_ ((cb_ HRtab.out HB.out))); rintro e w31 ⟨ai, rfl, K, hb⟩; refine ⟨_, rfl, ?_⟩; replace u := a_ (Kd.V_elder' (vV_ u.out) (Kd.N_base K) hb); have z := a_ (Kd.N_lower (nm_ (ok' := fun a => some a ≠ (.slice A y.length B : Value).ownBlock ∧ some a ≠ (.slice aa P.length ab : Value).ownBlock ∧ a ≠ q ∧ a ≠ s) K (fun a hk_ => ⟨(fr_ (rl_ (vR_ v.out)) a hk_), (fr_ (Kd.N_lt (vN_ W.out)) a hk_), (Kd.freshB (bk_ x.out) a hk_), (Kd.freshB (bk_ I.out) a hk_)⟩)) (bz_ bel_)); replace v := a_ (rb_ (vR_ v.out) hb); replace W := a_ (Kd.N_elder' (vN_ W.out) (Kd.N_base K) hb); replace x := a_ (bq_ x.out hb); replace I := a_ (bq_ I.out hb); replace HB := hq_ hb; clear hb K) | ((with_reducible refine gate_dst (N := 28) rfl ?_); (try (refine gate_guard (by rfl) ?_; dsimp only)); refine Kd.R_lit (Kd.int .i64) _ 3 ?hg (N := 28) ?hd (xs := ([0, 1, 2] : List Int)) (inner := [.int .i64 0, .int .i64 1, .int .i64 2]) (ok := fun _ => True) (okp := fun _ => True) ?hr ?hp (fun _ hk => hk) trivial (Below.refl _ _) (lr_ _) (by simp) ?_; (case hd => rfl); (case hg => rfl); (case hr => first | (go_simp; done) | (go_simp; rfl)); (case hp => exact (Reps.one (show Kd.M (Kd.int .i64) _ _ _ 0 [.int .i64 0] from rfl) (Reps.one (show Kd.M (Kd.int .i64) _ _ _ 1 [.int .i64 1] from rfl) (Reps.one (show Kd.M (Kd.int .i64) _ _ _ 2 [.int .i64 2] from rfl) (Reps.none _ _))))); intro bT w32 aj hb hg_ hnew_; clear hg_ hnew_; (first | rw [← a3.out] at aj | (simp only [Int.reduceToNat] at aj; rw [← a3.out] at aj)); replace u := a_ (Kd.V_elder' (vV_ u.out) (rs_ aj) hb); replace W := a_ (Kd.N_elder' (vN_ W.out) (rs_ aj) hb); replace z := a_ (Kd.N_elder' (vN_ z.out) (rs_ aj) hb); have G := a_ (Kd.R_lower (Kd.R_new' aj (rl_ (vR_ v.out))) (bz_ bel_)); replace v := a_ (Kd.R_elder' (vR_ v.out) (rs_ aj) hb); replace x := a_ (bq_ x.out hb); replace I := a_ (bq_ I.out hb); replace HB := hq_ hb; clear hb aj; obtain ⟨ad, ae, bp⟩ := Kd.R_slice G.out; subst bp; obtain ⟨_, _, _, _, _, _, _, _, _, _⟩ := cel5_ x.out) | ((with_reducible refine gate_dst (N := 33) rfl ?_); (try (refine gate_guard (by rfl) ?_; dsimp only)); refine Kd.N_lit k57 _ 57 ?hg (N' := 33) ?hd (xs := ([(⟨b, c, l, m, n⟩ : S57), (⟨b, c, l, m, n⟩ : S57), (⟨b, c, l, m, n⟩ : S57)] : List (S57))) (inner := [.int .i64 b, .slice E c.length F, .int .i64 l, .int .i64 m, .int .i64 n, .int .i64 b, .slice E c.length F, .int .i64 l, .int .i64 m, .int .i64 n, .int .i64 b, .slice E c.length F, .int .i64 l, .int .i64 m, .int .i64 n]) (ok := (fun a => some a ≠ (.slice A y.length B : Value).ownBlock ∧ some a ≠ (.slice aa P.length ab : Value).ownBlock ∧ some a ≠ ai.ownBlock ∧ some a ≠ (.slice ad Q.length ae : Value).ownBlock ∧ a ≠ q ∧ a ≠ s)) (okp := (fun a => some a ≠ (.slice A y.length B : Value).ownBlock ∧ some a ≠ (.slice aa P.length ab : Value).ownBlock ∧ some a ≠ ai.ownBlock ∧ some a ≠ (.slice ad Q.length ae : Value).ownBlock ∧ a ≠ q ∧ a ≠ s)) ?hr ?hp (fun _ hk => hk) ((show ∀ a, w32.heap.size ≤ a → (fun a => some a ≠ (.slice A y.length B : Value).ownBlock ∧ some a ≠ (.slice aa P.length ab : Value).ownBlock ∧ some a ≠ ai.ownBlock ∧ some a ≠ (.slice ad Q.length ae : Value).ownBlock ∧ a ≠ q ∧ a ≠ s) a from fun a hk => ⟨fr_ (rl_ (vR_ v.out)) a hk, fr_ (Kd.N_lt (vN_ W.out)) a hk, fr_ (Kd.N_lt (vN_ z.out)) a hk, fr_ (rl_ (vR_ G.out)) a hk, Kd.freshB (bk_ x.out) a hk, Kd.freshB (bk_ I.out) a hk⟩) _ (lr_ _)) (Below.refl _ _) (lr_ _) (by simp) ?_; (case hd => rfl); (case hg => rfl); (case hr => first | (go_simp; done) | (go_simp; rfl)); (case hp => exact (Reps.c5 (show Kd.FK k57 _ _ (⟨b, c, l, m, n⟩ : S57) [.int .i64 b, .slice E c.length F, .int .i64 l, .int .i64 m, .int .i64 n] from (k57_mkF _ _ (⟨b, c, l, m, n⟩ : S57) (Kd.V_reads' (vm_ (ok' := (fun a => some a ≠ (.slice A y.length B : Value).ownBlock ∧ some a ≠ (.slice aa P.length ab : Value).ownBlock ∧ some a ≠ ai.ownBlock ∧ some a ≠ (.slice ad Q.length ae : Value).ownBlock ∧ a ≠ q ∧ a ≠ s)) (u.out) (fun a hk => ⟨hk.1.1.1.2, ⟨hk.1.1.2, ⟨hk.1.2, ⟨hk.2, ⟨hk.1.1.1.1.1.2, hk.1.1.1.1.2⟩⟩⟩⟩⟩))).2.1 (Kd.V_F (vm_ (ok' := (fun a => some a ≠ (.slice A y.length B : Value).ownBlock ∧ some a ≠ (.slice aa P.length ab : Value).ownBlock ∧ some a ≠ ai.ownBlock ∧ some a ≠ (.slice ad Q.length ae : Value).ownBlock ∧ a ≠ q ∧ a ≠ s)) (u.out) (fun a hk => ⟨hk.1.1.1.2, ⟨hk.1.1.2, ⟨hk.1.2, ⟨hk.2, ⟨hk.1.1.1.1.1.2, hk.1.1.1.1.2⟩⟩⟩⟩⟩))))) (Reps.c5 (show Kd.FK k57 _ _ (⟨b, c, l, m, n⟩ : S57) [.int .i64 b, .slice E c.length F, .int .i64 l, .int .i64 m, .int .i64 n] from (k57_mkF _ _ (⟨b, c, l, m, n⟩ : S57) (Kd.V_reads' (vm_ (ok' := (fun a => some a ≠ (.slice A y.length B : Value).ownBlock ∧ some a ≠ (.slice aa P.length ab : Value).ownBlock ∧ some a ≠ ai.ownBlock ∧ some a ≠ (.slice ad Q.length ae : Value).ownBlock ∧ a ≠ q ∧ a ≠ s)) (u.out) (fun a hk => ⟨hk.1.1.1.2, ⟨hk.1.1.2, ⟨hk.1.2, ⟨hk.2, ⟨hk.1.1.1.1.1.2, hk.1.1.1.1.2⟩⟩⟩⟩⟩))).2.1 (Kd.V_F (vm_ (ok' := (fun a => some a ≠ (.slice A y.length B : Value).ownBlock ∧ some a ≠ (.slice aa P.length ab : Value).ownBlock ∧ some a ≠ ai.ownBlock ∧ some a ≠ (.slice ad Q.length ae : Value).ownBlock ∧ a ≠ q ∧ a ≠ s)) (u.out) (fun a hk => ⟨hk.1.1.1.2, ⟨hk.1.1.2, ⟨hk.1.2, ⟨hk.2, ⟨hk.1.1.1.1.1.2, hk.1.1.1.1.2⟩⟩⟩⟩⟩))))) (Reps.c5 (show Kd.FK k57 _ _ (⟨b, c, l, m, n⟩ : S57) [.int .i64 b, .slice E c.length F, .int .i64 l, .int .i64 m, .int .i64 n] from (k57_mkF _ _ (⟨b, c, l, m, n⟩ : S57) (Kd.V_reads' (vm_ (ok' := (fun a => some a ≠ (.slice A y.length B : Value).ownBlock ∧ some a ≠ (.slice aa P.length ab : Value).ownBlock ∧ some a ≠ ai.ownBlock ∧ some a ≠ (.slice ad Q.length ae : Value).ownBlock ∧ a ≠ q ∧ a ≠ s)) (u.out) (fun a hk => ⟨hk.1.1.1.2, ⟨hk.1.1.2, ⟨hk.1.2, ⟨hk.2, ⟨hk.1.1.1.1.1.2, hk.1.1.1.1.2⟩⟩⟩⟩⟩))).2.1 (Kd.V_F (vm_ (ok' := (fun a => some a ≠ (.slice A y.length B : Value).ownBlock ∧ some a ≠ (.slice aa P.length ab : Value).ownBlock ∧ some a ≠ ai.ownBlock ∧ some a ≠ (.slice ad Q.length ae : Value).ownBlock ∧ a ≠ q ∧ a ≠ s)) (u.out) (fun a hk => ⟨hk.1.1.1.2, ⟨hk.1.1.2, ⟨hk.1.2, ⟨hk.2, ⟨hk.1.1.1.1.1.2, hk.1.1.1.1.2⟩⟩⟩⟩⟩))))) (Reps.none _ _))))); intro bU w36 aA hb hg_ hnew_; clear hg_ hnew_; (first | rw [← a4.out] at aA | (simp only [Int.reduceToNat] at aA; rw [← a4.out] at aA)); replace v := a_ (rb_ (vR_ v.out) hb); replace z := a_ (Kd.N_elder' (vN_ z.out) (Kd.N_base aA) hb); replace G := a_ (rb_ (vR_ G.out) hb); have aU := a_ (Kd.N_lower aA (bz_ bel_)); replace HB := hq_ hb; clear hb aA; obtain ⟨bq, br, bs⟩ := Kd.N_slice aU.out; subst bs) | ((with_reducible refine gate_callee (f := 11) rfl ?_); refine goesL_ (some 34) rfl rfl Tryz.func11 kr_ rfl #[.agg #[.int .i64 17, .slice ad Q.length ae, .slice none 0 0, .slice none 0 0, .slice none 0 0, .slice none 0 0, .int .i64 0, .slice none 0 0], .slice bq a0.length br] rfl ar_ ?_; (refine (alldiff_Filter.calls k 17 _ _ Q _ _ ([] : List Int) _ _ ([] : List Int) _ _ ([] : List Int) _ _ ([] : List Int) 0 _ _ ([] : List (List Int)) _ _ a0 bk a8 _ ?side1 ?side2 ?side3 ?side4 ?side5 ?side6 ?side7 ?side8 ?side9 ?side10 ?side11 ?side12 ?side13 ?side14 ?side15 A4.out).mono ?_); (case side1 => exact ca_ ((rr_ G.out).2.2)); (case side2 => exact (rr_ G.out).2.1); (case side3 => exact Kd.C_nil _ _); (case side4 => exact lr_ _); (case side5 => exact Kd.C_nil _ _); (case side6 => exact lr_ _); (case side7 => exact Kd.C_nil _ _); (case side8 => exact lr_ _); (case side9 => exact Kd.C_nil _ _); (case side10 => exact lr_ _); (case side11 => exact Kd.C_nil _ _); (case side12 => exact lr_ _); (case side13 => exact ca_ ((Kd.N_reads' aU.out).2.2)); (case side14 => exact (Kd.N_reads' aU.out).2.1); (case side15 => exact ca_ ((cb_ HRtab.out HB.out))); rintro e w39 ⟨bV, rfl, K, hb⟩; refine ⟨_, rfl, ?_⟩; replace v := a_ (rb_ (vR_ v.out) hb); replace z := a_ (Kd.N_elder' (vN_ z.out) (Kd.N_base K) hb); replace G := a_ (rb_ (vR_ G.out) hb); replace HB := hq_ hb; clear hb K; obtain ⟨bW, bX, bu⟩ := Kd.N_slice z.out; subst bu; have p332 : 0 ≤ (0 : Int) := (by omega); have aV : 0 < (d.length : Int) := dq_; obtain ⟨bc, bC, c332_1, bv, aB, ak, aC, aD, aE, aK, aL⟩ := at_T57 (Kd.N_reads' z.out).2.2 0 p332 aV; cases bv; obtain ⟨ce332, hce332, hMe332, hcc332⟩ := Kd.N_get z.out z57 0 p332 (by first | exact aV | exact dq_ | (have e_ := (Kd.N_reads' z.out).1; omega)); obtain ⟨ua332_1, uc332_1, rfl, aM, aN⟩ := k57_openF hMe332; have al := hcc332 1 _ rfl; rw [add_field _ _ 1 (by omega)] at al; replace al := si_ (al.symm.trans ak); injection al with hva_ hvn_ hvc_; rw [hva_] at aN; rw [hvc_] at aM; clear hva_ hvn_ hvc_ aN aM; clear hcc332 hce332; have bI : (0 < d.length) = True := et_ (by omega); (try rw [t0_] at aB); (try rw [n05_] at aB); (try rw [Addr.add_zero'] at aB); (try rw [t0_] at ak); (try rw [n05_] at ak); (try rw [Addr.add_zero'] at ak); (try rw [t0_] at aC); (try rw [n05_] at aC); (try rw [Addr.add_zero'] at aC); (try rw [t0_] at aD); (try rw [n05_] at aD); (try rw [Addr.add_zero'] at aD); (try rw [t0_] at aE); (try rw [n05_] at aE); (try rw [Addr.add_zero'] at aE); have aO := a_ aL; have a6 := a_ aK; clear aL aK; replace p332 := et_ p332; replace aV := et_ aV) | (go_at_call 27; (with_reducible refine (dom_Dom_Size.calls ((rd_T57 d 0).f0) _ _ ((rd_T57 d 0).f1) ((rd_T57 d 0).f2) ((rd_T57 d 0).f3) ((rd_T57 d 0).f4) V _ ?side1 ?side2 A8.out).mono ?_); (case side1 => repeat (first | exact (by repeat (first | (with_reducible exact aO.out) | (with_reducible refine Kd.C_alloc ?_ _) | (with_reducible refine Kd.C_drewN ?_ _) | (with_reducible refine Kd.C_drew ?_) | exact aO.out)) | (with_reducible refine Kd.C_alloc ?_ _) | (with_reducible refine Kd.C_drewN ?_ _) | (with_reducible refine Kd.C_drew ?_))); (case side2 => exact a6.out); rintro e w41 ⟨rfl, hb⟩; replace v := a_ (rb_ (vR_ v.out) hb); replace z := a_ (Kd.N_below (vN_ z.out) hb); replace G := a_ (rb_ (vR_ G.out) hb); replace HB := hq_ hb; clear hb; have p334 : 0 ≤ (2 : Int) := (by omega); have aW : 2 < (d.length : Int) := dq_; obtain ⟨bd, bD, c334_1, bw, aF, am, aG, aH, aI, aP, aQ⟩ := at_T57 (Kd.N_reads' z.out).2.2 2 p334 aW; obtain rfl : bc = bd := (by injection bw); obtain ⟨ce334, hce334, hMe334, hcc334⟩ := Kd.N_get z.out z57 2 p334 (by first | exact aW | exact dq_ | (have e_ := (Kd.N_reads' z.out).1; omega)); obtain ⟨ua334_1, uc334_1, rfl, aR, aS⟩ := k57_openF hMe334; have an := hcc334 1 _ rfl; rw [add_field _ _ 1 (by omega)] at an; replace an := si_ (an.symm.trans am); injection an with hva_ hvn_ hvc_; rw [hva_] at aS; rw [hvc_] at aR; clear hva_ hvn_ hvc_ aS aR; clear hcc334 hce334; (try simp only [t2_, Nat.reduceMul, Nat.reduceEqDiff, Go.Addr.add, ↓reduceIte] at aF); (try simp only [t2_, Nat.reduceMul, Nat.reduceEqDiff, Go.Addr.add, ↓reduceIte] at am); (try simp only [t2_, Nat.reduceMul, Nat.reduceEqDiff, Go.Addr.add, ↓reduceIte] at aG); (try simp only [t2_, Nat.reduceMul, Nat.reduceEqDiff, Go.Addr.add, ↓reduceIte] at aH); (try simp only [t2_, Nat.reduceMul, Nat.reduceEqDiff, Go.Addr.add, ↓reduceIte] at aI); have bJ : (2 < d.length) = True := et_ (by omega); (try rw [t2_] at aF); (try rw [n25_] at aF); (try rw [t2_] at am); (try rw [n25_] at am); (try rw [t2_] at aG); (try rw [n25_] at aG); (try rw [t2_] at aH); (try rw [n25_] at aH); (try rw [t2_] at aI); (try rw [n25_] at aI); have aT := a_ aQ; have a7 := a_ aP; clear aQ aP; replace p334 := et_ p334; replace aW := et_ aW) | (go_at_call 21; (with_reducible refine (dom_Dom_List.calls k ((rd_T57 d 2).f0) _ _ ((rd_T57 d 2).f1) ((rd_T57 d 2).f2) ((rd_T57 d 2).f3) ((rd_T57 d 2).f4) Y _ ?side1 ?side2 ?side3 bA.out).mono ?_); (case side1 => repeat (first | exact (by repeat (first | (with_reducible exact aT.out) | (with_reducible refine Kd.C_alloc ?_ _) | (with_reducible refine Kd.C_drewN ?_ _) | (with_reducible refine Kd.C_drew ?_) | exact aT.out)) | (with_reducible refine Kd.C_alloc ?_ _) | (with_reducible refine Kd.C_drewN ?_ _) | (with_reducible refine Kd.C_drew ?_))); (case side2 => exact a7.out); (case side3 => exact ca_ ((cb_ HRtab.out HB.out))); rintro e w42 ⟨bY, rfl, K, hb⟩; have ao := a_ (Kd.R_lower (Kd.R_new' (Kd.R_new' K (rl_ (vR_ v.out))) (rl_ (vR_ G.out))) (bz_ bel_)); replace v := a_ (Kd.R_elder' (vR_ v.out) (rs_ K) hb); replace G := a_ (Kd.R_elder' (vR_ G.out) (rs_ K) hb); replace HB := hq_ hb; clear hb K) | ((with_reducible refine gate_dst (N := 55) rfl ?_); (try (refine gate_guard (by rfl) ?_; dsimp only)); refine Kd.R_lit (Kd.int .i64) _ 3 ?hg (N := 55) ?hd (xs := ([3] : List Int)) (inner := [.int .i64 3]) (ok := fun _ => True) (okp := fun _ => True) ?hr ?hp (fun _ hk => hk) trivial (Below.refl _ _) (lr_ _) (by simp) ?_; (case hd => rfl); (case hg => rfl); (case hr => first | (go_simp; done) | (go_simp; rfl)); (case hp => exact (Reps.one (show Kd.M (Kd.int .i64) _ _ _ 3 [.int .i64 3] from rfl) (Reps.none _ _))); intro bZ w43 aJ hb hg_ hnew_; clear hg_ hnew_; (first | rw [← a5.out] at aJ | (simp only [Int.reduceToNat] at aJ; rw [← a5.out] at aJ)); have aX := a_ (Kd.R_lower (Kd.R_new' (Kd.R_new' (Kd.R_new' aJ (rl_ (vR_ v.out))) (rl_ (vR_ G.out))) (rl_ (vR_ ao.out))) (bz_ bel_)); replace ao := a_ (Kd.R_elder' (vR_ ao.out) (rs_ aJ) hb); replace HB := hq_ hb; clear hb aJ; obtain ⟨b0, b1, bx⟩ := Kd.R_slice ao.out; subst bx; obtain ⟨b2, b3, bz⟩ := Kd.R_slice aX.out; subst bz) | (go_at_call 28; (with_reducible refine (slices_Equal_int_int.calls k _ _ Y _ _ a9 true _ ?_ ?_ ?_ ?_ bB.out).mono ?_); exact ca_ ((rr_ ao.out).2.2); exact (rr_ ao.out).2.1; exact ca_ ((rr_ aX.out).2.2); exact (rr_ aX.out).2.1; rintro e w' ⟨rfl, ⟨nd, rfl⟩⟩))
 go_ret
 exact ⟨er_, bel_⟩

/-! ### jigsawlaw16_doms: function 12 -/
def jigsawlaw16_doms.l0 : Nat → List (S57) → List (List Int) → Int → Int → Option ((List (S57)))
 | 0, _, _, _, _ => none
 | k + 1, c, d, e, b => if b < e then (if 0 ≤ b then (if b < (d.length : Int) then ((dom_Of.f k (rd_L3 d b)).bind fun a => (if c.length < 2513169434916 then (jigsawlaw16_doms.l0 k (c ++ [(⟨a.1, a.2.1, a.2.2.1, a.2.2.2.1, a.2.2.2.2.1⟩ : S57)]) d e (wrap64 (b + 1))) else (none))) else (none)) else (none)) else (some c)
def jigsawlaw16_doms.f (k : Nat) (a : List (List Int)) : Option ((List (S57))) := jigsawlaw16_doms.l0 k ([] : List (S57)) a (a.length : Int) 0
theorem jigsawlaw16_doms.mono_l : ∀ k, (∀ a b c d, LeO (jigsawlaw16_doms.l0 k a b c d) (jigsawlaw16_doms.l0 (k + 1) a b c d))
 | 0 => by intros; exact LeO.none _
 | k + 1 => by
  have ih0 := jigsawlaw16_doms.mono_l k
  intro a b c d
  unfold jigsawlaw16_doms.l0
  have m0 := @dom_Of.mono
  exact leo_
theorem jigsawlaw16_doms.mono : ∀ a k, LeO (jigsawlaw16_doms.f k a) (jigsawlaw16_doms.f (k + 1) a) := by
 intro a k
 have ih0 := jigsawlaw16_doms.mono_l k
 unfold jigsawlaw16_doms.f
 have m0 := @dom_Of.mono
 exact leo_
set_option maxHeartbeats 8000000 in
set_option maxRecDepth 100000 in
theorem jigsawlaw16_doms.calls (k : Nat) (A0 : Option Addr) (c0 : Nat) (o : List (List Int)) (r : List (S57)) (w : World) (U : Kd.C (Kd.slice 3 (Kd.int .i64)) w A0 o.length o) (W : o.length ≤ c0) (hrtab : Kd.C (Kd.int .u8) w (some ⟨0, 0, none⟩) tabL.length tabL) (h : jigsawlaw16_doms.f k o = some r) :
  Calls Tryz.prog 12 #[.slice A0 o.length c0] w fun e w' => ∃ X : Value, e = .returned (X) ∧ Kd.N k57 57 w' w.heap.size (fun a => (w.heap.size ≤ a)) X r ∧ Below w.heap.size w w' := by
 have hu57 := Tryz.underlying57
 have af := a_ U
 have an := a_ W
 clear U W
 have HRtab := a_ hrtab
 clear hrtab
 have HB := a_ (Below.refl w.heap.size w)
 unfold jigsawlaw16_doms.f at h
 have H := h
 clear h
 have H' := a_ H
 clear H
 go_enter Tryz.func12, Tryz.ntmps12
 go_wp2
 go_loopg [3, 10] k (fun kq v3 ag w' => ∃ (s : List (S57)) (c : Int), ag = .int .i64 c ∧ Aside0 (jigsawlaw16_doms.l0 kq s o (o.length : Int) c = some r) ∧ Aside0 (kq ≤ k) ∧ Aside0 (Kd.N k57 57 w' w.heap.size (fun a => (w.heap.size ≤ a)) v3 s) ∧ Aside0 (Below w.heap.size w w'))
 case atStart => exact ⟨(([] : List (S57))), (0), eq_, H', ⟨lr_ _⟩, ⟨nil_⟩, ⟨bel_⟩⟩
 clear H'
 try clear c1
 obtain ⟨s, c, rfl, HA, Y, HO_3, HB⟩ := hrel
 cases gk with
 | zero => exact absurd HA.out (by simp [jigsawlaw16_doms.l0])
 | succ k1 =>
  have H := HA.out
  clear HA
  simp only [jigsawlaw16_doms.l0] at H
  by_cases c2 : c < (o.length : Int)
  rotate_left
  ·
   rw [ig_ c2] at H
   have c2b0 : decide (c < (o.length : Int)) = false := df_ c2
   clear c2
   obtain rfl := si_ H
   go_wp2
   go_ret
   exact ⟨_, er_, vN_ HO_3.out, bel_⟩
  rw [ip_ c2] at H
  have c2b0 : decide (c < (o.length : Int)) = true := dt_ c2
  clear c2
  by_cases c3 : 0 ≤ c
  rotate_left
  ·
   rw [ig_ c3] at H
   exact ab_ H
  rw [ip_ c3] at H
  have c3b0 : decide (0 ≤ c) = true := dt_ c3
  clear c3
  by_cases c4 : c < (o.length : Int)
  rotate_left
  ·
   rw [ig_ c4] at H
   exact ab_ H
  rw [ip_ c4] at H
  have c4b0 : decide (c < (o.length : Int)) = true := dt_ c4
  clear c4
  replace H := bs_.mp H
  obtain ⟨⟨l, g, m, q, u, ab⟩, Z, H⟩ := H
  try dsimp only at H
  have A5 := a_ Z
  clear Z
  by_cases c6 : s.length < 2513169434916
  rotate_left
  ·
   rw [ig_ c6] at H
   exact ab_ H
  rw [ip_ c6] at H
  have LMc6 := a_ c6
  clear c6
  obtain ⟨K, z⟩ : ∃ y_ : List (S57), y_ = (s ++ [(⟨l, g, m, q, u⟩ : S57)]) := ⟨_, rfl⟩
  replace H : (jigsawlaw16_doms.l0 k1 K o (o.length : Int) (wrap64 (c + 1))) = some r := h2_ H z
  have O := a_ z
  clear z
  have H' := a_ H
  clear H
  have p342 : 0 ≤ (c : Int) := dq_
  have G : c < (o.length : Int) := dq_
  obtain ⟨ah, M, c342_0, ac, B, E, F⟩ := at_L3 af.out c p342 G
  cases ac
  replace B := hx_ HB B
  have I := a_ F
  have J := a_ E
  clear F E
  replace p342 := et_ p342
  replace G := et_ G
  go_wp2_with (first | ((with_reducible refine gate_callee (f := 33) rfl ?_); refine goesL_ (some 16) rfl rfl Tryz.func33 kr_ rfl #[.slice M (rd_L3 o c).length c342_0] rfl ar_ ?_; (with_reducible refine (dom_Of.calls k1 _ _ (rd_L3 o c) l g m q u ab _ ?_ ?_ ?_ A5.out).mono ?_); exact ca_ ((cb_ I.out HB.out)); exact J.out; exact ca_ ((cb_ HRtab.out HB.out)); rintro e w7 ⟨al, rfl, aa, hb⟩; refine ⟨_, rfl, ?_⟩; have n := a_ (Kd.V_lower (vm_ (ok' := fun a => (w.heap.size ≤ a) ∧ some a ≠ u3.ownBlock) aa (fun a hk_ => ⟨(Nat.le_trans (bz_ bel_) hk_), (fr_ (Kd.N_lt (vN_ HO_3.out)) a hk_)⟩)) (bz_ bel_)); replace HO_3 := a_ (Kd.N_below (vN_ HO_3.out) hb); replace HB := hq_ hb; clear hb aa) | ((with_reducible refine gate_dst (N := 6) rfl ?_); refine bxe_ (N := 6) (cs := #[.int .i64 0, .slice none 0 0, .int .i64 0, .int .i64 0, .int .i64 0]) (t := 57) ?_; intro d hg w8 hbox hb; replace HO_3 := a_ (Kd.N_below (Kd.N_elderB (vN_ HO_3.out) d (Nat.le_of_eq hg.symm)) hb); replace n := a_ (vb_ (Kd.V_elderB (vV_ n.out) d (Nat.le_of_eq hg.symm)) hb); have A := a_ (hbox); have P := a_ (by rw [hg]; exact (bz_ bel_) : w.heap.size ≤ d); have ai := P; replace HB := hq_ hb; clear hb hbox hg; obtain ⟨_, _, _, _, _, _, _, _, _, _⟩ := cel5_ A.out; obtain ⟨x, y, ad⟩ := Kd.V_slice n.out; subst ad) | ((with_reducible refine gate_store (t := 57) (p := 6) rfl ?_); refine store_event (t := 57) (p := 6) (v := ?vo_w11) (w1 := (((((w8.setCell ⟨d, 0, none⟩ (.int .i64 l)).setCell ⟨d, 1, none⟩ (.slice x g.length y)).setCell ⟨d, 2, none⟩ (.int .i64 m)).setCell ⟨d, 3, none⟩ (.int .i64 q)).setCell ⟨d, 4, none⟩ (.int .i64 u))) ?hg ?ho ?hn ?hr ?_; (case ho => rfl); (case hg => rfl); (case hn => rfl); (case hr => first | (go_simp; done) | (go_simp; rfl)); intro w11 hw; replace HO_3 : Aside0 (Kd.N k57 57 w11 w.heap.size (fun a => (w.heap.size ≤ a) ∧ a ≠ d) u3 s) := ⟨(by rw [hw]; exact (by refine vN_ ?_; exact nm_ (fN_ (fN_ (fN_ (fN_ (fN_ (nm_ HO_3.out (fun a hk => (⟨hk, hk.2⟩ : _ ∧ a ≠ d)))))))) (fun _ hk => ⟨hk.1.1, hk.1.2⟩)))⟩; replace n : Aside0 (Kd.V (Kd.int .u64) 81 w11 w.heap.size (fun a => (w.heap.size ≤ a) ∧ some a ≠ u3.ownBlock ∧ a ≠ d) (.slice x g.length y) g) := ⟨(by rw [hw]; exact (by refine vV_ ?_; exact vm_ (fV_ (fV_ (fV_ (fV_ (fV_ (vm_ n.out (fun a hk => (⟨hk, hk.2⟩ : _ ∧ a ≠ d)))))))) (fun _ hk => ⟨hk.1.1.1, ⟨hk.1.1.2, hk.1.2⟩⟩)))⟩; replace A : Aside0 (w11.heap[d]? = some (.cells #[.int .i64 l, .slice x g.length y, .int .i64 m, .int .i64 q, .int .i64 u] 57 (0, 0))) := ⟨(by rw [hw]; exact (by refine bk_ ?_; refine bu_ (cs := #[.int .i64 l, .slice x g.length y, .int .i64 m, .int .i64 q, .int .i64 0]) ?_ 4 _ rfl; refine bk_ ?_; refine bu_ (cs := #[.int .i64 l, .slice x g.length y, .int .i64 m, .int .i64 0, .int .i64 0]) ?_ 3 _ rfl; refine bk_ ?_; refine bu_ (cs := #[.int .i64 l, .slice x g.length y, .int .i64 0, .int .i64 0, .int .i64 0]) ?_ 2 _ rfl; refine bk_ ?_; refine bu_ (cs := #[.int .i64 l, .slice none 0 0, .int .i64 0, .int .i64 0, .int .i64 0]) ?_ 1 _ rfl; refine bk_ ?_; refine bu_ (cs := #[.int .i64 0, .slice none 0 0, .int .i64 0, .int .i64 0, .int .i64 0]) ?_ 0 _ rfl; refine bk_ ?_; exact A.out))⟩; replace HB : Aside0 (Below w.heap.size w w11) := ⟨(by rw [hw]; exact bel_)⟩; clear hw; obtain ⟨_, _, _, _, _, _, _, _, _, _⟩ := cel5_ A.out) | ((with_reducible refine gate_builtin (b := .append) (xs := #[.tmp 19, .tmp 21]) rfl ?_); at_builtin; refine Kd.N_append k57 (w0 := w) w.heap.size rfl (.tmp 19) (.tmp 21) 39 57 (.agg #[(.int .i64 0), (.slice none 0 0), (.int .i64 0), (.int .i64 0), (.int .i64 0)]) 56 rfl Tryz.underlying39 info57 rfl (by decide) (by omega) u3 s (⟨l, g, m, q, u⟩ : S57) [.int .i64 l, .slice x g.length y, .int .i64 m, .int .i64 q, .int .i64 u] (fun a => (w.heap.size ≤ a) ∧ a ≠ d) (fun a => ((fun a => (w.heap.size ≤ a) ∧ a ≠ d)) a ∧ some a ≠ u3.ownBlock) rfl rfl ?aP (fun _ hk => hk) ?aF ?aO ?aB ?aS ?aL ?_; (case aP => exact (k57_mkF _ _ (⟨l, g, m, q, u⟩ : S57) (Kd.V_reads' (vm_ (ok' := (fun a => ((fun a => (w.heap.size ≤ a) ∧ a ≠ d)) a ∧ some a ≠ u3.ownBlock)) (n.out) (fun a hk => ⟨⟨hk.1, hk.2.2⟩, hk.2.1⟩))).2.1 (Kd.V_F (vm_ (ok' := (fun a => ((fun a => (w.heap.size ≤ a) ∧ a ≠ d)) a ∧ some a ≠ u3.ownBlock)) (n.out) (fun a hk => ⟨⟨hk.1, hk.2.2⟩, hk.2.1⟩))))); (case aB => exact bel_); (case aF => exact (fun a hk => ⟨(Nat.le_trans (bz_ bel_) hk), Kd.freshB (bk_ A.out) a hk⟩)); (case aO => exact (vN_ HO_3.out)); (case aS => exact (bz_ bel_)); (case aL => have := LMc6.out; omega); intro am w13 ho hb hg hat; rw [← O.out] at ho; replace HB := a_ (hb); have Q := a_ (ho); clear HO_3; clear ho hb hg hat))
  go_roundg k1
  case measure => have := Y.out; omega
  exact ⟨(K), (wrap64 (c + 1)), eq_, H', ⟨by have := Y.out; omega⟩, ⟨by refine vN_ ?_; exact nm_ Q.out (fun _ hk => hk.1)⟩, ⟨bel_⟩⟩

end Go.Proofs.YtckfbfdnlpnllaaGreatDoor.XAllDiffFixed
