-- by xprint.py, a program of this session, over the kit's print
import Derived.Test.YtijjhobjmehhoaaGreatDoorXGFix0
import Derived.Test.YtijjhobjmehhoaaGreatDoorXGFix6
import Derived.Test.YtijjhobjmehhoaaGreatDoorXGFix7
import Derived.Test.YtijjhobjmehhoaaGreatDoorXGFix11
import Derived.Test.YtijjhobjmehhoaaGreatDoorXGFix18
import Derived.Test.YtijjhobjmehhoaaGreatDoorXGFix20
import Derived.Test.YtijjhobjmehhoaaGreatDoorXGFix24
import Derived.Test.YtijjhobjmehhoaaGreatDoorXGFix27
import Derived.Test.YtijjhobjmehhoaaGreatDoorXGFix28
import Derived.Test.YtijjhobjmehhoaaGreatDoorSq
namespace Go.Proofs.YtijjhobjmehhoaaGreatDoor.XGccFilters
open Go.RowKit Go.Proofs.YtijjhobjmehhoaaGreatDoor.Sq Go.Proofs.YtijjhobjmehhoaaGreatDoorW.PrintWords Go.Proofs.YtijjhobjmehhoaaGreatDoorW.PrintLast Go.Proofs.YtijjhobjmehhoaaGreatDoorW.PrintMore
attribute [local go_sem] max2_int min2_int max_two min_two max_three min_three max_four min_four   -- for this text's walks alone
set_option linter.unusedVariables false
set_option linter.unusedSimpArgs false

/-! ### jigsawlaw20_GccFilters: function 3 -/
def jigsawlaw20_GccFilters.f (k : Nat) (d : Int) (e : List Int) (g : List Int) (l : List Int) (m : Int) (n : Int) (o : List (List Int)) (u : Int) : Option (Bool) := (jigsawlaw20_kind.f u).bind fun p => ((jigsawref10_Make.f k d e g l m n o p 6).bind fun a => ((jigsawlaw20_doms.f k a.2.2.2.2.2.2.2.2).bind fun q => ((gcc_Filter.f k a.1 a.2.1 a.2.2.1 a.2.2.2.1 a.2.2.2.2.1 a.2.2.2.2.2.1 a.2.2.2.2.2.2.1 a.2.2.2.2.2.2.2.1 q).bind fun b => ((jigsawref20_Filter.f k a.1 a.2.1 a.2.2.1 a.2.2.2.1 a.2.2.2.2.1 a.2.2.2.2.2.1 a.2.2.2.2.2.2.1 a.2.2.2.2.2.2.2.1 a.2.2.2.2.2.2.2.2).bind fun c => ((jigsawlaw20_wakes.f k).bind fun r => (if r = true then (if (b.2 == c.2) = true then ((jigsawlaw20_lists.f k b.1).bind fun s => ((jigsawref10_Same.f k s c.1).bind fun t => (some t))) else (none)) else (none)))))))
theorem jigsawlaw20_GccFilters.mono : ∀ a b c d e g l m k, LeO (jigsawlaw20_GccFilters.f k a b c d e g l m) (jigsawlaw20_GccFilters.f (k + 1) a b c d e g l m) := by
 intro a b c d e g l m k
 unfold jigsawlaw20_GccFilters.f
 have m0 := @gcc_Filter.mono
 have m1 := @jigsawlaw20_doms.mono
 have m2 := @jigsawlaw20_lists.mono
 have m3 := @jigsawlaw20_wakes.mono
 have m4 := @jigsawref10_Make.mono
 have m5 := @jigsawref10_Same.mono
 have m6 := @jigsawref20_Filter.mono
 exact leo_
def jigsawlaw20_GccFilters.T1 : Bool × List (List Nat × List Nat) := (true, [([], []), ([], []), ([1], [1]), ([0, 2, 2], [0, 2]), ([3], [3]), ([4], [4]), ([4], [4]), ([], []), ([7, 5, 3, 0, 1, 2, 3, 4, 5, 7], [5, 7]), ([6, 8, 0, 1, 2, 3, 4, 5, 6, 7, 8], [6])])
def jigsawlaw20_GccFilters.B1 : List Nat := [0, 0, 2, 7, 15, 31, 31, 0, 191, 511]
theorem jigsawlaw20_GccFilters.tab1 : rtab .any (opsOf Tryz.f3 1) = jigsawlaw20_GccFilters.T1 := by kernel_rfl
theorem jigsawlaw20_GccFilters.bits1 : waitsOk jigsawlaw20_GccFilters.T1.2 jigsawlaw20_GccFilters.B1 = true := by kernel_rfl
def jigsawlaw20_GccFilters.T2 : Bool × List (List Nat × List Nat) := (true, [([], []), ([], []), ([1], [1]), ([0, 2, 2], [0, 2]), ([3], [3]), ([4], [4]), ([4], [4]), ([5, 3, 0, 1, 2, 3, 4, 5], [5]), ([6, 7, 0, 1, 2, 3, 4, 5, 6, 7], [6])])
def jigsawlaw20_GccFilters.B2 : List Nat := [0, 0, 2, 7, 15, 31, 31, 63, 255]
theorem jigsawlaw20_GccFilters.tab2 : rtab .any (opsOf Tryz.f3 2) = jigsawlaw20_GccFilters.T2 := by kernel_rfl
theorem jigsawlaw20_GccFilters.bits2 : waitsOk jigsawlaw20_GccFilters.T2.2 jigsawlaw20_GccFilters.B2 = true := by kernel_rfl
set_option maxHeartbeats 8000000 in
set_option maxRecDepth 100000 in
theorem jigsawlaw20_GccFilters.calls (k : Nat) (ak : Int) (av : Option Addr) (c0_1 : Nat) (ag : List Int) (aw : Option Addr) (c0_2 : Nat) (ah : List Int) (ax : Option Addr) (c0_3 : Nat) (ai : List Int) (al : Int) (am : Int) (ay : Option Addr) (c0_6 : Nat) (aj : List (List Int)) (a1 : Int) (r : Bool) (w : World) (a3 : Kd.C (Kd.int .u8) w av ag.length ag) (a4 : ag.length ≤ c0_1) (a5 : Kd.C (Kd.int .u8) w aw ah.length ah) (a6 : ah.length ≤ c0_2) (a7 : Kd.C (Kd.int .i8) w ax ai.length ai) (a8 : ai.length ≤ c0_3) (a9 : Kd.C (Kd.slice 3 (Kd.int .i64)) w ay aj.length aj) (ba : aj.length ≤ c0_6) (hrtab : Kd.C (Kd.int .u8) w (some ⟨0, 0, none⟩) tabL.length tabL) (h : jigsawlaw20_GccFilters.f k ak ag ah ai al am aj a1 = some r) :
  Calls Tryz.prog 3 #[.agg #[.int .u8 ak, .slice av ag.length c0_1, .slice aw ah.length c0_2, .slice ax ai.length c0_3, .int .i16 al, .int .u8 am, .slice ay aj.length c0_6], .int .u8 a1] w fun e w' => e = .returned (.bool r) ∧ Below w.heap.size w w' := by
 have hu29 := Tryz.underlying29
 have hu32 := Tryz.underlying32
 have aQ := a_ a3
 have aR := a_ a4
 clear a3 a4
 have aS := a_ a5
 have aT := a_ a6
 clear a5 a6
 have aU := a_ a7
 have aV := a_ a8
 clear a7 a8
 have aW := a_ a9
 have aX := a_ ba
 clear a9 ba
 have HRtab := a_ hrtab
 clear hrtab
 have HB := a_ (Below.refl w.heap.size w)
 unfold jigsawlaw20_GccFilters.f at h
 have H := h
 clear h
 replace H := bo_ H
 obtain ⟨aB, A3, H⟩ := H
 try dsimp only at H
 replace H := bs_.mp H
 obtain ⟨⟨X, A, B, E, F, G, an, U, ao⟩, bo, H⟩ := H
 try dsimp only at H
 have A4 := a_ bo
 clear bo
 replace H := bo_ H
 obtain ⟨aF, A5, H⟩ := H
 try dsimp only at H
 replace H := bs_.mp H
 obtain ⟨⟨a2, aO⟩, bp, H⟩ := H
 try dsimp only at H
 have A6 := a_ bp
 clear bp
 replace H := bs_.mp H
 obtain ⟨⟨bc, aP⟩, bq, H⟩ := H
 try dsimp only at H
 have A7 := a_ bq
 clear bq
 replace H := bo_ H
 obtain ⟨bs, A8, H⟩ := H
 try dsimp only at H
 by_cases c9 : bs = true
 rotate_left
 ·
  replace c9 := bf_.mpr c9
  subst c9
  have H1 : (none) = some r := by rw [ig_ (show ¬ (false = true) by decide)] at H; exact H
  clear H
  have H := H1
  clear H1
  exact ab_ H
 subst c9
 rw [ip_ rfl] at H
 by_cases c10 : (aO == aP) = true
 rotate_left
 ·
  rw [ig_ c10] at H
  exact ab_ H
 rw [ip_ c10] at H
 have c10b0 : (aO == aP) = true := c10
 (try (have c10b1 : decide (aO = aP) = true := by simpa using c10))
 (try (have c10b2 : (aO == aP) = true := by simpa using c10))
 clear c10
 replace H := bo_ H
 obtain ⟨bd, bC, H⟩ := H
 try dsimp only at H
 replace H := bo_ H
 obtain ⟨bu, bD, H⟩ := H
 try dsimp only at H
 obtain rfl := si_ H
 go_enter Tryz.func3, Tryz.ntmps3
 try go_wp2_with (first | ((with_reducible refine gate_dst (N := 2) rfl ?_); refine bxe_ (N := 2) (cs := #[.int .u8 ak, .slice av ag.length c0_1, .slice aw ah.length c0_2, .slice ax ai.length c0_3, .int .i16 al, .int .u8 am, .slice ay aj.length c0_6]) (t := 29) ?_; intro l hg w13 hbox hb; have d := a_ (hbox); have bn := a_ (by rw [hg]; exact (bz_ bel_) : w.heap.size ≤ l); have bE := bn; replace HB := hq_ hb; clear hb hbox hg))
 replace d := a_ (blk_drew d.out)
 replace HB := a_ (below_drew1 HB.out)
 refine start_ (n := 10) (S := fun w' => w'.cell? ⟨l, 0, none⟩ = some (.int .u8 ak) ∧ w'.cell? ⟨l, 1, none⟩ = some (.slice av ag.length c0_1) ∧ w'.cell? ⟨l, 2, none⟩ = some (.slice aw ah.length c0_2) ∧ w'.cell? ⟨l, 3, none⟩ = some (.slice ax ai.length c0_3) ∧ w'.cell? ⟨l, 4, none⟩ = some (.int .i16 al) ∧ w'.cell? ⟨l, 5, none⟩ = some (.int .u8 am) ∧ w'.cell? ⟨l, 6, none⟩ = some (.slice ay aj.length c0_6)) (ds := []) #[false, false, false, false, false, false, false, false, false, false] kr_ rfl rfl (ca7_ d.out) (fun hHeld => ?_); refine with_tabW jigsawlaw20_GccFilters.tab1 jigsawlaw20_GccFilters.bits1 (fun HT_ HW_ => ?_)
 generalize w13.drew = w14 at d HB hHeld ⊢
 refine pn_ 1 13 ao_ ?_
 refine tn_ 0 12 tw_ hHeld ?_
 refine join_ (σ := Value × Value × Value × Value × Value × Value × Value × Nat) 2 #[true, true, true, true, true, true, true, true, false, false] (fun s_ => [(14, .int .i64 aB), (15, .tuple #[.agg #[.int .i64 X, s_.1, s_.2.1, s_.2.2.1, s_.2.2.2.1, s_.2.2.2.2.1, .int .i64 an, s_.2.2.2.2.2.1], s_.2.2.2.2.2.2.1]), (5, .pointer (some ⟨s_.2.2.2.2.2.2.2, 0, none⟩)), (11, .tuple #[.agg #[.int .i64 X, s_.1, s_.2.1, s_.2.2.1, s_.2.2.2.1, s_.2.2.2.2.1, .int .i64 an, s_.2.2.2.2.2.1], s_.2.2.2.2.2.2.1]), (16, .agg #[.int .i64 X, s_.1, s_.2.1, s_.2.2.1, s_.2.2.2.1, s_.2.2.2.2.1, .int .i64 an, s_.2.2.2.2.2.1]), (17, s_.2.2.2.2.2.2.1)]) (fun s_ w' => (w'.cell? ⟨l, 0, none⟩ = some (.int .u8 ak) ∧ w'.cell? ⟨l, 1, none⟩ = some (.slice av ag.length c0_1) ∧ w'.cell? ⟨l, 2, none⟩ = some (.slice aw ah.length c0_2) ∧ w'.cell? ⟨l, 3, none⟩ = some (.slice ax ai.length c0_3) ∧ w'.cell? ⟨l, 4, none⟩ = some (.int .i16 al) ∧ w'.cell? ⟨l, 5, none⟩ = some (.int .u8 am) ∧ w'.cell? ⟨l, 6, none⟩ = some (.slice ay aj.length c0_6)) ∧ (Kd.R (Kd.int .i64) 3 w' w.heap.size (fun b => some b ≠ (s_.2.1 : Value).ownBlock ∧ some b ≠ (s_.2.2.1 : Value).ownBlock ∧ some b ≠ (s_.2.2.2.1 : Value).ownBlock ∧ some b ≠ (s_.2.2.2.2.1 : Value).ownBlock) s_.1 A) ∧ (Kd.R (Kd.int .i64) 3 w' w.heap.size (fun b => some b ≠ (s_.1 : Value).ownBlock ∧ some b ≠ (s_.2.2.1 : Value).ownBlock ∧ some b ≠ (s_.2.2.2.1 : Value).ownBlock ∧ some b ≠ (s_.2.2.2.2.1 : Value).ownBlock) s_.2.1 B) ∧ (Kd.R (Kd.int .i64) 3 w' w.heap.size (fun b => some b ≠ (s_.1 : Value).ownBlock ∧ some b ≠ (s_.2.1 : Value).ownBlock ∧ some b ≠ (s_.2.2.2.1 : Value).ownBlock ∧ some b ≠ (s_.2.2.2.2.1 : Value).ownBlock) s_.2.2.1 E) ∧ (Kd.R (Kd.int .i64) 3 w' w.heap.size (fun b => some b ≠ (s_.1 : Value).ownBlock ∧ some b ≠ (s_.2.1 : Value).ownBlock ∧ some b ≠ (s_.2.2.1 : Value).ownBlock ∧ some b ≠ (s_.2.2.2.2.1 : Value).ownBlock) s_.2.2.2.1 F) ∧ (Kd.R (Kd.int .i64) 3 w' w.heap.size (fun b => some b ≠ (s_.1 : Value).ownBlock ∧ some b ≠ (s_.2.1 : Value).ownBlock ∧ some b ≠ (s_.2.2.1 : Value).ownBlock ∧ some b ≠ (s_.2.2.2.1 : Value).ownBlock) s_.2.2.2.2.1 G) ∧ (Kd.N (Kd.slice 3 (Kd.int .i64)) 30 w' w.heap.size (fun b => some b ≠ (s_.1 : Value).ownBlock ∧ some b ≠ (s_.2.1 : Value).ownBlock ∧ some b ≠ (s_.2.2.1 : Value).ownBlock ∧ some b ≠ (s_.2.2.2.1 : Value).ownBlock ∧ some b ≠ (s_.2.2.2.2.1 : Value).ownBlock ∧ some b ≠ (s_.2.2.2.2.2.2.1 : Value).ownBlock ∧ b ≠ l ∧ b ≠ s_.2.2.2.2.2.2.2) s_.2.2.2.2.2.1 U) ∧ (Kd.N (Kd.slice 3 (Kd.int .i64)) 30 w' w.heap.size (fun b => some b ≠ (s_.1 : Value).ownBlock ∧ some b ≠ (s_.2.1 : Value).ownBlock ∧ some b ≠ (s_.2.2.1 : Value).ownBlock ∧ some b ≠ (s_.2.2.2.1 : Value).ownBlock ∧ some b ≠ (s_.2.2.2.2.1 : Value).ownBlock ∧ some b ≠ (s_.2.2.2.2.2.1 : Value).ownBlock ∧ b ≠ l ∧ b ≠ s_.2.2.2.2.2.2.2) s_.2.2.2.2.2.2.1 ao) ∧ (w'.heap[l]? = some (.cells #[.int .u8 ak, .slice av ag.length c0_1, .slice aw ah.length c0_2, .slice ax ai.length c0_3, .int .i16 al, .int .u8 am, .slice ay aj.length c0_6] 29 (0, 0))) ∧ (w'.heap[s_.2.2.2.2.2.2.2]? = some (.cells #[.int .i64 0, .slice none 0 0, .slice none 0 0, .slice none 0 0, .slice none 0 0, .slice none 0 0, .int .i64 0, .slice none 0 0] 32 (0, 0))) ∧ (w.heap.size ≤ s_.2.2.2.2.2.2.2) ∧ (w.heap.size ≤ s_.2.2.2.2.2.2.2) ∧ (l ≠ s_.2.2.2.2.2.2.2) ∧ (s_.2.2.2.2.2.2.2 ≠ l) ∧ (Below w.heap.size w w')) ?_ ?_
 rotate_left
 ·
  intro hCont
  refine two_ (i := 2) (j := 7) (Ni := some 14) (Nj := some 5) #[true, true, true, false, false, false, false, false, false, false] #[true, true, false, false, false, false, false, true, false, false] rfl rfl rfl rfl (two_of HT_.out kr_) (by decide) (by decide) (fun K hK => ?_) (fun K hK => ?_)
  ·
   skip
   refine goes_ Tryz.func9 kr_ rfl #[.int .u8 a1] (by rfl) rfl rfl ar_ ?_
   with_reducible refine (jigsawlaw20_kind.calls a1 aB _ A3.out).mono ?_
   rintro e w' ⟨rfl, ⟨nd, rfl⟩⟩
   refine ⟨_, rfl, ?_⟩
   refine hK.out _ _ (ca7_ d.out) (fun hHeld => ?_)
   clear hK K
   refine nor_ (N := some 14) ?_
   refine two_ (i := 3) (j := 7) (Ni := some 15) (Nj := some 5) #[true, true, true, true, false, false, false, false, false, false] #[true, true, true, false, false, false, false, true, false, false] rfl rfl rfl rfl (two_of HT_.out kr_) (by decide) (by decide) (fun K hK => ?_) (fun K hK => ?_)
   ·
    skip
    refine goes_ Tryz.func8 kr_ rfl #[.agg #[.int .u8 ak, .slice av ag.length c0_1, .slice aw ah.length c0_2, .slice ax ai.length c0_3, .int .i16 al, .int .u8 am, .slice ay aj.length c0_6], .int .i64 aB, .int .i64 6] (by rfl) rfl rfl ar_ ?_
    with_reducible refine (jigsawref10_Make.calls k ak _ _ ag _ _ ah _ _ ai al am _ _ aj aB 6 X A B E F G an U ao _ ?_ ?_ ?_ ?_ ?_ ?_ ?_ ?_ A4.out).mono ?_
    focus repeat (first | exact (cb_ aQ.out bel_) | (with_reducible refine Kd.C_alloc ?_ _) | (with_reducible refine Kd.C_drewN ?_ _) | (with_reducible refine Kd.C_drew ?_))
    exact aR.out
    focus repeat (first | exact (cb_ aS.out bel_) | (with_reducible refine Kd.C_alloc ?_ _) | (with_reducible refine Kd.C_drewN ?_ _) | (with_reducible refine Kd.C_drew ?_))
    exact aT.out
    focus repeat (first | exact (cb_ aU.out bel_) | (with_reducible refine Kd.C_alloc ?_ _) | (with_reducible refine Kd.C_drewN ?_ _) | (with_reducible refine Kd.C_drew ?_))
    exact aV.out
    focus repeat (first | exact (cb_ aW.out bel_) | (with_reducible refine Kd.C_alloc ?_ _) | (with_reducible refine Kd.C_drewN ?_ _) | (with_reducible refine Kd.C_drew ?_))
    exact aX.out
    rintro e w15 ⟨ab, ac, ad, ae, af, aA, ap, rfl, aa, aI, aJ, aK, aL, aM, aN, hb⟩
    refine ⟨_, rfl, ?_⟩
    have m := a_ (Kd.R_lower aa (bz_ bel_))
    have o := a_ (Kd.R_lower aI (bz_ bel_))
    have q := a_ (Kd.R_lower aJ (bz_ bel_))
    have s := a_ (Kd.R_lower aK (bz_ bel_))
    have u := a_ (Kd.R_lower aL (bz_ bel_))
    have v := a_ (Kd.N_lower (nm_ (ok' := fun b => some b ≠ ab.ownBlock ∧ some b ≠ ac.ownBlock ∧ some b ≠ ad.ownBlock ∧ some b ≠ ae.ownBlock ∧ some b ≠ af.ownBlock ∧ some b ≠ ap.ownBlock ∧ b ≠ l) (Kd.S_N (Kd.S_bound aM)) (fun b hk_ => ⟨hk_.1.1, hk_.1.2.1, hk_.1.2.2.1, hk_.1.2.2.2.1, hk_.1.2.2.2.2.1, hk_.1.2.2.2.2.2, (Kd.freshB (bk_ d.out) b hk_.2.1)⟩)) (bz_ bel_))
    have y := a_ (Kd.N_lower (nm_ (ok' := fun b => some b ≠ ab.ownBlock ∧ some b ≠ ac.ownBlock ∧ some b ≠ ad.ownBlock ∧ some b ≠ ae.ownBlock ∧ some b ≠ af.ownBlock ∧ some b ≠ aA.ownBlock ∧ b ≠ l) (Kd.S_N (Kd.S_bound aN)) (fun b hk_ => ⟨hk_.1.1, hk_.1.2.1, hk_.1.2.2.1, hk_.1.2.2.2.1, hk_.1.2.2.2.2.1, hk_.1.2.2.2.2.2, (Kd.freshB (bk_ d.out) b hk_.2.1)⟩)) (bz_ bel_))
    replace d := a_ (bq_ d.out hb)
    replace HB := hq_ hb
    clear hb aa aI aJ aK aL aM aN
    refine hK.out _ _ (ca7_ d.out) (fun hHeld => ?_)
    clear hK K
    refine nor_ (N := some 15) ?_
    refine pn_ 4 11 ao_ ?_
    refine pn_ 5 16 ao_ ?_
    refine pn_ 6 17 ao_ ?_
    refine onn_ 7 5 #[true, true, true, true, true, true, true, true, false, false] rfl rfl on_ (by decide) (fun K hK => ?_)
    refine box_step ?hg (N := 5) ?hd (cs := #[.int .i64 0, .slice none 0 0, .slice none 0 0, .slice none 0 0, .slice none 0 0, .slice none 0 0, .int .i64 0, .slice none 0 0]) (t := 32) ?hr ?_; (case hd => rfl); (case hg => rfl); (case hr => first | (go_simp; done) | (go_simp; rfl))
    intro c hg w16 hbox hb
    replace m := a_ (rb_ (vR_ m.out) hb)
    replace o := a_ (rb_ (vR_ o.out) hb)
    replace q := a_ (rb_ (vR_ q.out) hb)
    replace s := a_ (rb_ (vR_ s.out) hb)
    replace u := a_ (rb_ (vR_ u.out) hb)
    replace v := a_ (Kd.N_below (Kd.N_elderB (vN_ v.out) c (Nat.le_of_eq hg.symm)) hb)
    replace y := a_ (Kd.N_below (Kd.N_elderB (vN_ y.out) c (Nat.le_of_eq hg.symm)) hb)
    have g := a_ (hbox)
    have aD := a_ ((by rw [hg]; exact (bz_ bel_) : w.heap.size ≤ c))
    have aE := a_ ((by rw [hg]; exact (bz_ bel_) : w.heap.size ≤ c))
    replace HB := hq_ hb
    have a := a_ ((by rw [hg]; exact Nat.ne_of_lt (blk_lt (bk_ d.out)) : l ≠ c))
    have z := a_ ((by rw [hg]; exact Nat.ne_of_gt (blk_lt (bk_ d.out)) : c ≠ l))
    replace d := a_ (bq_ d.out hb)
    clear hb hbox hg
    refine hK.out _ _ (ca7_ d.out) (fun hHeld => ?_)
    clear hK K
    refine nor_ (N := some 5) ?_
    exact norm_ (by simp only [putAll, Act.put, List.setIfInBounds_toArray, List.set_cons_zero, List.set_cons_succ]) (hCont (ab, ac, ad, ae, af, aA, ap, c) _ ⟨hHeld, (vR_ m.out), (vR_ o.out), (vR_ q.out), (vR_ s.out), (vR_ u.out), (by refine vN_ ?_; exact nm_ v.out (fun _ hk => ⟨hk.1.1, ⟨hk.1.2.1, ⟨hk.1.2.2.1, ⟨hk.1.2.2.2.1, ⟨hk.1.2.2.2.2.1, ⟨hk.1.2.2.2.2.2.1, ⟨hk.1.2.2.2.2.2.2, hk.2⟩⟩⟩⟩⟩⟩⟩)), (by refine vN_ ?_; exact nm_ y.out (fun _ hk => ⟨hk.1.1, ⟨hk.1.2.1, ⟨hk.1.2.2.1, ⟨hk.1.2.2.2.1, ⟨hk.1.2.2.2.2.1, ⟨hk.1.2.2.2.2.2.1, ⟨hk.1.2.2.2.2.2.2, hk.2⟩⟩⟩⟩⟩⟩⟩)), (bk_ d.out), (bk_ g.out), aD.out, aE.out, a.out, z.out, bel_⟩)
   skip
   refine box_step ?hg (N := 5) ?hd (cs := #[.int .i64 0, .slice none 0 0, .slice none 0 0, .slice none 0 0, .slice none 0 0, .slice none 0 0, .int .i64 0, .slice none 0 0]) (t := 32) ?hr ?_; (case hd => rfl); (case hg => rfl); (case hr => first | (go_simp; done) | (go_simp; rfl))
   intro c hg w15 hbox hb
   have g := a_ (hbox)
   have aD := a_ ((by rw [hg]; exact (bz_ bel_) : w.heap.size ≤ c))
   have aE := a_ ((by rw [hg]; exact (bz_ bel_) : w.heap.size ≤ c))
   replace HB := hq_ hb
   have a := a_ ((by rw [hg]; exact Nat.ne_of_lt (blk_lt (bk_ d.out)) : l ≠ c))
   have z := a_ ((by rw [hg]; exact Nat.ne_of_gt (blk_lt (bk_ d.out)) : c ≠ l))
   replace d := a_ (bq_ d.out hb)
   clear hb hbox hg
   refine hK.out _ _ (ca7_ d.out) (fun hHeld => ?_)
   clear hK K
   refine nor_ (N := some 5) ?_
   refine onn_ 3 15 #[true, true, true, true, false, false, false, true, false, false] rfl rfl on_ (by decide) (fun K hK => ?_)
   refine goes_ Tryz.func8 kr_ rfl #[.agg #[.int .u8 ak, .slice av ag.length c0_1, .slice aw ah.length c0_2, .slice ax ai.length c0_3, .int .i16 al, .int .u8 am, .slice ay aj.length c0_6], .int .i64 aB, .int .i64 6] (by rfl) rfl rfl ar_ ?_
   with_reducible refine (jigsawref10_Make.calls k ak _ _ ag _ _ ah _ _ ai al am _ _ aj aB 6 X A B E F G an U ao _ ?_ ?_ ?_ ?_ ?_ ?_ ?_ ?_ A4.out).mono ?_
   exact ca_ ((cb_ aQ.out HB.out))
   exact aR.out
   exact ca_ ((cb_ aS.out HB.out))
   exact aT.out
   exact ca_ ((cb_ aU.out HB.out))
   exact aV.out
   exact ca_ ((cb_ aW.out HB.out))
   exact aX.out
   rintro e w16 ⟨ab, ac, ad, ae, af, aA, ap, rfl, aa, aI, aJ, aK, aL, aM, aN, hb⟩
   refine ⟨_, rfl, ?_⟩
   have m := a_ (Kd.R_lower aa (bz_ bel_))
   have o := a_ (Kd.R_lower aI (bz_ bel_))
   have q := a_ (Kd.R_lower aJ (bz_ bel_))
   have s := a_ (Kd.R_lower aK (bz_ bel_))
   have u := a_ (Kd.R_lower aL (bz_ bel_))
   have v := a_ (Kd.N_lower (nm_ (ok' := fun b => some b ≠ ab.ownBlock ∧ some b ≠ ac.ownBlock ∧ some b ≠ ad.ownBlock ∧ some b ≠ ae.ownBlock ∧ some b ≠ af.ownBlock ∧ some b ≠ ap.ownBlock ∧ b ≠ l ∧ b ≠ c) (Kd.S_N (Kd.S_bound aM)) (fun b hk_ => ⟨hk_.1.1, hk_.1.2.1, hk_.1.2.2.1, hk_.1.2.2.2.1, hk_.1.2.2.2.2.1, hk_.1.2.2.2.2.2, (Kd.freshB (bk_ d.out) b hk_.2.1), (Kd.freshB (bk_ g.out) b hk_.2.1)⟩)) (bz_ bel_))
   have y := a_ (Kd.N_lower (nm_ (ok' := fun b => some b ≠ ab.ownBlock ∧ some b ≠ ac.ownBlock ∧ some b ≠ ad.ownBlock ∧ some b ≠ ae.ownBlock ∧ some b ≠ af.ownBlock ∧ some b ≠ aA.ownBlock ∧ b ≠ l ∧ b ≠ c) (Kd.S_N (Kd.S_bound aN)) (fun b hk_ => ⟨hk_.1.1, hk_.1.2.1, hk_.1.2.2.1, hk_.1.2.2.2.1, hk_.1.2.2.2.2.1, hk_.1.2.2.2.2.2, (Kd.freshB (bk_ d.out) b hk_.2.1), (Kd.freshB (bk_ g.out) b hk_.2.1)⟩)) (bz_ bel_))
   replace d := a_ (bq_ d.out hb)
   replace g := a_ (bq_ g.out hb)
   replace HB := hq_ hb
   clear hb aa aI aJ aK aL aM aN
   refine hK.out _ _ (ca7_ d.out) (fun hHeld => ?_)
   clear hK K
   refine nor_ (N := some 15) ?_
   refine pn_ 4 11 ao_ ?_
   refine pn_ 5 16 ao_ ?_
   refine pn_ 6 17 ao_ ?_
   exact norm_ (by simp only [putAll, Act.put, List.setIfInBounds_toArray, List.set_cons_zero, List.set_cons_succ]) (hCont (ab, ac, ad, ae, af, aA, ap, c) _ ⟨hHeld, (vR_ m.out), (vR_ o.out), (vR_ q.out), (vR_ s.out), (vR_ u.out), (vN_ v.out), (vN_ y.out), (bk_ d.out), (bk_ g.out), aD.out, aE.out, a.out, z.out, bel_⟩)
  skip
  refine box_step ?hg (N := 5) ?hd (cs := #[.int .i64 0, .slice none 0 0, .slice none 0 0, .slice none 0 0, .slice none 0 0, .slice none 0 0, .int .i64 0, .slice none 0 0]) (t := 32) ?hr ?_; (case hd => rfl); (case hg => rfl); (case hr => first | (go_simp; done) | (go_simp; rfl))
  intro c hg w15 hbox hb
  have g := a_ (hbox)
  have aD := a_ ((by rw [hg]; exact (bz_ bel_) : w.heap.size ≤ c))
  have aE := a_ ((by rw [hg]; exact (bz_ bel_) : w.heap.size ≤ c))
  replace HB := hq_ hb
  have a := a_ ((by rw [hg]; exact Nat.ne_of_lt (blk_lt (bk_ d.out)) : l ≠ c))
  have z := a_ ((by rw [hg]; exact Nat.ne_of_gt (blk_lt (bk_ d.out)) : c ≠ l))
  replace d := a_ (bq_ d.out hb)
  clear hb hbox hg
  refine hK.out _ _ (ca7_ d.out) (fun hHeld => ?_)
  clear hK K
  refine nor_ (N := some 5) ?_
  refine onn_ 2 14 #[true, true, true, false, false, false, false, true, false, false] rfl rfl on_ (by decide) (fun K hK => ?_)
  refine goes_ Tryz.func9 kr_ rfl #[.int .u8 a1] (by rfl) rfl rfl ar_ ?_
  with_reducible refine (jigsawlaw20_kind.calls a1 aB _ A3.out).mono ?_
  rintro e w' ⟨rfl, ⟨nd, rfl⟩⟩
  refine ⟨_, rfl, ?_⟩
  refine hK.out _ _ (ca7_ d.out) (fun hHeld => ?_)
  clear hK K
  refine nor_ (N := some 14) ?_
  refine onn_ 3 15 #[true, true, true, true, false, false, false, true, false, false] rfl rfl on_ (by decide) (fun K hK => ?_)
  refine goes_ Tryz.func8 kr_ rfl #[.agg #[.int .u8 ak, .slice av ag.length c0_1, .slice aw ah.length c0_2, .slice ax ai.length c0_3, .int .i16 al, .int .u8 am, .slice ay aj.length c0_6], .int .i64 aB, .int .i64 6] (by rfl) rfl rfl ar_ ?_
  with_reducible refine (jigsawref10_Make.calls k ak _ _ ag _ _ ah _ _ ai al am _ _ aj aB 6 X A B E F G an U ao _ ?_ ?_ ?_ ?_ ?_ ?_ ?_ ?_ A4.out).mono ?_
  focus repeat (first | exact (cb_ aQ.out bel_) | (with_reducible refine Kd.C_alloc ?_ _) | (with_reducible refine Kd.C_drewN ?_ _) | (with_reducible refine Kd.C_drew ?_))
  exact aR.out
  focus repeat (first | exact (cb_ aS.out bel_) | (with_reducible refine Kd.C_alloc ?_ _) | (with_reducible refine Kd.C_drewN ?_ _) | (with_reducible refine Kd.C_drew ?_))
  exact aT.out
  focus repeat (first | exact (cb_ aU.out bel_) | (with_reducible refine Kd.C_alloc ?_ _) | (with_reducible refine Kd.C_drewN ?_ _) | (with_reducible refine Kd.C_drew ?_))
  exact aV.out
  focus repeat (first | exact (cb_ aW.out bel_) | (with_reducible refine Kd.C_alloc ?_ _) | (with_reducible refine Kd.C_drewN ?_ _) | (with_reducible refine Kd.C_drew ?_))
  exact aX.out
  rintro e w16 ⟨ab, ac, ad, ae, af, aA, ap, rfl, aa, aI, aJ, aK, aL, aM, aN, hb⟩
  refine ⟨_, rfl, ?_⟩
  have m := a_ (Kd.R_lower aa (bz_ bel_))
  have o := a_ (Kd.R_lower aI (bz_ bel_))
  have q := a_ (Kd.R_lower aJ (bz_ bel_))
  have s := a_ (Kd.R_lower aK (bz_ bel_))
  have u := a_ (Kd.R_lower aL (bz_ bel_))
  have v := a_ (Kd.N_lower (nm_ (ok' := fun b => some b ≠ ab.ownBlock ∧ some b ≠ ac.ownBlock ∧ some b ≠ ad.ownBlock ∧ some b ≠ ae.ownBlock ∧ some b ≠ af.ownBlock ∧ some b ≠ ap.ownBlock ∧ b ≠ l ∧ b ≠ c) (Kd.S_N (Kd.S_bound aM)) (fun b hk_ => ⟨hk_.1.1, hk_.1.2.1, hk_.1.2.2.1, hk_.1.2.2.2.1, hk_.1.2.2.2.2.1, hk_.1.2.2.2.2.2, (Kd.freshB (bk_ d.out) b hk_.2.1), (Kd.freshB (bk_ g.out) b hk_.2.1)⟩)) (bz_ bel_))
  have y := a_ (Kd.N_lower (nm_ (ok' := fun b => some b ≠ ab.ownBlock ∧ some b ≠ ac.ownBlock ∧ some b ≠ ad.ownBlock ∧ some b ≠ ae.ownBlock ∧ some b ≠ af.ownBlock ∧ some b ≠ aA.ownBlock ∧ b ≠ l ∧ b ≠ c) (Kd.S_N (Kd.S_bound aN)) (fun b hk_ => ⟨hk_.1.1, hk_.1.2.1, hk_.1.2.2.1, hk_.1.2.2.2.1, hk_.1.2.2.2.2.1, hk_.1.2.2.2.2.2, (Kd.freshB (bk_ d.out) b hk_.2.1), (Kd.freshB (bk_ g.out) b hk_.2.1)⟩)) (bz_ bel_))
  replace d := a_ (bq_ d.out hb)
  replace g := a_ (bq_ g.out hb)
  replace HB := hq_ hb
  clear hb aa aI aJ aK aL aM aN
  refine hK.out _ _ (ca7_ d.out) (fun hHeld => ?_)
  clear hK K
  refine nor_ (N := some 15) ?_
  refine pn_ 4 11 ao_ ?_
  refine pn_ 5 16 ao_ ?_
  refine pn_ 6 17 ao_ ?_
  exact norm_ (by simp only [putAll, Act.put, List.setIfInBounds_toArray, List.set_cons_zero, List.set_cons_succ]) (hCont (ab, ac, ad, ae, af, aA, ap, c) _ ⟨hHeld, (vR_ m.out), (vR_ o.out), (vR_ q.out), (vR_ s.out), (vR_ u.out), (vN_ v.out), (vN_ y.out), (bk_ d.out), (bk_ g.out), aD.out, aE.out, a.out, z.out, bel_⟩)
 rintro ⟨ab, ac, ad, ae, af, aA, ap, c⟩ w17 ⟨hS_, h0_, h1_, h2_, h3_, h4_, h5_, h6_, h7_, h8_, h9_, h10_, h11_, h12_, h13_⟩
 have m : Aside0 (Kd.R (Kd.int .i64) 3 w17 w.heap.size (fun b => some b ≠ ac.ownBlock ∧ some b ≠ ad.ownBlock ∧ some b ≠ ae.ownBlock ∧ some b ≠ af.ownBlock) ab A) := ⟨h0_⟩
 have o : Aside0 (Kd.R (Kd.int .i64) 3 w17 w.heap.size (fun b => some b ≠ ab.ownBlock ∧ some b ≠ ad.ownBlock ∧ some b ≠ ae.ownBlock ∧ some b ≠ af.ownBlock) ac B) := ⟨h1_⟩
 have q : Aside0 (Kd.R (Kd.int .i64) 3 w17 w.heap.size (fun b => some b ≠ ab.ownBlock ∧ some b ≠ ac.ownBlock ∧ some b ≠ ae.ownBlock ∧ some b ≠ af.ownBlock) ad E) := ⟨h2_⟩
 have s : Aside0 (Kd.R (Kd.int .i64) 3 w17 w.heap.size (fun b => some b ≠ ab.ownBlock ∧ some b ≠ ac.ownBlock ∧ some b ≠ ad.ownBlock ∧ some b ≠ af.ownBlock) ae F) := ⟨h3_⟩
 have u : Aside0 (Kd.R (Kd.int .i64) 3 w17 w.heap.size (fun b => some b ≠ ab.ownBlock ∧ some b ≠ ac.ownBlock ∧ some b ≠ ad.ownBlock ∧ some b ≠ ae.ownBlock) af G) := ⟨h4_⟩
 have v : Aside0 (Kd.N (Kd.slice 3 (Kd.int .i64)) 30 w17 w.heap.size (fun b => some b ≠ ab.ownBlock ∧ some b ≠ ac.ownBlock ∧ some b ≠ ad.ownBlock ∧ some b ≠ ae.ownBlock ∧ some b ≠ af.ownBlock ∧ some b ≠ ap.ownBlock ∧ b ≠ l ∧ b ≠ c) aA U) := ⟨h5_⟩
 have y : Aside0 (Kd.N (Kd.slice 3 (Kd.int .i64)) 30 w17 w.heap.size (fun b => some b ≠ ab.ownBlock ∧ some b ≠ ac.ownBlock ∧ some b ≠ ad.ownBlock ∧ some b ≠ ae.ownBlock ∧ some b ≠ af.ownBlock ∧ some b ≠ aA.ownBlock ∧ b ≠ l ∧ b ≠ c) ap ao) := ⟨h6_⟩
 replace d : Aside0 (w17.heap[l]? = some (.cells #[.int .u8 ak, .slice av ag.length c0_1, .slice aw ah.length c0_2, .slice ax ai.length c0_3, .int .i16 al, .int .u8 am, .slice ay aj.length c0_6] 29 (0, 0))) := ⟨h7_⟩
 have g : Aside0 (w17.heap[c]? = some (.cells #[.int .i64 0, .slice none 0 0, .slice none 0 0, .slice none 0 0, .slice none 0 0, .slice none 0 0, .int .i64 0, .slice none 0 0] 32 (0, 0))) := ⟨h8_⟩
 have aD : Aside0 (w.heap.size ≤ c) := ⟨h9_⟩
 have aE : Aside0 (w.heap.size ≤ c) := ⟨h10_⟩
 have a : Aside0 (l ≠ c) := ⟨h11_⟩
 have z : Aside0 (c ≠ l) := ⟨h12_⟩
 replace HB : Aside0 (Below w.heap.size w w17) := ⟨h13_⟩
 clear h0_ h1_ h2_ h3_ h4_ h5_ h6_ h7_ h8_ h9_ h10_ h11_ h12_ h13_
 have hHeld : w17.cell? ⟨l, 0, none⟩ = some (.int .u8 ak) ∧ w17.cell? ⟨l, 1, none⟩ = some (.slice av ag.length c0_1) ∧ w17.cell? ⟨l, 2, none⟩ = some (.slice aw ah.length c0_2) ∧ w17.cell? ⟨l, 3, none⟩ = some (.slice ax ai.length c0_3) ∧ w17.cell? ⟨l, 4, none⟩ = some (.int .i16 al) ∧ w17.cell? ⟨l, 5, none⟩ = some (.int .u8 am) ∧ w17.cell? ⟨l, 6, none⟩ = some (.slice ay aj.length c0_6) := hS_
 obtain ⟨I, J, be⟩ := Kd.R_slice m.out
 (first | subst be | (injection be with f1_ f2_ f3_; have f4_ := f1_.symm; have f5_ := f3_.symm; clear f1_ f2_ f3_; subst f4_; subst f5_))
 obtain ⟨M, O, bf⟩ := Kd.R_slice o.out
 (first | subst bf | (injection bf with f1_ f2_ f3_; have f4_ := f1_.symm; have f5_ := f3_.symm; clear f1_ f2_ f3_; subst f4_; subst f5_))
 obtain ⟨P, Q, bg⟩ := Kd.R_slice q.out
 (first | subst bg | (injection bg with f1_ f2_ f3_; have f4_ := f1_.symm; have f5_ := f3_.symm; clear f1_ f2_ f3_; subst f4_; subst f5_))
 obtain ⟨V, W, bh⟩ := Kd.R_slice s.out
 (first | subst bh | (injection bh with f1_ f2_ f3_; have f4_ := f1_.symm; have f5_ := f3_.symm; clear f1_ f2_ f3_; subst f4_; subst f5_))
 obtain ⟨Y, Z, bi⟩ := Kd.R_slice u.out
 (first | subst bi | (injection bi with f1_ f2_ f3_; have f4_ := f1_.symm; have f5_ := f3_.symm; clear f1_ f2_ f3_; subst f4_; subst f5_))
 obtain ⟨aq, ar, bj⟩ := Kd.N_slice v.out
 (first | subst bj | (injection bj with f1_ f2_ f3_; have f4_ := f1_.symm; have f5_ := f3_.symm; clear f1_ f2_ f3_; subst f4_; subst f5_))
 refine norm_ (a' := ?_) ?_ ?_
 rotate_left
 ·
  simp only [putAll, Act.put, List.setIfInBounds_toArray, List.set_cons_zero, List.set_cons_succ]
  rfl
 refine one_ (i := 8) (N := none) #[true, true, true, true, true, true, true, true, true, false] rfl rfl on_ (by decide) (fun K hK => ?_)
 have bL : w17.cell? ⟨c, 0, none⟩ = some (.int .i64 0) := (blk_cell g.out 0).trans rfl
 have hfs18 := blk_frozen g.out 0
 have hns18_0 := a.out
 have hms18_0 := z.out
 have bM : w17.cell? ⟨c, 1, none⟩ = some (.slice none 0 0) := (blk_cell g.out 1).trans rfl
 have hfs20 := blk_frozen g.out 1
 have hns20_0 := a.out
 have hms20_0 := z.out
 have bN : w17.cell? ⟨c, 2, none⟩ = some (.slice none 0 0) := (blk_cell g.out 2).trans rfl
 have hfs22 := blk_frozen g.out 2
 have hns22_0 := a.out
 have hms22_0 := z.out
 have bO : w17.cell? ⟨c, 3, none⟩ = some (.slice none 0 0) := (blk_cell g.out 3).trans rfl
 have hfs24 := blk_frozen g.out 3
 have hns24_0 := a.out
 have hms24_0 := z.out
 have bP : w17.cell? ⟨c, 4, none⟩ = some (.slice none 0 0) := (blk_cell g.out 4).trans rfl
 have hfs26 := blk_frozen g.out 4
 have hns26_0 := a.out
 have hms26_0 := z.out
 have bQ : w17.cell? ⟨c, 5, none⟩ = some (.slice none 0 0) := (blk_cell g.out 5).trans rfl
 have hfs28 := blk_frozen g.out 5
 have hns28_0 := a.out
 have hms28_0 := z.out
 have bR : w17.cell? ⟨c, 6, none⟩ = some (.int .i64 0) := (blk_cell g.out 6).trans rfl
 have hfs29 := blk_frozen g.out 6
 have hns29_0 := a.out
 have hms29_0 := z.out
 have bS : w17.cell? ⟨c, 7, none⟩ = some (.slice none 0 0) := (blk_cell g.out 7).trans rfl
 have hfs31 := blk_frozen g.out 7
 have hns31_0 := a.out
 have hms31_0 := z.out
 refine skip_ (w1 := ?_) (by rfl) rfl ?_ ?_
 rotate_left
 ·
  go_simp
  rfl
 refine hK.out _ _ ⟨((cell_far (p := ⟨c, _, none⟩) a.out _).trans (((cell_far (p := ⟨c, _, none⟩) a.out _).trans (((cell_far (p := ⟨c, _, none⟩) a.out _).trans (((cell_far (p := ⟨c, _, none⟩) a.out _).trans (((cell_far (p := ⟨c, _, none⟩) a.out _).trans (((cell_far (p := ⟨c, _, none⟩) a.out _).trans (((cell_far (p := ⟨c, _, none⟩) a.out _).trans (((cell_far (p := ⟨c, _, none⟩) a.out _).trans (hHeld.1)))))))))))))))), ((cell_far (p := ⟨c, _, none⟩) a.out _).trans (((cell_far (p := ⟨c, _, none⟩) a.out _).trans (((cell_far (p := ⟨c, _, none⟩) a.out _).trans (((cell_far (p := ⟨c, _, none⟩) a.out _).trans (((cell_far (p := ⟨c, _, none⟩) a.out _).trans (((cell_far (p := ⟨c, _, none⟩) a.out _).trans (((cell_far (p := ⟨c, _, none⟩) a.out _).trans (((cell_far (p := ⟨c, _, none⟩) a.out _).trans (hHeld.2.1)))))))))))))))), ((cell_far (p := ⟨c, _, none⟩) a.out _).trans (((cell_far (p := ⟨c, _, none⟩) a.out _).trans (((cell_far (p := ⟨c, _, none⟩) a.out _).trans (((cell_far (p := ⟨c, _, none⟩) a.out _).trans (((cell_far (p := ⟨c, _, none⟩) a.out _).trans (((cell_far (p := ⟨c, _, none⟩) a.out _).trans (((cell_far (p := ⟨c, _, none⟩) a.out _).trans (((cell_far (p := ⟨c, _, none⟩) a.out _).trans (hHeld.2.2.1)))))))))))))))), ((cell_far (p := ⟨c, _, none⟩) a.out _).trans (((cell_far (p := ⟨c, _, none⟩) a.out _).trans (((cell_far (p := ⟨c, _, none⟩) a.out _).trans (((cell_far (p := ⟨c, _, none⟩) a.out _).trans (((cell_far (p := ⟨c, _, none⟩) a.out _).trans (((cell_far (p := ⟨c, _, none⟩) a.out _).trans (((cell_far (p := ⟨c, _, none⟩) a.out _).trans (((cell_far (p := ⟨c, _, none⟩) a.out _).trans (hHeld.2.2.2.1)))))))))))))))), ((cell_far (p := ⟨c, _, none⟩) a.out _).trans (((cell_far (p := ⟨c, _, none⟩) a.out _).trans (((cell_far (p := ⟨c, _, none⟩) a.out _).trans (((cell_far (p := ⟨c, _, none⟩) a.out _).trans (((cell_far (p := ⟨c, _, none⟩) a.out _).trans (((cell_far (p := ⟨c, _, none⟩) a.out _).trans (((cell_far (p := ⟨c, _, none⟩) a.out _).trans (((cell_far (p := ⟨c, _, none⟩) a.out _).trans (hHeld.2.2.2.2.1)))))))))))))))), ((cell_far (p := ⟨c, _, none⟩) a.out _).trans (((cell_far (p := ⟨c, _, none⟩) a.out _).trans (((cell_far (p := ⟨c, _, none⟩) a.out _).trans (((cell_far (p := ⟨c, _, none⟩) a.out _).trans (((cell_far (p := ⟨c, _, none⟩) a.out _).trans (((cell_far (p := ⟨c, _, none⟩) a.out _).trans (((cell_far (p := ⟨c, _, none⟩) a.out _).trans (((cell_far (p := ⟨c, _, none⟩) a.out _).trans (hHeld.2.2.2.2.2.1)))))))))))))))), ((cell_far (p := ⟨c, _, none⟩) a.out _).trans (((cell_far (p := ⟨c, _, none⟩) a.out _).trans (((cell_far (p := ⟨c, _, none⟩) a.out _).trans (((cell_far (p := ⟨c, _, none⟩) a.out _).trans (((cell_far (p := ⟨c, _, none⟩) a.out _).trans (((cell_far (p := ⟨c, _, none⟩) a.out _).trans (((cell_far (p := ⟨c, _, none⟩) a.out _).trans (((cell_far (p := ⟨c, _, none⟩) a.out _).trans (hHeld.2.2.2.2.2.2))))))))))))))))⟩ (fun hHeld => ?_)
 clear hK K
 refine pn_ 9 6 ao_ ?_
 refine done_ dn_ ?_
 try go_wp2
 obtain ⟨w32, hq_⟩ : ∃ x, x = ((((((((w17.setCell ⟨c, 0, none⟩ (.int .i64 X)).setCell ⟨c, 1, none⟩ (.slice I A.length J)).setCell ⟨c, 2, none⟩ (.slice M B.length O)).setCell ⟨c, 3, none⟩ (.slice P E.length Q)).setCell ⟨c, 4, none⟩ (.slice V F.length W)).setCell ⟨c, 5, none⟩ (.slice Y G.length Z)).setCell ⟨c, 6, none⟩ (.int .i64 an)).setCell ⟨c, 7, none⟩ (.slice aq U.length ar)) := ⟨_, rfl⟩
 replace m : Aside0 (Kd.R (Kd.int .i64) 3 w32 w.heap.size (fun b => some b ≠ (.slice M B.length O : Value).ownBlock ∧ some b ≠ (.slice P E.length Q : Value).ownBlock ∧ some b ≠ (.slice V F.length W : Value).ownBlock ∧ some b ≠ (.slice Y G.length Z : Value).ownBlock) (.slice I A.length J) A) := ⟨by subst hq_; refine vR_ ?_; exact rm_ (fR_ (fR_ (fR_ (fR_ (fR_ (fR_ (fR_ (fR_ (rt_ m.out g.out (by decide)))))))))) (fun _ hk => ⟨hk.1.1, ⟨hk.1.2.1, ⟨hk.1.2.2.1, hk.1.2.2.2⟩⟩⟩)⟩
 replace o : Aside0 (Kd.R (Kd.int .i64) 3 w32 w.heap.size (fun b => some b ≠ (.slice I A.length J : Value).ownBlock ∧ some b ≠ (.slice P E.length Q : Value).ownBlock ∧ some b ≠ (.slice V F.length W : Value).ownBlock ∧ some b ≠ (.slice Y G.length Z : Value).ownBlock) (.slice M B.length O) B) := ⟨by subst hq_; refine vR_ ?_; exact rm_ (fR_ (fR_ (fR_ (fR_ (fR_ (fR_ (fR_ (fR_ (rt_ o.out g.out (by decide)))))))))) (fun _ hk => ⟨hk.1.1, ⟨hk.1.2.1, ⟨hk.1.2.2.1, hk.1.2.2.2⟩⟩⟩)⟩
 replace q : Aside0 (Kd.R (Kd.int .i64) 3 w32 w.heap.size (fun b => some b ≠ (.slice I A.length J : Value).ownBlock ∧ some b ≠ (.slice M B.length O : Value).ownBlock ∧ some b ≠ (.slice V F.length W : Value).ownBlock ∧ some b ≠ (.slice Y G.length Z : Value).ownBlock) (.slice P E.length Q) E) := ⟨by subst hq_; refine vR_ ?_; exact rm_ (fR_ (fR_ (fR_ (fR_ (fR_ (fR_ (fR_ (fR_ (rt_ q.out g.out (by decide)))))))))) (fun _ hk => ⟨hk.1.1, ⟨hk.1.2.1, ⟨hk.1.2.2.1, hk.1.2.2.2⟩⟩⟩)⟩
 replace s : Aside0 (Kd.R (Kd.int .i64) 3 w32 w.heap.size (fun b => some b ≠ (.slice I A.length J : Value).ownBlock ∧ some b ≠ (.slice M B.length O : Value).ownBlock ∧ some b ≠ (.slice P E.length Q : Value).ownBlock ∧ some b ≠ (.slice Y G.length Z : Value).ownBlock) (.slice V F.length W) F) := ⟨by subst hq_; refine vR_ ?_; exact rm_ (fR_ (fR_ (fR_ (fR_ (fR_ (fR_ (fR_ (fR_ (rt_ s.out g.out (by decide)))))))))) (fun _ hk => ⟨hk.1.1, ⟨hk.1.2.1, ⟨hk.1.2.2.1, hk.1.2.2.2⟩⟩⟩)⟩
 replace u : Aside0 (Kd.R (Kd.int .i64) 3 w32 w.heap.size (fun b => some b ≠ (.slice I A.length J : Value).ownBlock ∧ some b ≠ (.slice M B.length O : Value).ownBlock ∧ some b ≠ (.slice P E.length Q : Value).ownBlock ∧ some b ≠ (.slice V F.length W : Value).ownBlock) (.slice Y G.length Z) G) := ⟨by subst hq_; refine vR_ ?_; exact rm_ (fR_ (fR_ (fR_ (fR_ (fR_ (fR_ (fR_ (fR_ (rt_ u.out g.out (by decide)))))))))) (fun _ hk => ⟨hk.1.1, ⟨hk.1.2.1, ⟨hk.1.2.2.1, hk.1.2.2.2⟩⟩⟩)⟩
 replace v : Aside0 (Kd.N (Kd.slice 3 (Kd.int .i64)) 30 w32 w.heap.size (fun b => some b ≠ (.slice I A.length J : Value).ownBlock ∧ some b ≠ (.slice M B.length O : Value).ownBlock ∧ some b ≠ (.slice P E.length Q : Value).ownBlock ∧ some b ≠ (.slice V F.length W : Value).ownBlock ∧ some b ≠ (.slice Y G.length Z : Value).ownBlock ∧ some b ≠ ap.ownBlock ∧ b ≠ l ∧ b ≠ c) (.slice aq U.length ar) U) := ⟨by subst hq_; refine vN_ ?_; exact nm_ (fN_ (fN_ (fN_ (fN_ (fN_ (fN_ (fN_ (fN_ (nm_ v.out (fun b hk => (⟨hk, hk.2.2.2.2.2.2.2⟩ : _ ∧ b ≠ c))))))))))) (fun _ hk => ⟨hk.1.1, ⟨hk.1.2.1, ⟨hk.1.2.2.1, ⟨hk.1.2.2.2.1, ⟨hk.1.2.2.2.2.1, ⟨hk.1.2.2.2.2.2.1, ⟨hk.1.2.2.2.2.2.2.1, hk.1.2.2.2.2.2.2.2⟩⟩⟩⟩⟩⟩⟩)⟩
 replace y : Aside0 (Kd.N (Kd.slice 3 (Kd.int .i64)) 30 w32 w.heap.size (fun b => some b ≠ (.slice I A.length J : Value).ownBlock ∧ some b ≠ (.slice M B.length O : Value).ownBlock ∧ some b ≠ (.slice P E.length Q : Value).ownBlock ∧ some b ≠ (.slice V F.length W : Value).ownBlock ∧ some b ≠ (.slice Y G.length Z : Value).ownBlock ∧ some b ≠ (.slice aq U.length ar : Value).ownBlock ∧ b ≠ l ∧ b ≠ c) ap ao) := ⟨by subst hq_; refine vN_ ?_; exact nm_ (fN_ (fN_ (fN_ (fN_ (fN_ (fN_ (fN_ (fN_ (nm_ y.out (fun b hk => (⟨hk, hk.2.2.2.2.2.2.2⟩ : _ ∧ b ≠ c))))))))))) (fun _ hk => ⟨hk.1.1, ⟨hk.1.2.1, ⟨hk.1.2.2.1, ⟨hk.1.2.2.2.1, ⟨hk.1.2.2.2.2.1, ⟨hk.1.2.2.2.2.2.1, ⟨hk.1.2.2.2.2.2.2.1, hk.1.2.2.2.2.2.2.2⟩⟩⟩⟩⟩⟩⟩)⟩
 replace d : Aside0 (w32.heap[l]? = some (.cells #[.int .u8 ak, .slice av ag.length c0_1, .slice aw ah.length c0_2, .slice ax ai.length c0_3, .int .i16 al, .int .u8 am, .slice ay aj.length c0_6] 29 (0, 0))) := ⟨by subst hq_; refine bk_ ?_; refine blk_far ?_ a.out _; refine bk_ ?_; refine blk_far ?_ a.out _; refine bk_ ?_; refine blk_far ?_ a.out _; refine bk_ ?_; refine blk_far ?_ a.out _; refine bk_ ?_; refine blk_far ?_ a.out _; refine bk_ ?_; refine blk_far ?_ a.out _; refine bk_ ?_; refine blk_far ?_ a.out _; refine bk_ ?_; refine blk_far ?_ a.out _; refine bk_ ?_; exact d.out⟩
 replace g : Aside0 (w32.heap[c]? = some (.cells #[.int .i64 X, .slice I A.length J, .slice M B.length O, .slice P E.length Q, .slice V F.length W, .slice Y G.length Z, .int .i64 an, .slice aq U.length ar] 32 (0, 0))) := ⟨by subst hq_; refine bk_ ?_; refine bu_ (cs := #[.int .i64 X, .slice I A.length J, .slice M B.length O, .slice P E.length Q, .slice V F.length W, .slice Y G.length Z, .int .i64 an, .slice none 0 0]) ?_ 7 _ rfl; refine bk_ ?_; refine bu_ (cs := #[.int .i64 X, .slice I A.length J, .slice M B.length O, .slice P E.length Q, .slice V F.length W, .slice Y G.length Z, .int .i64 0, .slice none 0 0]) ?_ 6 _ rfl; refine bk_ ?_; refine bu_ (cs := #[.int .i64 X, .slice I A.length J, .slice M B.length O, .slice P E.length Q, .slice V F.length W, .slice none 0 0, .int .i64 0, .slice none 0 0]) ?_ 5 _ rfl; refine bk_ ?_; refine bu_ (cs := #[.int .i64 X, .slice I A.length J, .slice M B.length O, .slice P E.length Q, .slice none 0 0, .slice none 0 0, .int .i64 0, .slice none 0 0]) ?_ 4 _ rfl; refine bk_ ?_; refine bu_ (cs := #[.int .i64 X, .slice I A.length J, .slice M B.length O, .slice none 0 0, .slice none 0 0, .slice none 0 0, .int .i64 0, .slice none 0 0]) ?_ 3 _ rfl; refine bk_ ?_; refine bu_ (cs := #[.int .i64 X, .slice I A.length J, .slice none 0 0, .slice none 0 0, .slice none 0 0, .slice none 0 0, .int .i64 0, .slice none 0 0]) ?_ 2 _ rfl; refine bk_ ?_; refine bu_ (cs := #[.int .i64 X, .slice none 0 0, .slice none 0 0, .slice none 0 0, .slice none 0 0, .slice none 0 0, .int .i64 0, .slice none 0 0]) ?_ 1 _ rfl; refine bk_ ?_; refine bu_ (cs := #[.int .i64 0, .slice none 0 0, .slice none 0 0, .slice none 0 0, .slice none 0 0, .slice none 0 0, .int .i64 0, .slice none 0 0]) ?_ 0 _ rfl; refine bk_ ?_; exact g.out⟩
 replace HB : Aside0 (Below w.heap.size w w32) := ⟨by subst hq_; exact bel_⟩
 rw [← hq_]
 clear hq_
 replace m := a_ (Kd.R_drew m.out)
 replace o := a_ (Kd.R_drew o.out)
 replace q := a_ (Kd.R_drew q.out)
 replace s := a_ (Kd.R_drew s.out)
 replace u := a_ (Kd.R_drew u.out)
 replace v := a_ (Kd.N_drew v.out)
 replace y := a_ (Kd.N_drew y.out)
 replace d := a_ (blk_drew d.out)
 replace g := a_ (blk_drew g.out)
 replace HB := a_ (below_drew1 HB.out)
 obtain ⟨aG, aH, bk⟩ := Kd.N_slice y.out
 (first | subst bk | (injection bk with f1_ f2_ f3_; have f4_ := f1_.symm; have f5_ := f3_.symm; clear f1_ f2_ f3_; subst f4_; subst f5_))
 refine start_ (n := 9) (S := fun w' => w'.cell? ⟨c, 0, none⟩ = some (.int .i64 X) ∧ w'.cell? ⟨c, 1, none⟩ = some (.slice I A.length J) ∧ w'.cell? ⟨c, 2, none⟩ = some (.slice M B.length O) ∧ w'.cell? ⟨c, 3, none⟩ = some (.slice P E.length Q) ∧ w'.cell? ⟨c, 4, none⟩ = some (.slice V F.length W) ∧ w'.cell? ⟨c, 5, none⟩ = some (.slice Y G.length Z) ∧ w'.cell? ⟨c, 6, none⟩ = some (.int .i64 an) ∧ w'.cell? ⟨c, 7, none⟩ = some (.slice aq U.length ar)) (ds := []) #[false, false, false, false, false, false, false, false, false] kr_ rfl rfl (ca8_ g.out) (fun hHeld => ?_); refine with_tabW jigsawlaw20_GccFilters.tab2 jigsawlaw20_GccFilters.bits2 (fun HT_ HW_ => ?_)
 generalize w32.drew = w33 at m o q s u v y d g HB hHeld ⊢
 refine pn_ 1 20 ao_ ?_
 refine tn_ 0 19 tw_ hHeld ?_
 refine onn_ 2 21 #[true, true, true, false, false, false, false, false, false] rfl rfl on_ (by decide) (fun K hK => ?_)
 refine goes_ Tryz.func11 kr_ rfl #[.slice aG ao.length aH] (by rfl) rfl rfl ar_ ?_
 with_reducible refine (jigsawlaw20_doms.calls k _ _ ao aF _ ?_ ?_ ?_ A5.out).mono ?_
 exact ca_ ((Kd.N_reads' y.out).2.2)
 exact (Kd.N_reads' y.out).2.1
 exact ca_ ((cb_ HRtab.out HB.out))
 rintro e w35 ⟨bT, rfl, aa, hb⟩
 refine ⟨_, rfl, ?_⟩
 have au := a_ (Kd.N_lower (nm_ (ok' := fun b => some b ≠ (.slice I A.length J : Value).ownBlock ∧ some b ≠ (.slice M B.length O : Value).ownBlock ∧ some b ≠ (.slice P E.length Q : Value).ownBlock ∧ some b ≠ (.slice V F.length W : Value).ownBlock ∧ some b ≠ (.slice Y G.length Z : Value).ownBlock ∧ some b ≠ (.slice aq U.length ar : Value).ownBlock ∧ some b ≠ (.slice aG ao.length aH : Value).ownBlock ∧ b ≠ l ∧ b ≠ c) aa (fun b hk_ => ⟨(fr_ (rl_ (vR_ m.out)) b hk_), (fr_ (rl_ (vR_ o.out)) b hk_), (fr_ (rl_ (vR_ q.out)) b hk_), (fr_ (rl_ (vR_ s.out)) b hk_), (fr_ (rl_ (vR_ u.out)) b hk_), (fr_ (Kd.N_lt (vN_ v.out)) b hk_), (fr_ (Kd.N_lt (vN_ y.out)) b hk_), (Kd.freshB (bk_ d.out) b hk_), (Kd.freshB (bk_ g.out) b hk_)⟩)) (bz_ bel_))
 replace m := a_ (rb_ (vR_ m.out) hb)
 replace o := a_ (rb_ (vR_ o.out) hb)
 replace q := a_ (rb_ (vR_ q.out) hb)
 replace s := a_ (rb_ (vR_ s.out) hb)
 replace u := a_ (rb_ (vR_ u.out) hb)
 replace v := a_ (Kd.N_elder' (vN_ v.out) (Kd.N_base aa) hb)
 replace y := a_ (Kd.N_elder' (vN_ y.out) (Kd.N_base aa) hb)
 replace d := a_ (bq_ d.out hb)
 replace g := a_ (bq_ g.out hb)
 replace HB := hq_ hb
 clear hb aa
 obtain ⟨aY, aZ, bl⟩ := Kd.N_slice au.out
 (first | subst bl | (injection bl with f1_ f2_ f3_; have f4_ := f1_.symm; have f5_ := f3_.symm; clear f1_ f2_ f3_; subst f4_; subst f5_))
 refine hK.out _ _ (ca8_ g.out) (fun hHeld => ?_)
 clear hK K
 refine nor_ (N := some 21) ?_
 refine onn_ 3 22 #[true, true, true, true, false, false, false, false, false] rfl rfl on_ (by decide) (fun K hK => ?_)
 refine goes_ Tryz.func10 kr_ rfl #[.agg #[.int .i64 X, .slice I A.length J, .slice M B.length O, .slice P E.length Q, .slice V F.length W, .slice Y G.length Z, .int .i64 an, .slice aq U.length ar], .slice aY aF.length aZ] (by rfl) rfl rfl ar_ ?_
 with_reducible refine (gcc_Filter.calls k X _ _ A _ _ B _ _ E _ _ F _ _ G an _ _ U (fun b => (some b ≠ (.slice I A.length J : Value).ownBlock ∧ (some b ≠ (.slice M B.length O : Value).ownBlock ∧ (some b ≠ (.slice P E.length Q : Value).ownBlock ∧ (some b ≠ (.slice V F.length W : Value).ownBlock ∧ (some b ≠ (.slice Y G.length Z : Value).ownBlock ∧ (some b ≠ (.slice aq U.length ar : Value).ownBlock ∧ (some b ≠ (.slice aG ao.length aH : Value).ownBlock ∧ (b ≠ l ∧ b ≠ c))))))))) _ _ aF a2 aO _ ?_ ?_ ?_ ?_ ?_ ?_ ?_ ?_ ?_ ?_ ?_ ?_ ?_ ?_ A6.out).mono ?_
 exact ca_ ((rr_ m.out).2.2)
 exact (rr_ m.out).2.1
 exact ca_ ((rr_ o.out).2.2)
 exact (rr_ o.out).2.1
 exact ca_ ((rr_ q.out).2.2)
 exact (rr_ q.out).2.1
 exact ca_ ((rr_ s.out).2.2)
 exact (rr_ s.out).2.1
 exact ca_ ((rr_ u.out).2.2)
 exact (rr_ u.out).2.1
 exact ca_ ((Kd.N_reads' v.out).2.2)
 exact (Kd.N_reads' v.out).2.1
 exact Kd.N_V (au.out)
 exact ca_ ((cb_ HRtab.out HB.out))
 rintro e w37 ⟨bm, rfl, aa, hb⟩
 refine ⟨_, rfl, ?_⟩
 replace au := a_ (Kd.N_elder' (vN_ au.out) (Kd.N_base aa) hb)
 have az := a_ (Kd.N_lower (nm_ (ok' := fun b => some b ≠ (.slice I A.length J : Value).ownBlock ∧ some b ≠ (.slice M B.length O : Value).ownBlock ∧ some b ≠ (.slice P E.length Q : Value).ownBlock ∧ some b ≠ (.slice V F.length W : Value).ownBlock ∧ some b ≠ (.slice Y G.length Z : Value).ownBlock ∧ some b ≠ (.slice aq U.length ar : Value).ownBlock ∧ some b ≠ (.slice aG ao.length aH : Value).ownBlock ∧ b ≠ l ∧ b ≠ c) aa (fun b hk_ => ⟨Or.elim hk_ (fun hs_ => hs_.1) (fun hn_ => (fr_ (rl_ (vR_ m.out)) b hn_)), Or.elim hk_ (fun hs_ => hs_.2.1) (fun hn_ => (fr_ (rl_ (vR_ o.out)) b hn_)), Or.elim hk_ (fun hs_ => hs_.2.2.1) (fun hn_ => (fr_ (rl_ (vR_ q.out)) b hn_)), Or.elim hk_ (fun hs_ => hs_.2.2.2.1) (fun hn_ => (fr_ (rl_ (vR_ s.out)) b hn_)), Or.elim hk_ (fun hs_ => hs_.2.2.2.2.1) (fun hn_ => (fr_ (rl_ (vR_ u.out)) b hn_)), Or.elim hk_ (fun hs_ => hs_.2.2.2.2.2.1) (fun hn_ => (fr_ (Kd.N_lt (vN_ v.out)) b hn_)), Or.elim hk_ (fun hs_ => hs_.2.2.2.2.2.2.1) (fun hn_ => (fr_ (Kd.N_lt (vN_ y.out)) b hn_)), Or.elim hk_ (fun hs_ => hs_.2.2.2.2.2.2.2.1) (fun hn_ => (Kd.freshB (bk_ d.out) b hn_)), Or.elim hk_ (fun hs_ => hs_.2.2.2.2.2.2.2.2) (fun hn_ => (Kd.freshB (bk_ g.out) b hn_))⟩)) (bz_ bel_))
 replace m := a_ (rb_ (vR_ m.out) hb)
 replace o := a_ (rb_ (vR_ o.out) hb)
 replace q := a_ (rb_ (vR_ q.out) hb)
 replace s := a_ (rb_ (vR_ s.out) hb)
 replace u := a_ (rb_ (vR_ u.out) hb)
 replace v := a_ (Kd.N_elder' (vN_ v.out) (Kd.N_base aa) hb)
 replace y := a_ (Kd.N_elder' (vN_ y.out) (Kd.N_base aa) hb)
 replace d := a_ (bq_ d.out hb)
 replace g := a_ (bq_ g.out hb)
 replace HB := hq_ hb
 clear hb aa
 refine hK.out _ _ (ca8_ g.out) (fun hHeld => ?_)
 clear hK K
 refine nor_ (N := some 22) ?_
 refine pn_ 4 18 ao_ ?_
 refine pn_ 5 23 ao_ ?_
 refine pn_ 6 24 ao_ ?_
 refine pn_ 7 7 ao_ ?_
 refine pn_ 8 8 ao_ ?_
 refine done_ dn_ ?_
 have bF := z.out
 have bG := a.out
 obtain ⟨_, _, _, _, _, _, _, _, _, _, _, _, _, _, _, _⟩ := cel8_ g.out
 try go_wp2_with (first | ((with_reducible refine gate_callee (f := 12) rfl ?_); refine goesL_ (some 28) rfl rfl Tryz.func12 kr_ rfl #[.agg #[.int .i64 X, .slice I A.length J, .slice M B.length O, .slice P E.length Q, .slice V F.length W, .slice Y G.length Z, .int .i64 an, .slice aq U.length ar], .slice aG ao.length aH] rfl ar_ ?_; (with_reducible refine (jigsawref20_Filter.calls k X _ _ A _ _ B _ _ E _ _ F _ _ G an _ _ U (fun b => (((some b ≠ (.slice I A.length J : Value).ownBlock ∧ (some b ≠ (.slice M B.length O : Value).ownBlock ∧ (some b ≠ (.slice P E.length Q : Value).ownBlock ∧ (some b ≠ (.slice V F.length W : Value).ownBlock ∧ (some b ≠ (.slice Y G.length Z : Value).ownBlock ∧ (some b ≠ (.slice aq U.length ar : Value).ownBlock ∧ (b ≠ l ∧ b ≠ c))))))) ∧ some b ≠ (.slice aY aF.length aZ : Value).ownBlock) ∧ some b ≠ bm.ownBlock)) _ _ ao bc aP _ ?_ ?_ ?_ ?_ ?_ ?_ ?_ ?_ ?_ ?_ ?_ ?_ ?_ A7.out).mono ?_); exact ca_ ((rr_ m.out).2.2); exact (rr_ m.out).2.1; exact ca_ ((rr_ o.out).2.2); exact (rr_ o.out).2.1; exact ca_ ((rr_ q.out).2.2); exact (rr_ q.out).2.1; exact ca_ ((rr_ s.out).2.2); exact (rr_ s.out).2.1; exact ca_ ((rr_ u.out).2.2); exact (rr_ u.out).2.1; exact ca_ ((Kd.N_reads' v.out).2.2); exact (Kd.N_reads' v.out).2.1; exact Kd.N_V (y.out); rintro e w40 ⟨bU, rfl, aa, hb⟩; refine ⟨_, rfl, ?_⟩; replace y := a_ (Kd.N_below (vN_ y.out) hb); have aC := a_ (Kd.V_lower (vm_ (ok' := fun b => some b ≠ (.slice I A.length J : Value).ownBlock ∧ some b ≠ (.slice M B.length O : Value).ownBlock ∧ some b ≠ (.slice P E.length Q : Value).ownBlock ∧ some b ≠ (.slice V F.length W : Value).ownBlock ∧ some b ≠ (.slice Y G.length Z : Value).ownBlock ∧ some b ≠ (.slice aq U.length ar : Value).ownBlock ∧ some b ≠ (.slice aY aF.length aZ : Value).ownBlock ∧ some b ≠ bm.ownBlock ∧ b ≠ l ∧ b ≠ c) aa (fun b hk_ => ⟨Or.elim hk_ (fun hs_ => hs_.1.1.1) (fun hn_ => (fr_ (rl_ (vR_ m.out)) b hn_)), Or.elim hk_ (fun hs_ => hs_.1.1.2.1) (fun hn_ => (fr_ (rl_ (vR_ o.out)) b hn_)), Or.elim hk_ (fun hs_ => hs_.1.1.2.2.1) (fun hn_ => (fr_ (rl_ (vR_ q.out)) b hn_)), Or.elim hk_ (fun hs_ => hs_.1.1.2.2.2.1) (fun hn_ => (fr_ (rl_ (vR_ s.out)) b hn_)), Or.elim hk_ (fun hs_ => hs_.1.1.2.2.2.2.1) (fun hn_ => (fr_ (rl_ (vR_ u.out)) b hn_)), Or.elim hk_ (fun hs_ => hs_.1.1.2.2.2.2.2.1) (fun hn_ => (fr_ (Kd.N_lt (vN_ v.out)) b hn_)), Or.elim hk_ (fun hs_ => hs_.1.2) (fun hn_ => (fr_ (Kd.N_lt (vN_ au.out)) b hn_)), Or.elim hk_ (fun hs_ => hs_.2) (fun hn_ => (fr_ (Kd.N_lt (vN_ az.out)) b hn_)), Or.elim hk_ (fun hs_ => hs_.1.1.2.2.2.2.2.2.1) (fun hn_ => (Kd.freshB (bk_ d.out) b hn_)), Or.elim hk_ (fun hs_ => hs_.1.1.2.2.2.2.2.2.2) (fun hn_ => (Kd.freshB (bk_ g.out) b hn_))⟩)) (bz_ bel_)); replace m := a_ (rb_ (vR_ m.out) hb); replace o := a_ (rb_ (vR_ o.out) hb); replace q := a_ (rb_ (vR_ q.out) hb); replace s := a_ (rb_ (vR_ s.out) hb); replace u := a_ (rb_ (vR_ u.out) hb); replace v := a_ (Kd.N_below (vN_ v.out) hb); replace au := a_ (Kd.N_below (vN_ au.out) hb); replace az := a_ (Kd.N_below (vN_ az.out) hb); replace d := a_ (bq_ d.out hb); replace g := a_ (bq_ g.out hb); replace HB := hq_ hb; clear hb aa) | ((with_reducible refine gate_callee (f := 13) rfl ?_); refine goesL_ (some 31) rfl rfl Tryz.func13 kr_ rfl #[] rfl ar_ ?_; (with_reducible refine (jigsawlaw20_wakes.calls k true _ ?_ A8.out).mono ?_); exact ca_ ((cb_ HRtab.out HB.out)); rintro e w41 ⟨rfl, hb⟩; refine ⟨_, rfl, ?_⟩; replace m := a_ (rb_ (vR_ m.out) hb); replace o := a_ (rb_ (vR_ o.out) hb); replace q := a_ (rb_ (vR_ q.out) hb); replace s := a_ (rb_ (vR_ s.out) hb); replace u := a_ (rb_ (vR_ u.out) hb); replace v := a_ (Kd.N_below (vN_ v.out) hb); replace y := a_ (Kd.N_below (vN_ y.out) hb); replace au := a_ (Kd.N_below (vN_ au.out) hb); replace az := a_ (Kd.N_below (vN_ az.out) hb); replace aC := a_ (vb_ (vV_ aC.out) hb); replace d := a_ (bq_ d.out hb); replace g := a_ (bq_ g.out hb); replace HB := hq_ hb; clear hb; obtain ⟨bv, bw, bx⟩ := Kd.N_slice az.out; subst bx) | (go_at_call 15; (with_reducible refine (jigsawlaw20_lists.calls k _ _ a2 bd _ ?_ ?_ ?_ bC.out).mono ?_); exact ca_ ((Kd.N_reads' az.out).2.2); exact (Kd.N_reads' az.out).2.1; exact ca_ ((cb_ HRtab.out HB.out)); rintro e w43 ⟨bV, rfl, aa, hb⟩; replace aC := a_ (Kd.V_elder' (vV_ aC.out) (Kd.N_base (Kd.S_N aa)) hb); have a0 := a_ (Kd.N_lower (nm_ (ok' := fun b => some b ≠ (.slice I A.length J : Value).ownBlock ∧ some b ≠ (.slice M B.length O : Value).ownBlock ∧ some b ≠ (.slice P E.length Q : Value).ownBlock ∧ some b ≠ (.slice V F.length W : Value).ownBlock ∧ some b ≠ (.slice Y G.length Z : Value).ownBlock ∧ some b ≠ (.slice aq U.length ar : Value).ownBlock ∧ some b ≠ (.slice aG ao.length aH : Value).ownBlock ∧ some b ≠ (.slice aY aF.length aZ : Value).ownBlock ∧ some b ≠ (.slice bv a2.length bw : Value).ownBlock ∧ b ≠ l ∧ b ≠ c) (Kd.S_N (Kd.S_bound aa)) (fun b hk_ => ⟨(fr_ (rl_ (vR_ m.out)) b hk_.2.1), (fr_ (rl_ (vR_ o.out)) b hk_.2.1), (fr_ (rl_ (vR_ q.out)) b hk_.2.1), (fr_ (rl_ (vR_ s.out)) b hk_.2.1), (fr_ (rl_ (vR_ u.out)) b hk_.2.1), (fr_ (Kd.N_lt (vN_ v.out)) b hk_.2.1), (fr_ (Kd.N_lt (vN_ y.out)) b hk_.2.1), (fr_ (Kd.N_lt (vN_ au.out)) b hk_.2.1), (fr_ (Kd.N_lt (vN_ az.out)) b hk_.2.1), (Kd.freshB (bk_ d.out) b hk_.2.1), (Kd.freshB (bk_ g.out) b hk_.2.1)⟩)) (bz_ bel_)); replace HB := hq_ hb; clear hb aa; obtain ⟨bW, bX, bz⟩ := Kd.N_slice a0.out; subst bz; obtain ⟨bY, bZ, bA⟩ := Kd.V_slice aC.out; subst bA) | (go_at_call 14; (with_reducible refine (jigsawref10_Same.calls k _ _ bd _ _ bc bu _ ?_ ?_ ?_ ?_ bD.out).mono ?_); exact ca_ ((Kd.N_reads' a0.out).2.2); exact (Kd.N_reads' a0.out).2.1; exact ca_ ((Kd.V_reads' aC.out).2.2); exact (Kd.V_reads' aC.out).2.1; rintro e w' ⟨rfl, ⟨nd, rfl⟩⟩))
 go_ret
 exact ⟨er_, bel_⟩

end Go.Proofs.YtijjhobjmehhoaaGreatDoor.XGccFilters
