-- by xprint.py, a program of this session, over the kit's print
import Derived.Test.YtckfbfdnlpnllaaGreatDoorXAFix0
import Derived.Test.YtckfbfdnlpnllaaGreatDoorXAFix5
import Derived.Test.YtckfbfdnlpnllaaGreatDoorXAFix6
import Derived.Test.YtckfbfdnlpnllaaGreatDoorXAFix9
import Derived.Test.YtckfbfdnlpnllaaGreatDoorXAFix10
import Derived.Test.YtckfbfdnlpnllaaGreatDoorXAFix16
import Derived.Test.YtckfbfdnlpnllaaGreatDoorXAFix18
import Derived.Test.YtckfbfdnlpnllaaGreatDoorXAFix19
import Derived.Test.YtckfbfdnlpnllaaGreatDoorXAFix20
import Derived.Test.YtckfbfdnlpnllaaGreatDoorSq
namespace Go.Proofs.YtckfbfdnlpnllaaGreatDoor.XAllDiffFilters
open Go.RowKit Go.Proofs.YtckfbfdnlpnllaaGreatDoor.Sq Go.Proofs.YtckfbfdnlpnllaaGreatDoorW.PrintWords Go.Proofs.YtckfbfdnlpnllaaGreatDoorW.PrintLast Go.Proofs.YtckfbfdnlpnllaaGreatDoorW.PrintMore
attribute [local go_sem] max2_int min2_int max_two min_two max_three min_three max_four min_four   -- for this text's walks alone
set_option linter.unusedVariables false
set_option linter.unusedSimpArgs false

/-! ### jigsawlaw16_AllDiffFilters: function 3 -/
def jigsawlaw16_AllDiffFilters.f (k : Nat) (e : Int) (g : List Int) (l : List Int) (m : List Int) (n : Int) (o : Int) (p : List (List Int)) (v : Int) : Option (Bool) := (jigsawlaw16_kind.f v).bind fun q => ((jigsawref10_Make.f k e g l m n o p q 6).bind fun a => ((jigsawref10_Solutions.f k a.1 a.2.1 a.2.2.1 a.2.2.2.1 a.2.2.2.2.1 a.2.2.2.2.2.1 a.2.2.2.2.2.2.1 a.2.2.2.2.2.2.2.1 a.2.2.2.2.2.2.2.2 4000).bind fun d => (if d.2 = true then ((jigsawlaw16_doms.f k a.2.2.2.2.2.2.2.2).bind fun r => ((alldiff_Filter.f k a.1 a.2.1 a.2.2.1 a.2.2.2.1 a.2.2.2.2.1 a.2.2.2.2.2.1 a.2.2.2.2.2.2.1 a.2.2.2.2.2.2.2.1 r).bind fun b => ((jigsawref10_Exact.f k a.1 a.2.1 a.2.2.1 a.2.2.2.1 a.2.2.2.2.1 a.2.2.2.2.2.1 a.2.2.2.2.2.2.1 a.2.2.2.2.2.2.2.1 a.2.2.2.2.2.2.2.2 4000).bind fun c => ((jigsawlaw16_wakes.f k).bind fun s => (if s = true then (if (b.2 == c.2) = true then ((jigsawlaw16_lists.f k b.1).bind fun t => ((jigsawref10_Same.f k t c.1).bind fun u => (some u))) else (none)) else (none)))))) else (none))))
theorem jigsawlaw16_AllDiffFilters.mono : ∀ a b c d e g l m k, LeO (jigsawlaw16_AllDiffFilters.f k a b c d e g l m) (jigsawlaw16_AllDiffFilters.f (k + 1) a b c d e g l m) := by
 intro a b c d e g l m k
 unfold jigsawlaw16_AllDiffFilters.f
 have m0 := @alldiff_Filter.mono
 have m1 := @jigsawlaw16_doms.mono
 have m2 := @jigsawlaw16_lists.mono
 have m3 := @jigsawlaw16_wakes.mono
 have m4 := @jigsawref10_Exact.mono
 have m5 := @jigsawref10_Make.mono
 have m6 := @jigsawref10_Same.mono
 have m7 := @jigsawref10_Solutions.mono
 exact leo_
def jigsawlaw16_AllDiffFilters.T1 : Bool × List (List Nat × List Nat) := (true, [([], []), ([], []), ([1], [1]), ([0, 2, 2], [0, 2]), ([3], [3]), ([4], [4]), ([4], [4]), ([], []), ([7, 5, 3, 0, 1, 2, 3, 4, 5, 7], [5, 7]), ([6, 8, 0, 1, 2, 3, 4, 5, 6, 7, 8], [6])])
def jigsawlaw16_AllDiffFilters.B1 : List Nat := [0, 0, 2, 7, 15, 31, 31, 0, 191, 511]
theorem jigsawlaw16_AllDiffFilters.tab1 : rtab .any (opsOf Tryz.f3 1) = jigsawlaw16_AllDiffFilters.T1 := by kernel_rfl
theorem jigsawlaw16_AllDiffFilters.bits1 : waitsOk jigsawlaw16_AllDiffFilters.T1.2 jigsawlaw16_AllDiffFilters.B1 = true := by kernel_rfl
def jigsawlaw16_AllDiffFilters.T5 : Bool × List (List Nat × List Nat) := (true, [([], []), ([], []), ([1], [1]), ([0, 2, 2], [0, 2]), ([3], [3]), ([4], [4]), ([4], [4]), ([5, 3, 0, 1, 2, 3, 4, 5], [5]), ([6, 7, 0, 1, 2, 3, 4, 5, 6, 7], [6])])
def jigsawlaw16_AllDiffFilters.B5 : List Nat := [0, 0, 2, 7, 15, 31, 31, 63, 255]
theorem jigsawlaw16_AllDiffFilters.tab5 : rtab .any (opsOf Tryz.f3 5) = jigsawlaw16_AllDiffFilters.T5 := by kernel_rfl
theorem jigsawlaw16_AllDiffFilters.bits5 : waitsOk jigsawlaw16_AllDiffFilters.T5.2 jigsawlaw16_AllDiffFilters.B5 = true := by kernel_rfl
set_option maxHeartbeats 8000000 in
set_option maxRecDepth 100000 in
theorem jigsawlaw16_AllDiffFilters.calls (k : Nat) (ap : Int) (av : Option Addr) (c0_1 : Nat) (ak : List Int) (aw : Option Addr) (c0_2 : Nat) (al : List Int) (ax : Option Addr) (c0_3 : Nat) (am : List Int) (aq : Int) (ar : Int) (ay : Option Addr) (c0_6 : Nat) (an : List (List Int)) (a1 : Int) (r : Bool) (w : World) (a5 : Kd.C (Kd.int .u8) w av ak.length ak) (a6 : ak.length ≤ c0_1) (a7 : Kd.C (Kd.int .u8) w aw al.length al) (a8 : al.length ≤ c0_2) (a9 : Kd.C (Kd.int .i8) w ax am.length am) (ba : am.length ≤ c0_3) (bb : Kd.C (Kd.slice 3 (Kd.int .i64)) w ay an.length an) (bc : an.length ≤ c0_6) (hrtab : Kd.C (Kd.int .u8) w (some ⟨0, 0, none⟩) tabL.length tabL) (h : jigsawlaw16_AllDiffFilters.f k ap ak al am aq ar an a1 = some r) :
  Calls Tryz.prog 3 #[.agg #[.int .u8 ap, .slice av ak.length c0_1, .slice aw al.length c0_2, .slice ax am.length c0_3, .int .i16 aq, .int .u8 ar, .slice ay an.length c0_6], .int .u8 a1] w fun e w' => e = .returned (.bool r) ∧ Below w.heap.size w w' := by
 have hu29 := Tryz.underlying29
 have hu32 := Tryz.underlying32
 have aU := a_ a5
 have aV := a_ a6
 clear a5 a6
 have aW := a_ a7
 have aX := a_ a8
 clear a7 a8
 have aY := a_ a9
 have aZ := a_ ba
 clear a9 ba
 have a0 := a_ bb
 have a2 := a_ bc
 clear bb bc
 have HRtab := a_ hrtab
 clear hrtab
 have HB := a_ (Below.refl w.heap.size w)
 unfold jigsawlaw16_AllDiffFilters.f at h
 have H := h
 clear h
 replace H := bo_ H
 obtain ⟨aF, A3, H⟩ := H
 try dsimp only at H
 replace H := bs_.mp H
 obtain ⟨⟨aa, E, G, I, J, M, ao, ad, ae⟩, bp, H⟩ := H
 try dsimp only at H
 have A4 := a_ bp
 clear bp
 replace H := bs_.mp H
 obtain ⟨⟨bv, bw⟩, bq, H⟩ := H
 try dsimp only at H
 have A5 := a_ bq
 clear bq
 by_cases c6 : bw = true
 rotate_left
 ·
  replace c6 := bf_.mpr c6
  subst c6
  have H1 : (none) = some r := by rw [ig_ (show ¬ (false = true) by decide)] at H; exact H
  clear H
  have H := H1
  clear H1
  exact ab_ H
 subst c6
 rw [ip_ rfl] at H
 replace H := bo_ H
 obtain ⟨aI, A7, H⟩ := H
 try dsimp only at H
 replace H := bs_.mp H
 obtain ⟨⟨a4, aP⟩, br, H⟩ := H
 try dsimp only at H
 have A8 := a_ br
 clear br
 replace H := bs_.mp H
 obtain ⟨⟨be, aQ⟩, bs, H⟩ := H
 try dsimp only at H
 have A9 := a_ bs
 clear bs
 replace H := bo_ H
 obtain ⟨bx, bI, H⟩ := H
 try dsimp only at H
 by_cases c11 : bx = true
 rotate_left
 ·
  replace c11 := bf_.mpr c11
  subst c11
  have H1 : (none) = some r := by rw [ig_ (show ¬ (false = true) by decide)] at H; exact H
  clear H
  have H := H1
  clear H1
  exact ab_ H
 subst c11
 rw [ip_ rfl] at H
 by_cases c12 : (aP == aQ) = true
 rotate_left
 ·
  rw [ig_ c12] at H
  exact ab_ H
 rw [ip_ c12] at H
 have c12b0 : (aP == aQ) = true := c12
 (try (have c12b1 : decide (aP = aQ) = true := by simpa using c12))
 (try (have c12b2 : (aP == aQ) = true := by simpa using c12))
 clear c12
 replace H := bo_ H
 obtain ⟨bf, bJ, H⟩ := H
 try dsimp only at H
 replace H := bo_ H
 obtain ⟨bz, bK, H⟩ := H
 try dsimp only at H
 obtain rfl := si_ H
 go_enter Tryz.func3, Tryz.ntmps3
 try go_wp2_with (first | ((with_reducible refine gate_dst (N := 2) rfl ?_); refine bxe_ (N := 2) (cs := #[.int .u8 ap, .slice av ak.length c0_1, .slice aw al.length c0_2, .slice ax am.length c0_3, .int .i16 aq, .int .u8 ar, .slice ay an.length c0_6]) (t := 29) ?_; intro o hg w15 hbox hb; have d := a_ (hbox); have bo := a_ (by rw [hg]; exact (bz_ bel_) : w.heap.size ≤ o); have bL := bo; replace HB := hq_ hb; clear hb hbox hg))
 replace d := a_ (blk_drew d.out)
 replace HB := a_ (below_drew1 HB.out)
 refine start_ (n := 10) (S := fun w' => w'.cell? ⟨o, 0, none⟩ = some (.int .u8 ap) ∧ w'.cell? ⟨o, 1, none⟩ = some (.slice av ak.length c0_1) ∧ w'.cell? ⟨o, 2, none⟩ = some (.slice aw al.length c0_2) ∧ w'.cell? ⟨o, 3, none⟩ = some (.slice ax am.length c0_3) ∧ w'.cell? ⟨o, 4, none⟩ = some (.int .i16 aq) ∧ w'.cell? ⟨o, 5, none⟩ = some (.int .u8 ar) ∧ w'.cell? ⟨o, 6, none⟩ = some (.slice ay an.length c0_6)) (ds := []) #[false, false, false, false, false, false, false, false, false, false] kr_ rfl rfl (ca7_ d.out) (fun hHeld => ?_); refine with_tabW jigsawlaw16_AllDiffFilters.tab1 jigsawlaw16_AllDiffFilters.bits1 (fun HT_ HW_ => ?_)
 generalize w15.drew = w16 at d HB hHeld ⊢
 refine pn_ 1 15 ao_ ?_
 refine tn_ 0 14 tw_ hHeld ?_
 refine join_ (σ := Value × Value × Value × Value × Value × Value × Value × Nat) 2 #[true, true, true, true, true, true, true, true, false, false] (fun s_ => [(16, .int .i64 aF), (17, .tuple #[.agg #[.int .i64 aa, s_.1, s_.2.1, s_.2.2.1, s_.2.2.2.1, s_.2.2.2.2.1, .int .i64 ao, s_.2.2.2.2.2.1], s_.2.2.2.2.2.2.1]), (5, .pointer (some ⟨s_.2.2.2.2.2.2.2, 0, none⟩)), (13, .tuple #[.agg #[.int .i64 aa, s_.1, s_.2.1, s_.2.2.1, s_.2.2.2.1, s_.2.2.2.2.1, .int .i64 ao, s_.2.2.2.2.2.1], s_.2.2.2.2.2.2.1]), (18, .agg #[.int .i64 aa, s_.1, s_.2.1, s_.2.2.1, s_.2.2.2.1, s_.2.2.2.2.1, .int .i64 ao, s_.2.2.2.2.2.1]), (19, s_.2.2.2.2.2.2.1)]) (fun s_ w' => (w'.cell? ⟨o, 0, none⟩ = some (.int .u8 ap) ∧ w'.cell? ⟨o, 1, none⟩ = some (.slice av ak.length c0_1) ∧ w'.cell? ⟨o, 2, none⟩ = some (.slice aw al.length c0_2) ∧ w'.cell? ⟨o, 3, none⟩ = some (.slice ax am.length c0_3) ∧ w'.cell? ⟨o, 4, none⟩ = some (.int .i16 aq) ∧ w'.cell? ⟨o, 5, none⟩ = some (.int .u8 ar) ∧ w'.cell? ⟨o, 6, none⟩ = some (.slice ay an.length c0_6)) ∧ (Kd.R (Kd.int .i64) 3 w' w.heap.size (fun a => some a ≠ (s_.2.1 : Value).ownBlock ∧ some a ≠ (s_.2.2.1 : Value).ownBlock ∧ some a ≠ (s_.2.2.2.1 : Value).ownBlock ∧ some a ≠ (s_.2.2.2.2.1 : Value).ownBlock) s_.1 E) ∧ (Kd.R (Kd.int .i64) 3 w' w.heap.size (fun a => some a ≠ (s_.1 : Value).ownBlock ∧ some a ≠ (s_.2.2.1 : Value).ownBlock ∧ some a ≠ (s_.2.2.2.1 : Value).ownBlock ∧ some a ≠ (s_.2.2.2.2.1 : Value).ownBlock) s_.2.1 G) ∧ (Kd.R (Kd.int .i64) 3 w' w.heap.size (fun a => some a ≠ (s_.1 : Value).ownBlock ∧ some a ≠ (s_.2.1 : Value).ownBlock ∧ some a ≠ (s_.2.2.2.1 : Value).ownBlock ∧ some a ≠ (s_.2.2.2.2.1 : Value).ownBlock) s_.2.2.1 I) ∧ (Kd.R (Kd.int .i64) 3 w' w.heap.size (fun a => some a ≠ (s_.1 : Value).ownBlock ∧ some a ≠ (s_.2.1 : Value).ownBlock ∧ some a ≠ (s_.2.2.1 : Value).ownBlock ∧ some a ≠ (s_.2.2.2.2.1 : Value).ownBlock) s_.2.2.2.1 J) ∧ (Kd.R (Kd.int .i64) 3 w' w.heap.size (fun a => some a ≠ (s_.1 : Value).ownBlock ∧ some a ≠ (s_.2.1 : Value).ownBlock ∧ some a ≠ (s_.2.2.1 : Value).ownBlock ∧ some a ≠ (s_.2.2.2.1 : Value).ownBlock) s_.2.2.2.2.1 M) ∧ (Kd.N (Kd.slice 3 (Kd.int .i64)) 30 w' w.heap.size (fun a => some a ≠ (s_.1 : Value).ownBlock ∧ some a ≠ (s_.2.1 : Value).ownBlock ∧ some a ≠ (s_.2.2.1 : Value).ownBlock ∧ some a ≠ (s_.2.2.2.1 : Value).ownBlock ∧ some a ≠ (s_.2.2.2.2.1 : Value).ownBlock ∧ some a ≠ (s_.2.2.2.2.2.2.1 : Value).ownBlock ∧ a ≠ o ∧ a ≠ s_.2.2.2.2.2.2.2) s_.2.2.2.2.2.1 ad) ∧ (Kd.N (Kd.slice 3 (Kd.int .i64)) 30 w' w.heap.size (fun a => some a ≠ (s_.1 : Value).ownBlock ∧ some a ≠ (s_.2.1 : Value).ownBlock ∧ some a ≠ (s_.2.2.1 : Value).ownBlock ∧ some a ≠ (s_.2.2.2.1 : Value).ownBlock ∧ some a ≠ (s_.2.2.2.2.1 : Value).ownBlock ∧ some a ≠ (s_.2.2.2.2.2.1 : Value).ownBlock ∧ a ≠ o ∧ a ≠ s_.2.2.2.2.2.2.2) s_.2.2.2.2.2.2.1 ae) ∧ (w'.heap[o]? = some (.cells #[.int .u8 ap, .slice av ak.length c0_1, .slice aw al.length c0_2, .slice ax am.length c0_3, .int .i16 aq, .int .u8 ar, .slice ay an.length c0_6] 29 (0, 0))) ∧ (w'.heap[s_.2.2.2.2.2.2.2]? = some (.cells #[.int .i64 0, .slice none 0 0, .slice none 0 0, .slice none 0 0, .slice none 0 0, .slice none 0 0, .int .i64 0, .slice none 0 0] 32 (0, 0))) ∧ (w.heap.size ≤ s_.2.2.2.2.2.2.2) ∧ (w.heap.size ≤ s_.2.2.2.2.2.2.2) ∧ (o ≠ s_.2.2.2.2.2.2.2) ∧ (s_.2.2.2.2.2.2.2 ≠ o) ∧ (Below w.heap.size w w')) ?_ ?_
 rotate_left
 ·
  intro hCont
  refine two_ (i := 2) (j := 7) (Ni := some 16) (Nj := some 5) #[true, true, true, false, false, false, false, false, false, false] #[true, true, false, false, false, false, false, true, false, false] rfl rfl rfl rfl (two_of HT_.out kr_) (by decide) (by decide) (fun K hK => ?_) (fun K hK => ?_)
  ·
   skip
   refine goes_ Tryz.func8 kr_ rfl #[.int .u8 a1] (by rfl) rfl rfl ar_ ?_
   with_reducible refine (jigsawlaw16_kind.calls a1 aF _ A3.out).mono ?_
   rintro e w' ⟨rfl, ⟨nd, rfl⟩⟩
   refine ⟨_, rfl, ?_⟩
   refine hK.out _ _ (ca7_ d.out) (fun hHeld => ?_)
   clear hK K
   refine nor_ (N := some 16) ?_
   refine two_ (i := 3) (j := 7) (Ni := some 17) (Nj := some 5) #[true, true, true, true, false, false, false, false, false, false] #[true, true, true, false, false, false, false, true, false, false] rfl rfl rfl rfl (two_of HT_.out kr_) (by decide) (by decide) (fun K hK => ?_) (fun K hK => ?_)
   ·
    skip
    refine goes_ Tryz.func7 kr_ rfl #[.agg #[.int .u8 ap, .slice av ak.length c0_1, .slice aw al.length c0_2, .slice ax am.length c0_3, .int .i16 aq, .int .u8 ar, .slice ay an.length c0_6], .int .i64 aF, .int .i64 6] (by rfl) rfl rfl ar_ ?_
    with_reducible refine (jigsawref10_Make.calls k ap _ _ ak _ _ al _ _ am aq ar _ _ an aF 6 aa E G I J M ao ad ae _ ?_ ?_ ?_ ?_ ?_ ?_ ?_ ?_ A4.out).mono ?_
    focus repeat (first | exact (cb_ aU.out bel_) | (with_reducible refine Kd.C_alloc ?_ _) | (with_reducible refine Kd.C_drewN ?_ _) | (with_reducible refine Kd.C_drew ?_))
    exact aV.out
    focus repeat (first | exact (cb_ aW.out bel_) | (with_reducible refine Kd.C_alloc ?_ _) | (with_reducible refine Kd.C_drewN ?_ _) | (with_reducible refine Kd.C_drew ?_))
    exact aX.out
    focus repeat (first | exact (cb_ aY.out bel_) | (with_reducible refine Kd.C_alloc ?_ _) | (with_reducible refine Kd.C_drewN ?_ _) | (with_reducible refine Kd.C_drew ?_))
    exact aZ.out
    focus repeat (first | exact (cb_ a0.out bel_) | (with_reducible refine Kd.C_alloc ?_ _) | (with_reducible refine Kd.C_drewN ?_ _) | (with_reducible refine Kd.C_drew ?_))
    exact a2.out
    rintro e w17 ⟨af, ag, ah, ai, aj, az, au, rfl, O, aJ, aK, aL, aM, aN, aO, hb⟩
    refine ⟨_, rfl, ?_⟩
    have A := a_ (Kd.R_lower O (bz_ bel_))
    have B := a_ (Kd.R_lower aJ (bz_ bel_))
    have q := a_ (Kd.R_lower aK (bz_ bel_))
    have s := a_ (Kd.R_lower aL (bz_ bel_))
    have u := a_ (Kd.R_lower aM (bz_ bel_))
    have m := a_ (Kd.N_lower (nm_ (ok' := fun a => some a ≠ af.ownBlock ∧ some a ≠ ag.ownBlock ∧ some a ≠ ah.ownBlock ∧ some a ≠ ai.ownBlock ∧ some a ≠ aj.ownBlock ∧ some a ≠ au.ownBlock ∧ a ≠ o) (Kd.S_N (Kd.S_bound aN)) (fun a hk_ => ⟨hk_.1.1, hk_.1.2.1, hk_.1.2.2.1, hk_.1.2.2.2.1, hk_.1.2.2.2.2.1, hk_.1.2.2.2.2.2, (Kd.freshB (bk_ d.out) a hk_.2.1)⟩)) (bz_ bel_))
    have l := a_ (Kd.N_lower (nm_ (ok' := fun a => some a ≠ af.ownBlock ∧ some a ≠ ag.ownBlock ∧ some a ≠ ah.ownBlock ∧ some a ≠ ai.ownBlock ∧ some a ≠ aj.ownBlock ∧ some a ≠ az.ownBlock ∧ a ≠ o) (Kd.S_N (Kd.S_bound aO)) (fun a hk_ => ⟨hk_.1.1, hk_.1.2.1, hk_.1.2.2.1, hk_.1.2.2.2.1, hk_.1.2.2.2.2.1, hk_.1.2.2.2.2.2, (Kd.freshB (bk_ d.out) a hk_.2.1)⟩)) (bz_ bel_))
    replace d := a_ (bq_ d.out hb)
    replace HB := hq_ hb
    clear hb O aJ aK aL aM aN aO
    refine hK.out _ _ (ca7_ d.out) (fun hHeld => ?_)
    clear hK K
    refine nor_ (N := some 17) ?_
    refine pn_ 4 13 ao_ ?_
    refine pn_ 5 18 ao_ ?_
    refine pn_ 6 19 ao_ ?_
    refine onn_ 7 5 #[true, true, true, true, true, true, true, true, false, false] rfl rfl on_ (by decide) (fun K hK => ?_)
    refine box_step ?hg (N := 5) ?hd (cs := #[.int .i64 0, .slice none 0 0, .slice none 0 0, .slice none 0 0, .slice none 0 0, .slice none 0 0, .int .i64 0, .slice none 0 0]) (t := 32) ?hr ?_; (case hd => rfl); (case hg => rfl); (case hr => first | (go_simp; done) | (go_simp; rfl))
    intro c hg w18 hbox hb
    replace A := a_ (rb_ (vR_ A.out) hb)
    replace B := a_ (rb_ (vR_ B.out) hb)
    replace q := a_ (rb_ (vR_ q.out) hb)
    replace s := a_ (rb_ (vR_ s.out) hb)
    replace u := a_ (rb_ (vR_ u.out) hb)
    replace m := a_ (Kd.N_below (Kd.N_elderB (vN_ m.out) c (Nat.le_of_eq hg.symm)) hb)
    replace l := a_ (Kd.N_below (Kd.N_elderB (vN_ l.out) c (Nat.le_of_eq hg.symm)) hb)
    have g := a_ (hbox)
    have aG := a_ ((by rw [hg]; exact (bz_ bel_) : w.heap.size ≤ c))
    have aH := a_ ((by rw [hg]; exact (bz_ bel_) : w.heap.size ≤ c))
    replace HB := hq_ hb
    have b := a_ ((by rw [hg]; exact Nat.ne_of_lt (blk_lt (bk_ d.out)) : o ≠ c))
    have F := a_ ((by rw [hg]; exact Nat.ne_of_gt (blk_lt (bk_ d.out)) : c ≠ o))
    replace d := a_ (bq_ d.out hb)
    clear hb hbox hg
    refine hK.out _ _ (ca7_ d.out) (fun hHeld => ?_)
    clear hK K
    refine nor_ (N := some 5) ?_
    exact norm_ (by simp only [putAll, Act.put, List.setIfInBounds_toArray, List.set_cons_zero, List.set_cons_succ]) (hCont (af, ag, ah, ai, aj, az, au, c) _ ⟨hHeld, (vR_ A.out), (vR_ B.out), (vR_ q.out), (vR_ s.out), (vR_ u.out), (by refine vN_ ?_; exact nm_ m.out (fun _ hk => ⟨hk.1.1, ⟨hk.1.2.1, ⟨hk.1.2.2.1, ⟨hk.1.2.2.2.1, ⟨hk.1.2.2.2.2.1, ⟨hk.1.2.2.2.2.2.1, ⟨hk.1.2.2.2.2.2.2, hk.2⟩⟩⟩⟩⟩⟩⟩)), (by refine vN_ ?_; exact nm_ l.out (fun _ hk => ⟨hk.1.1, ⟨hk.1.2.1, ⟨hk.1.2.2.1, ⟨hk.1.2.2.2.1, ⟨hk.1.2.2.2.2.1, ⟨hk.1.2.2.2.2.2.1, ⟨hk.1.2.2.2.2.2.2, hk.2⟩⟩⟩⟩⟩⟩⟩)), (bk_ d.out), (bk_ g.out), aG.out, aH.out, b.out, F.out, bel_⟩)
   skip
   refine box_step ?hg (N := 5) ?hd (cs := #[.int .i64 0, .slice none 0 0, .slice none 0 0, .slice none 0 0, .slice none 0 0, .slice none 0 0, .int .i64 0, .slice none 0 0]) (t := 32) ?hr ?_; (case hd => rfl); (case hg => rfl); (case hr => first | (go_simp; done) | (go_simp; rfl))
   intro c hg w17 hbox hb
   have g := a_ (hbox)
   have aG := a_ ((by rw [hg]; exact (bz_ bel_) : w.heap.size ≤ c))
   have aH := a_ ((by rw [hg]; exact (bz_ bel_) : w.heap.size ≤ c))
   replace HB := hq_ hb
   have b := a_ ((by rw [hg]; exact Nat.ne_of_lt (blk_lt (bk_ d.out)) : o ≠ c))
   have F := a_ ((by rw [hg]; exact Nat.ne_of_gt (blk_lt (bk_ d.out)) : c ≠ o))
   replace d := a_ (bq_ d.out hb)
   clear hb hbox hg
   refine hK.out _ _ (ca7_ d.out) (fun hHeld => ?_)
   clear hK K
   refine nor_ (N := some 5) ?_
   refine onn_ 3 17 #[true, true, true, true, false, false, false, true, false, false] rfl rfl on_ (by decide) (fun K hK => ?_)
   refine goes_ Tryz.func7 kr_ rfl #[.agg #[.int .u8 ap, .slice av ak.length c0_1, .slice aw al.length c0_2, .slice ax am.length c0_3, .int .i16 aq, .int .u8 ar, .slice ay an.length c0_6], .int .i64 aF, .int .i64 6] (by rfl) rfl rfl ar_ ?_
   with_reducible refine (jigsawref10_Make.calls k ap _ _ ak _ _ al _ _ am aq ar _ _ an aF 6 aa E G I J M ao ad ae _ ?_ ?_ ?_ ?_ ?_ ?_ ?_ ?_ A4.out).mono ?_
   exact ca_ ((cb_ aU.out HB.out))
   exact aV.out
   exact ca_ ((cb_ aW.out HB.out))
   exact aX.out
   exact ca_ ((cb_ aY.out HB.out))
   exact aZ.out
   exact ca_ ((cb_ a0.out HB.out))
   exact a2.out
   rintro e w18 ⟨af, ag, ah, ai, aj, az, au, rfl, O, aJ, aK, aL, aM, aN, aO, hb⟩
   refine ⟨_, rfl, ?_⟩
   have A := a_ (Kd.R_lower O (bz_ bel_))
   have B := a_ (Kd.R_lower aJ (bz_ bel_))
   have q := a_ (Kd.R_lower aK (bz_ bel_))
   have s := a_ (Kd.R_lower aL (bz_ bel_))
   have u := a_ (Kd.R_lower aM (bz_ bel_))
   have m := a_ (Kd.N_lower (nm_ (ok' := fun a => some a ≠ af.ownBlock ∧ some a ≠ ag.ownBlock ∧ some a ≠ ah.ownBlock ∧ some a ≠ ai.ownBlock ∧ some a ≠ aj.ownBlock ∧ some a ≠ au.ownBlock ∧ a ≠ o ∧ a ≠ c) (Kd.S_N (Kd.S_bound aN)) (fun a hk_ => ⟨hk_.1.1, hk_.1.2.1, hk_.1.2.2.1, hk_.1.2.2.2.1, hk_.1.2.2.2.2.1, hk_.1.2.2.2.2.2, (Kd.freshB (bk_ d.out) a hk_.2.1), (Kd.freshB (bk_ g.out) a hk_.2.1)⟩)) (bz_ bel_))
   have l := a_ (Kd.N_lower (nm_ (ok' := fun a => some a ≠ af.ownBlock ∧ some a ≠ ag.ownBlock ∧ some a ≠ ah.ownBlock ∧ some a ≠ ai.ownBlock ∧ some a ≠ aj.ownBlock ∧ some a ≠ az.ownBlock ∧ a ≠ o ∧ a ≠ c) (Kd.S_N (Kd.S_bound aO)) (fun a hk_ => ⟨hk_.1.1, hk_.1.2.1, hk_.1.2.2.1, hk_.1.2.2.2.1, hk_.1.2.2.2.2.1, hk_.1.2.2.2.2.2, (Kd.freshB (bk_ d.out) a hk_.2.1), (Kd.freshB (bk_ g.out) a hk_.2.1)⟩)) (bz_ bel_))
   replace d := a_ (bq_ d.out hb)
   replace g := a_ (bq_ g.out hb)
   replace HB := hq_ hb
   clear hb O aJ aK aL aM aN aO
   refine hK.out _ _ (ca7_ d.out) (fun hHeld => ?_)
   clear hK K
   refine nor_ (N := some 17) ?_
   refine pn_ 4 13 ao_ ?_
   refine pn_ 5 18 ao_ ?_
   refine pn_ 6 19 ao_ ?_
   exact norm_ (by simp only [putAll, Act.put, List.setIfInBounds_toArray, List.set_cons_zero, List.set_cons_succ]) (hCont (af, ag, ah, ai, aj, az, au, c) _ ⟨hHeld, (vR_ A.out), (vR_ B.out), (vR_ q.out), (vR_ s.out), (vR_ u.out), (vN_ m.out), (vN_ l.out), (bk_ d.out), (bk_ g.out), aG.out, aH.out, b.out, F.out, bel_⟩)
  skip
  refine box_step ?hg (N := 5) ?hd (cs := #[.int .i64 0, .slice none 0 0, .slice none 0 0, .slice none 0 0, .slice none 0 0, .slice none 0 0, .int .i64 0, .slice none 0 0]) (t := 32) ?hr ?_; (case hd => rfl); (case hg => rfl); (case hr => first | (go_simp; done) | (go_simp; rfl))
  intro c hg w17 hbox hb
  have g := a_ (hbox)
  have aG := a_ ((by rw [hg]; exact (bz_ bel_) : w.heap.size ≤ c))
  have aH := a_ ((by rw [hg]; exact (bz_ bel_) : w.heap.size ≤ c))
  replace HB := hq_ hb
  have b := a_ ((by rw [hg]; exact Nat.ne_of_lt (blk_lt (bk_ d.out)) : o ≠ c))
  have F := a_ ((by rw [hg]; exact Nat.ne_of_gt (blk_lt (bk_ d.out)) : c ≠ o))
  replace d := a_ (bq_ d.out hb)
  clear hb hbox hg
  refine hK.out _ _ (ca7_ d.out) (fun hHeld => ?_)
  clear hK K
  refine nor_ (N := some 5) ?_
  refine onn_ 2 16 #[true, true, true, false, false, false, false, true, false, false] rfl rfl on_ (by decide) (fun K hK => ?_)
  refine goes_ Tryz.func8 kr_ rfl #[.int .u8 a1] (by rfl) rfl rfl ar_ ?_
  with_reducible refine (jigsawlaw16_kind.calls a1 aF _ A3.out).mono ?_
  rintro e w' ⟨rfl, ⟨nd, rfl⟩⟩
  refine ⟨_, rfl, ?_⟩
  refine hK.out _ _ (ca7_ d.out) (fun hHeld => ?_)
  clear hK K
  refine nor_ (N := some 16) ?_
  refine onn_ 3 17 #[true, true, true, true, false, false, false, true, false, false] rfl rfl on_ (by decide) (fun K hK => ?_)
  refine goes_ Tryz.func7 kr_ rfl #[.agg #[.int .u8 ap, .slice av ak.length c0_1, .slice aw al.length c0_2, .slice ax am.length c0_3, .int .i16 aq, .int .u8 ar, .slice ay an.length c0_6], .int .i64 aF, .int .i64 6] (by rfl) rfl rfl ar_ ?_
  with_reducible refine (jigsawref10_Make.calls k ap _ _ ak _ _ al _ _ am aq ar _ _ an aF 6 aa E G I J M ao ad ae _ ?_ ?_ ?_ ?_ ?_ ?_ ?_ ?_ A4.out).mono ?_
  focus repeat (first | exact (cb_ aU.out bel_) | (with_reducible refine Kd.C_alloc ?_ _) | (with_reducible refine Kd.C_drewN ?_ _) | (with_reducible refine Kd.C_drew ?_))
  exact aV.out
  focus repeat (first | exact (cb_ aW.out bel_) | (with_reducible refine Kd.C_alloc ?_ _) | (with_reducible refine Kd.C_drewN ?_ _) | (with_reducible refine Kd.C_drew ?_))
  exact aX.out
  focus repeat (first | exact (cb_ aY.out bel_) | (with_reducible refine Kd.C_alloc ?_ _) | (with_reducible refine Kd.C_drewN ?_ _) | (with_reducible refine Kd.C_drew ?_))
  exact aZ.out
  focus repeat (first | exact (cb_ a0.out bel_) | (with_reducible refine Kd.C_alloc ?_ _) | (with_reducible refine Kd.C_drewN ?_ _) | (with_reducible refine Kd.C_drew ?_))
  exact a2.out
  rintro e w18 ⟨af, ag, ah, ai, aj, az, au, rfl, O, aJ, aK, aL, aM, aN, aO, hb⟩
  refine ⟨_, rfl, ?_⟩
  have A := a_ (Kd.R_lower O (bz_ bel_))
  have B := a_ (Kd.R_lower aJ (bz_ bel_))
  have q := a_ (Kd.R_lower aK (bz_ bel_))
  have s := a_ (Kd.R_lower aL (bz_ bel_))
  have u := a_ (Kd.R_lower aM (bz_ bel_))
  have m := a_ (Kd.N_lower (nm_ (ok' := fun a => some a ≠ af.ownBlock ∧ some a ≠ ag.ownBlock ∧ some a ≠ ah.ownBlock ∧ some a ≠ ai.ownBlock ∧ some a ≠ aj.ownBlock ∧ some a ≠ au.ownBlock ∧ a ≠ o ∧ a ≠ c) (Kd.S_N (Kd.S_bound aN)) (fun a hk_ => ⟨hk_.1.1, hk_.1.2.1, hk_.1.2.2.1, hk_.1.2.2.2.1, hk_.1.2.2.2.2.1, hk_.1.2.2.2.2.2, (Kd.freshB (bk_ d.out) a hk_.2.1), (Kd.freshB (bk_ g.out) a hk_.2.1)⟩)) (bz_ bel_))
  have l := a_ (Kd.N_lower (nm_ (ok' := fun a => some a ≠ af.ownBlock ∧ some a ≠ ag.ownBlock ∧ some a ≠ ah.ownBlock ∧ some a ≠ ai.ownBlock ∧ some a ≠ aj.ownBlock ∧ some a ≠ az.ownBlock ∧ a ≠ o ∧ a ≠ c) (Kd.S_N (Kd.S_bound aO)) (fun a hk_ => ⟨hk_.1.1, hk_.1.2.1, hk_.1.2.2.1, hk_.1.2.2.2.1, hk_.1.2.2.2.2.1, hk_.1.2.2.2.2.2, (Kd.freshB (bk_ d.out) a hk_.2.1), (Kd.freshB (bk_ g.out) a hk_.2.1)⟩)) (bz_ bel_))
  replace d := a_ (bq_ d.out hb)
  replace g := a_ (bq_ g.out hb)
  replace HB := hq_ hb
  clear hb O aJ aK aL aM aN aO
  refine hK.out _ _ (ca7_ d.out) (fun hHeld => ?_)
  clear hK K
  refine nor_ (N := some 17) ?_
  refine pn_ 4 13 ao_ ?_
  refine pn_ 5 18 ao_ ?_
  refine pn_ 6 19 ao_ ?_
  exact norm_ (by simp only [putAll, Act.put, List.setIfInBounds_toArray, List.set_cons_zero, List.set_cons_succ]) (hCont (af, ag, ah, ai, aj, az, au, c) _ ⟨hHeld, (vR_ A.out), (vR_ B.out), (vR_ q.out), (vR_ s.out), (vR_ u.out), (vN_ m.out), (vN_ l.out), (bk_ d.out), (bk_ g.out), aG.out, aH.out, b.out, F.out, bel_⟩)
 rintro ⟨af, ag, ah, ai, aj, az, au, c⟩ w19 ⟨hS_, h0_, h1_, h2_, h3_, h4_, h5_, h6_, h7_, h8_, h9_, h10_, h11_, h12_, h13_⟩
 have A : Aside0 (Kd.R (Kd.int .i64) 3 w19 w.heap.size (fun a => some a ≠ ag.ownBlock ∧ some a ≠ ah.ownBlock ∧ some a ≠ ai.ownBlock ∧ some a ≠ aj.ownBlock) af E) := ⟨h0_⟩
 have B : Aside0 (Kd.R (Kd.int .i64) 3 w19 w.heap.size (fun a => some a ≠ af.ownBlock ∧ some a ≠ ah.ownBlock ∧ some a ≠ ai.ownBlock ∧ some a ≠ aj.ownBlock) ag G) := ⟨h1_⟩
 have q : Aside0 (Kd.R (Kd.int .i64) 3 w19 w.heap.size (fun a => some a ≠ af.ownBlock ∧ some a ≠ ag.ownBlock ∧ some a ≠ ai.ownBlock ∧ some a ≠ aj.ownBlock) ah I) := ⟨h2_⟩
 have s : Aside0 (Kd.R (Kd.int .i64) 3 w19 w.heap.size (fun a => some a ≠ af.ownBlock ∧ some a ≠ ag.ownBlock ∧ some a ≠ ah.ownBlock ∧ some a ≠ aj.ownBlock) ai J) := ⟨h3_⟩
 have u : Aside0 (Kd.R (Kd.int .i64) 3 w19 w.heap.size (fun a => some a ≠ af.ownBlock ∧ some a ≠ ag.ownBlock ∧ some a ≠ ah.ownBlock ∧ some a ≠ ai.ownBlock) aj M) := ⟨h4_⟩
 have m : Aside0 (Kd.N (Kd.slice 3 (Kd.int .i64)) 30 w19 w.heap.size (fun a => some a ≠ af.ownBlock ∧ some a ≠ ag.ownBlock ∧ some a ≠ ah.ownBlock ∧ some a ≠ ai.ownBlock ∧ some a ≠ aj.ownBlock ∧ some a ≠ au.ownBlock ∧ a ≠ o ∧ a ≠ c) az ad) := ⟨h5_⟩
 have l : Aside0 (Kd.N (Kd.slice 3 (Kd.int .i64)) 30 w19 w.heap.size (fun a => some a ≠ af.ownBlock ∧ some a ≠ ag.ownBlock ∧ some a ≠ ah.ownBlock ∧ some a ≠ ai.ownBlock ∧ some a ≠ aj.ownBlock ∧ some a ≠ az.ownBlock ∧ a ≠ o ∧ a ≠ c) au ae) := ⟨h6_⟩
 replace d : Aside0 (w19.heap[o]? = some (.cells #[.int .u8 ap, .slice av ak.length c0_1, .slice aw al.length c0_2, .slice ax am.length c0_3, .int .i16 aq, .int .u8 ar, .slice ay an.length c0_6] 29 (0, 0))) := ⟨h7_⟩
 have g : Aside0 (w19.heap[c]? = some (.cells #[.int .i64 0, .slice none 0 0, .slice none 0 0, .slice none 0 0, .slice none 0 0, .slice none 0 0, .int .i64 0, .slice none 0 0] 32 (0, 0))) := ⟨h8_⟩
 have aG : Aside0 (w.heap.size ≤ c) := ⟨h9_⟩
 have aH : Aside0 (w.heap.size ≤ c) := ⟨h10_⟩
 have b : Aside0 (o ≠ c) := ⟨h11_⟩
 have F : Aside0 (c ≠ o) := ⟨h12_⟩
 replace HB : Aside0 (Below w.heap.size w w19) := ⟨h13_⟩
 clear h0_ h1_ h2_ h3_ h4_ h5_ h6_ h7_ h8_ h9_ h10_ h11_ h12_ h13_
 have hHeld : w19.cell? ⟨o, 0, none⟩ = some (.int .u8 ap) ∧ w19.cell? ⟨o, 1, none⟩ = some (.slice av ak.length c0_1) ∧ w19.cell? ⟨o, 2, none⟩ = some (.slice aw al.length c0_2) ∧ w19.cell? ⟨o, 3, none⟩ = some (.slice ax am.length c0_3) ∧ w19.cell? ⟨o, 4, none⟩ = some (.int .i16 aq) ∧ w19.cell? ⟨o, 5, none⟩ = some (.int .u8 ar) ∧ w19.cell? ⟨o, 6, none⟩ = some (.slice ay an.length c0_6) := hS_
 obtain ⟨P, Q, bg⟩ := Kd.R_slice A.out
 (first | subst bg | (injection bg with f1_ f2_ f3_; have f4_ := f1_.symm; have f5_ := f3_.symm; clear f1_ f2_ f3_; subst f4_; subst f5_))
 obtain ⟨U, V, bh⟩ := Kd.R_slice B.out
 (first | subst bh | (injection bh with f1_ f2_ f3_; have f4_ := f1_.symm; have f5_ := f3_.symm; clear f1_ f2_ f3_; subst f4_; subst f5_))
 obtain ⟨W, X, bi⟩ := Kd.R_slice q.out
 (first | subst bi | (injection bi with f1_ f2_ f3_; have f4_ := f1_.symm; have f5_ := f3_.symm; clear f1_ f2_ f3_; subst f4_; subst f5_))
 obtain ⟨Y, Z, bj⟩ := Kd.R_slice s.out
 (first | subst bj | (injection bj with f1_ f2_ f3_; have f4_ := f1_.symm; have f5_ := f3_.symm; clear f1_ f2_ f3_; subst f4_; subst f5_))
 obtain ⟨ab, ac, bk⟩ := Kd.R_slice u.out
 (first | subst bk | (injection bk with f1_ f2_ f3_; have f4_ := f1_.symm; have f5_ := f3_.symm; clear f1_ f2_ f3_; subst f4_; subst f5_))
 obtain ⟨aA, aB, bl⟩ := Kd.N_slice m.out
 (first | subst bl | (injection bl with f1_ f2_ f3_; have f4_ := f1_.symm; have f5_ := f3_.symm; clear f1_ f2_ f3_; subst f4_; subst f5_))
 refine norm_ (a' := ?_) ?_ ?_
 rotate_left
 ·
  simp only [putAll, Act.put, List.setIfInBounds_toArray, List.set_cons_zero, List.set_cons_succ]
  rfl
 refine one_ (i := 8) (N := none) #[true, true, true, true, true, true, true, true, true, false] rfl rfl on_ (by decide) (fun K hK => ?_)
 have bS : w19.cell? ⟨c, 0, none⟩ = some (.int .i64 0) := (blk_cell g.out 0).trans rfl
 have hfs20 := blk_frozen g.out 0
 have hns20_0 := b.out
 have hms20_0 := F.out
 have bT : w19.cell? ⟨c, 1, none⟩ = some (.slice none 0 0) := (blk_cell g.out 1).trans rfl
 have hfs22 := blk_frozen g.out 1
 have hns22_0 := b.out
 have hms22_0 := F.out
 have bU : w19.cell? ⟨c, 2, none⟩ = some (.slice none 0 0) := (blk_cell g.out 2).trans rfl
 have hfs24 := blk_frozen g.out 2
 have hns24_0 := b.out
 have hms24_0 := F.out
 have bV : w19.cell? ⟨c, 3, none⟩ = some (.slice none 0 0) := (blk_cell g.out 3).trans rfl
 have hfs26 := blk_frozen g.out 3
 have hns26_0 := b.out
 have hms26_0 := F.out
 have bW : w19.cell? ⟨c, 4, none⟩ = some (.slice none 0 0) := (blk_cell g.out 4).trans rfl
 have hfs28 := blk_frozen g.out 4
 have hns28_0 := b.out
 have hms28_0 := F.out
 have bX : w19.cell? ⟨c, 5, none⟩ = some (.slice none 0 0) := (blk_cell g.out 5).trans rfl
 have hfs30 := blk_frozen g.out 5
 have hns30_0 := b.out
 have hms30_0 := F.out
 have bY : w19.cell? ⟨c, 6, none⟩ = some (.int .i64 0) := (blk_cell g.out 6).trans rfl
 have hfs31 := blk_frozen g.out 6
 have hns31_0 := b.out
 have hms31_0 := F.out
 have bZ : w19.cell? ⟨c, 7, none⟩ = some (.slice none 0 0) := (blk_cell g.out 7).trans rfl
 have hfs33 := blk_frozen g.out 7
 have hns33_0 := b.out
 have hms33_0 := F.out
 refine skip_ (w1 := ?_) (by rfl) rfl ?_ ?_
 rotate_left
 ·
  go_simp
  rfl
 refine hK.out _ _ ⟨((cell_far (p := ⟨c, _, none⟩) b.out _).trans (((cell_far (p := ⟨c, _, none⟩) b.out _).trans (((cell_far (p := ⟨c, _, none⟩) b.out _).trans (((cell_far (p := ⟨c, _, none⟩) b.out _).trans (((cell_far (p := ⟨c, _, none⟩) b.out _).trans (((cell_far (p := ⟨c, _, none⟩) b.out _).trans (((cell_far (p := ⟨c, _, none⟩) b.out _).trans (((cell_far (p := ⟨c, _, none⟩) b.out _).trans (hHeld.1)))))))))))))))), ((cell_far (p := ⟨c, _, none⟩) b.out _).trans (((cell_far (p := ⟨c, _, none⟩) b.out _).trans (((cell_far (p := ⟨c, _, none⟩) b.out _).trans (((cell_far (p := ⟨c, _, none⟩) b.out _).trans (((cell_far (p := ⟨c, _, none⟩) b.out _).trans (((cell_far (p := ⟨c, _, none⟩) b.out _).trans (((cell_far (p := ⟨c, _, none⟩) b.out _).trans (((cell_far (p := ⟨c, _, none⟩) b.out _).trans (hHeld.2.1)))))))))))))))), ((cell_far (p := ⟨c, _, none⟩) b.out _).trans (((cell_far (p := ⟨c, _, none⟩) b.out _).trans (((cell_far (p := ⟨c, _, none⟩) b.out _).trans (((cell_far (p := ⟨c, _, none⟩) b.out _).trans (((cell_far (p := ⟨c, _, none⟩) b.out _).trans (((cell_far (p := ⟨c, _, none⟩) b.out _).trans (((cell_far (p := ⟨c, _, none⟩) b.out _).trans (((cell_far (p := ⟨c, _, none⟩) b.out _).trans (hHeld.2.2.1)))))))))))))))), ((cell_far (p := ⟨c, _, none⟩) b.out _).trans (((cell_far (p := ⟨c, _, none⟩) b.out _).trans (((cell_far (p := ⟨c, _, none⟩) b.out _).trans (((cell_far (p := ⟨c, _, none⟩) b.out _).trans (((cell_far (p := ⟨c, _, none⟩) b.out _).trans (((cell_far (p := ⟨c, _, none⟩) b.out _).trans (((cell_far (p := ⟨c, _, none⟩) b.out _).trans (((cell_far (p := ⟨c, _, none⟩) b.out _).trans (hHeld.2.2.2.1)))))))))))))))), ((cell_far (p := ⟨c, _, none⟩) b.out _).trans (((cell_far (p := ⟨c, _, none⟩) b.out _).trans (((cell_far (p := ⟨c, _, none⟩) b.out _).trans (((cell_far (p := ⟨c, _, none⟩) b.out _).trans (((cell_far (p := ⟨c, _, none⟩) b.out _).trans (((cell_far (p := ⟨c, _, none⟩) b.out _).trans (((cell_far (p := ⟨c, _, none⟩) b.out _).trans (((cell_far (p := ⟨c, _, none⟩) b.out _).trans (hHeld.2.2.2.2.1)))))))))))))))), ((cell_far (p := ⟨c, _, none⟩) b.out _).trans (((cell_far (p := ⟨c, _, none⟩) b.out _).trans (((cell_far (p := ⟨c, _, none⟩) b.out _).trans (((cell_far (p := ⟨c, _, none⟩) b.out _).trans (((cell_far (p := ⟨c, _, none⟩) b.out _).trans (((cell_far (p := ⟨c, _, none⟩) b.out _).trans (((cell_far (p := ⟨c, _, none⟩) b.out _).trans (((cell_far (p := ⟨c, _, none⟩) b.out _).trans (hHeld.2.2.2.2.2.1)))))))))))))))), ((cell_far (p := ⟨c, _, none⟩) b.out _).trans (((cell_far (p := ⟨c, _, none⟩) b.out _).trans (((cell_far (p := ⟨c, _, none⟩) b.out _).trans (((cell_far (p := ⟨c, _, none⟩) b.out _).trans (((cell_far (p := ⟨c, _, none⟩) b.out _).trans (((cell_far (p := ⟨c, _, none⟩) b.out _).trans (((cell_far (p := ⟨c, _, none⟩) b.out _).trans (((cell_far (p := ⟨c, _, none⟩) b.out _).trans (hHeld.2.2.2.2.2.2))))))))))))))))⟩ (fun hHeld => ?_)
 clear hK K
 refine pn_ 9 6 ao_ ?_
 refine done_ dn_ ?_
 obtain ⟨w34, hq_⟩ : ∃ x, x = ((((((((w19.setCell ⟨c, 0, none⟩ (.int .i64 aa)).setCell ⟨c, 1, none⟩ (.slice P E.length Q)).setCell ⟨c, 2, none⟩ (.slice U G.length V)).setCell ⟨c, 3, none⟩ (.slice W I.length X)).setCell ⟨c, 4, none⟩ (.slice Y J.length Z)).setCell ⟨c, 5, none⟩ (.slice ab M.length ac)).setCell ⟨c, 6, none⟩ (.int .i64 ao)).setCell ⟨c, 7, none⟩ (.slice aA ad.length aB)) := ⟨_, rfl⟩
 replace A : Aside0 (Kd.R (Kd.int .i64) 3 w34 w.heap.size (fun a => some a ≠ (.slice U G.length V : Value).ownBlock ∧ some a ≠ (.slice W I.length X : Value).ownBlock ∧ some a ≠ (.slice Y J.length Z : Value).ownBlock ∧ some a ≠ (.slice ab M.length ac : Value).ownBlock) (.slice P E.length Q) E) := ⟨by subst hq_; refine vR_ ?_; exact rm_ (fR_ (fR_ (fR_ (fR_ (fR_ (fR_ (fR_ (fR_ (rt_ A.out g.out (by decide)))))))))) (fun _ hk => ⟨hk.1.1, ⟨hk.1.2.1, ⟨hk.1.2.2.1, hk.1.2.2.2⟩⟩⟩)⟩
 replace B : Aside0 (Kd.R (Kd.int .i64) 3 w34 w.heap.size (fun a => some a ≠ (.slice P E.length Q : Value).ownBlock ∧ some a ≠ (.slice W I.length X : Value).ownBlock ∧ some a ≠ (.slice Y J.length Z : Value).ownBlock ∧ some a ≠ (.slice ab M.length ac : Value).ownBlock) (.slice U G.length V) G) := ⟨by subst hq_; refine vR_ ?_; exact rm_ (fR_ (fR_ (fR_ (fR_ (fR_ (fR_ (fR_ (fR_ (rt_ B.out g.out (by decide)))))))))) (fun _ hk => ⟨hk.1.1, ⟨hk.1.2.1, ⟨hk.1.2.2.1, hk.1.2.2.2⟩⟩⟩)⟩
 replace q : Aside0 (Kd.R (Kd.int .i64) 3 w34 w.heap.size (fun a => some a ≠ (.slice P E.length Q : Value).ownBlock ∧ some a ≠ (.slice U G.length V : Value).ownBlock ∧ some a ≠ (.slice Y J.length Z : Value).ownBlock ∧ some a ≠ (.slice ab M.length ac : Value).ownBlock) (.slice W I.length X) I) := ⟨by subst hq_; refine vR_ ?_; exact rm_ (fR_ (fR_ (fR_ (fR_ (fR_ (fR_ (fR_ (fR_ (rt_ q.out g.out (by decide)))))))))) (fun _ hk => ⟨hk.1.1, ⟨hk.1.2.1, ⟨hk.1.2.2.1, hk.1.2.2.2⟩⟩⟩)⟩
 replace s : Aside0 (Kd.R (Kd.int .i64) 3 w34 w.heap.size (fun a => some a ≠ (.slice P E.length Q : Value).ownBlock ∧ some a ≠ (.slice U G.length V : Value).ownBlock ∧ some a ≠ (.slice W I.length X : Value).ownBlock ∧ some a ≠ (.slice ab M.length ac : Value).ownBlock) (.slice Y J.length Z) J) := ⟨by subst hq_; refine vR_ ?_; exact rm_ (fR_ (fR_ (fR_ (fR_ (fR_ (fR_ (fR_ (fR_ (rt_ s.out g.out (by decide)))))))))) (fun _ hk => ⟨hk.1.1, ⟨hk.1.2.1, ⟨hk.1.2.2.1, hk.1.2.2.2⟩⟩⟩)⟩
 replace u : Aside0 (Kd.R (Kd.int .i64) 3 w34 w.heap.size (fun a => some a ≠ (.slice P E.length Q : Value).ownBlock ∧ some a ≠ (.slice U G.length V : Value).ownBlock ∧ some a ≠ (.slice W I.length X : Value).ownBlock ∧ some a ≠ (.slice Y J.length Z : Value).ownBlock) (.slice ab M.length ac) M) := ⟨by subst hq_; refine vR_ ?_; exact rm_ (fR_ (fR_ (fR_ (fR_ (fR_ (fR_ (fR_ (fR_ (rt_ u.out g.out (by decide)))))))))) (fun _ hk => ⟨hk.1.1, ⟨hk.1.2.1, ⟨hk.1.2.2.1, hk.1.2.2.2⟩⟩⟩)⟩
 replace m : Aside0 (Kd.N (Kd.slice 3 (Kd.int .i64)) 30 w34 w.heap.size (fun a => some a ≠ (.slice P E.length Q : Value).ownBlock ∧ some a ≠ (.slice U G.length V : Value).ownBlock ∧ some a ≠ (.slice W I.length X : Value).ownBlock ∧ some a ≠ (.slice Y J.length Z : Value).ownBlock ∧ some a ≠ (.slice ab M.length ac : Value).ownBlock ∧ some a ≠ au.ownBlock ∧ a ≠ o ∧ a ≠ c) (.slice aA ad.length aB) ad) := ⟨by subst hq_; refine vN_ ?_; exact nm_ (fN_ (fN_ (fN_ (fN_ (fN_ (fN_ (fN_ (fN_ (nm_ m.out (fun a hk => (⟨hk, hk.2.2.2.2.2.2.2⟩ : _ ∧ a ≠ c))))))))))) (fun _ hk => ⟨hk.1.1, ⟨hk.1.2.1, ⟨hk.1.2.2.1, ⟨hk.1.2.2.2.1, ⟨hk.1.2.2.2.2.1, ⟨hk.1.2.2.2.2.2.1, ⟨hk.1.2.2.2.2.2.2.1, hk.1.2.2.2.2.2.2.2⟩⟩⟩⟩⟩⟩⟩)⟩
 replace l : Aside0 (Kd.N (Kd.slice 3 (Kd.int .i64)) 30 w34 w.heap.size (fun a => some a ≠ (.slice P E.length Q : Value).ownBlock ∧ some a ≠ (.slice U G.length V : Value).ownBlock ∧ some a ≠ (.slice W I.length X : Value).ownBlock ∧ some a ≠ (.slice Y J.length Z : Value).ownBlock ∧ some a ≠ (.slice ab M.length ac : Value).ownBlock ∧ some a ≠ (.slice aA ad.length aB : Value).ownBlock ∧ a ≠ o ∧ a ≠ c) au ae) := ⟨by subst hq_; refine vN_ ?_; exact nm_ (fN_ (fN_ (fN_ (fN_ (fN_ (fN_ (fN_ (fN_ (nm_ l.out (fun a hk => (⟨hk, hk.2.2.2.2.2.2.2⟩ : _ ∧ a ≠ c))))))))))) (fun _ hk => ⟨hk.1.1, ⟨hk.1.2.1, ⟨hk.1.2.2.1, ⟨hk.1.2.2.2.1, ⟨hk.1.2.2.2.2.1, ⟨hk.1.2.2.2.2.2.1, ⟨hk.1.2.2.2.2.2.2.1, hk.1.2.2.2.2.2.2.2⟩⟩⟩⟩⟩⟩⟩)⟩
 replace d : Aside0 (w34.heap[o]? = some (.cells #[.int .u8 ap, .slice av ak.length c0_1, .slice aw al.length c0_2, .slice ax am.length c0_3, .int .i16 aq, .int .u8 ar, .slice ay an.length c0_6] 29 (0, 0))) := ⟨by subst hq_; refine bk_ ?_; refine blk_far ?_ b.out _; refine bk_ ?_; refine blk_far ?_ b.out _; refine bk_ ?_; refine blk_far ?_ b.out _; refine bk_ ?_; refine blk_far ?_ b.out _; refine bk_ ?_; refine blk_far ?_ b.out _; refine bk_ ?_; refine blk_far ?_ b.out _; refine bk_ ?_; refine blk_far ?_ b.out _; refine bk_ ?_; refine blk_far ?_ b.out _; refine bk_ ?_; exact d.out⟩
 replace g : Aside0 (w34.heap[c]? = some (.cells #[.int .i64 aa, .slice P E.length Q, .slice U G.length V, .slice W I.length X, .slice Y J.length Z, .slice ab M.length ac, .int .i64 ao, .slice aA ad.length aB] 32 (0, 0))) := ⟨by subst hq_; refine bk_ ?_; refine bu_ (cs := #[.int .i64 aa, .slice P E.length Q, .slice U G.length V, .slice W I.length X, .slice Y J.length Z, .slice ab M.length ac, .int .i64 ao, .slice none 0 0]) ?_ 7 _ rfl; refine bk_ ?_; refine bu_ (cs := #[.int .i64 aa, .slice P E.length Q, .slice U G.length V, .slice W I.length X, .slice Y J.length Z, .slice ab M.length ac, .int .i64 0, .slice none 0 0]) ?_ 6 _ rfl; refine bk_ ?_; refine bu_ (cs := #[.int .i64 aa, .slice P E.length Q, .slice U G.length V, .slice W I.length X, .slice Y J.length Z, .slice none 0 0, .int .i64 0, .slice none 0 0]) ?_ 5 _ rfl; refine bk_ ?_; refine bu_ (cs := #[.int .i64 aa, .slice P E.length Q, .slice U G.length V, .slice W I.length X, .slice none 0 0, .slice none 0 0, .int .i64 0, .slice none 0 0]) ?_ 4 _ rfl; refine bk_ ?_; refine bu_ (cs := #[.int .i64 aa, .slice P E.length Q, .slice U G.length V, .slice none 0 0, .slice none 0 0, .slice none 0 0, .int .i64 0, .slice none 0 0]) ?_ 3 _ rfl; refine bk_ ?_; refine bu_ (cs := #[.int .i64 aa, .slice P E.length Q, .slice none 0 0, .slice none 0 0, .slice none 0 0, .slice none 0 0, .int .i64 0, .slice none 0 0]) ?_ 2 _ rfl; refine bk_ ?_; refine bu_ (cs := #[.int .i64 aa, .slice none 0 0, .slice none 0 0, .slice none 0 0, .slice none 0 0, .slice none 0 0, .int .i64 0, .slice none 0 0]) ?_ 1 _ rfl; refine bk_ ?_; refine bu_ (cs := #[.int .i64 0, .slice none 0 0, .slice none 0 0, .slice none 0 0, .slice none 0 0, .slice none 0 0, .int .i64 0, .slice none 0 0]) ?_ 0 _ rfl; refine bk_ ?_; exact g.out⟩
 replace HB : Aside0 (Below w.heap.size w w34) := ⟨by subst hq_; exact bel_⟩
 rw [← hq_]
 clear hq_
 have bM := F.out
 have bN := b.out
 obtain ⟨_, _, _, _, _, _, _, _, _, _, _, _, _, _, _, _⟩ := cel8_ g.out
 obtain ⟨aD, aE, bA⟩ := Kd.N_slice l.out
 subst bA
 try go_wp2_with (first | ((with_reducible refine gate_callee (f := 9) rfl ?_); refine goesL_ (some 23) rfl rfl Tryz.func9 kr_ rfl #[.agg #[.int .i64 aa, .slice P E.length Q, .slice U G.length V, .slice W I.length X, .slice Y J.length Z, .slice ab M.length ac, .int .i64 ao, .slice aA ad.length aB], .slice aD ae.length aE, .int .i64 4000] rfl ar_ ?_; (with_reducible refine (jigsawref10_Solutions.calls k aa _ _ E _ _ G (fun a => some a = (.slice W I.length X : Value).ownBlock) _ _ I (fun a => some a = (.slice Y J.length Z : Value).ownBlock) _ _ J (fun a => some a = (.slice ab M.length ac : Value).ownBlock) _ _ M ao (fun a => (some a ≠ (.slice P E.length Q : Value).ownBlock ∧ (some a ≠ (.slice U G.length V : Value).ownBlock ∧ (some a ≠ (.slice W I.length X : Value).ownBlock ∧ (some a ≠ (.slice Y J.length Z : Value).ownBlock ∧ (some a ≠ (.slice ab M.length ac : Value).ownBlock ∧ (some a ≠ (.slice aD ae.length aE : Value).ownBlock ∧ (a ≠ o ∧ a ≠ c)))))))) _ _ ad _ _ ae 4000 bv true _ ?_ ?_ ?_ ?_ ?_ ?_ ?_ ?_ ?_ ?_ A5.out).mono ?_); exact ca_ ((rr_ A.out).2.2); exact (rr_ A.out).2.1; exact ca_ ((rr_ B.out).2.2); exact (rr_ B.out).2.1; exact Kd.R_V (Kd.R_tight rfl (rt_ (rt_ (Kd.R_apart' (Kd.R_apart' (q.out) (Kd.N_typed m.out) (by decide)) (Kd.N_typed l.out) (by decide)) d.out (by decide)) g.out (by decide))); exact Kd.R_V (Kd.R_tight rfl (rt_ (rt_ (Kd.R_apart' (Kd.R_apart' (s.out) (Kd.N_typed m.out) (by decide)) (Kd.N_typed l.out) (by decide)) d.out (by decide)) g.out (by decide))); exact Kd.R_V (Kd.R_tight rfl (rt_ (rt_ (Kd.R_apart' (Kd.R_apart' (u.out) (Kd.N_typed m.out) (by decide)) (Kd.N_typed l.out) (by decide)) d.out (by decide)) g.out (by decide))); exact Kd.N_V (m.out); exact ca_ ((Kd.N_reads' l.out).2.2); exact (Kd.N_reads' l.out).2.1; rintro e w38 ⟨aR, rfl, O, hb⟩; refine ⟨_, rfl, ?_⟩; have v := a_ (Kd.N_lower (nm_ (ok' := fun a => some a ≠ (.slice P E.length Q : Value).ownBlock ∧ some a ≠ (.slice U G.length V : Value).ownBlock ∧ some a ≠ (.slice aD ae.length aE : Value).ownBlock ∧ a ≠ o ∧ a ≠ c) O (fun a hk_ => ⟨Or.elim hk_ (fun hs_ => Or.elim hs_ (fun hs_ => ((rt_ (rt_ (Kd.R_apart' (Kd.R_apart' (q.out) (Kd.N_typed m.out) (by decide)) (Kd.N_typed l.out) (by decide)) d.out (by decide)) g.out (by decide)).1 a hs_.symm).1.1.1.1.1) (fun hs_ => Or.elim hs_ (fun hs_ => ((rt_ (rt_ (Kd.R_apart' (Kd.R_apart' (s.out) (Kd.N_typed m.out) (by decide)) (Kd.N_typed l.out) (by decide)) d.out (by decide)) g.out (by decide)).1 a hs_.symm).1.1.1.1.1) (fun hs_ => Or.elim hs_ (fun hs_ => ((rt_ (rt_ (Kd.R_apart' (Kd.R_apart' (u.out) (Kd.N_typed m.out) (by decide)) (Kd.N_typed l.out) (by decide)) d.out (by decide)) g.out (by decide)).1 a hs_.symm).1.1.1.1.1) (fun hs_ => hs_.1)))) (fun hn_ => (fr_ (rl_ (vR_ A.out)) a hn_)), Or.elim hk_ (fun hs_ => Or.elim hs_ (fun hs_ => ((rt_ (rt_ (Kd.R_apart' (Kd.R_apart' (q.out) (Kd.N_typed m.out) (by decide)) (Kd.N_typed l.out) (by decide)) d.out (by decide)) g.out (by decide)).1 a hs_.symm).1.1.1.1.2.1) (fun hs_ => Or.elim hs_ (fun hs_ => ((rt_ (rt_ (Kd.R_apart' (Kd.R_apart' (s.out) (Kd.N_typed m.out) (by decide)) (Kd.N_typed l.out) (by decide)) d.out (by decide)) g.out (by decide)).1 a hs_.symm).1.1.1.1.2.1) (fun hs_ => Or.elim hs_ (fun hs_ => ((rt_ (rt_ (Kd.R_apart' (Kd.R_apart' (u.out) (Kd.N_typed m.out) (by decide)) (Kd.N_typed l.out) (by decide)) d.out (by decide)) g.out (by decide)).1 a hs_.symm).1.1.1.1.2.1) (fun hs_ => hs_.2.1)))) (fun hn_ => (fr_ (rl_ (vR_ B.out)) a hn_)), Or.elim hk_ (fun hs_ => Or.elim hs_ (fun hs_ => ((rt_ (rt_ (Kd.R_apart' (Kd.R_apart' (q.out) (Kd.N_typed m.out) (by decide)) (Kd.N_typed l.out) (by decide)) d.out (by decide)) g.out (by decide)).1 a hs_.symm).1.1.2) (fun hs_ => Or.elim hs_ (fun hs_ => ((rt_ (rt_ (Kd.R_apart' (Kd.R_apart' (s.out) (Kd.N_typed m.out) (by decide)) (Kd.N_typed l.out) (by decide)) d.out (by decide)) g.out (by decide)).1 a hs_.symm).1.1.2) (fun hs_ => Or.elim hs_ (fun hs_ => ((rt_ (rt_ (Kd.R_apart' (Kd.R_apart' (u.out) (Kd.N_typed m.out) (by decide)) (Kd.N_typed l.out) (by decide)) d.out (by decide)) g.out (by decide)).1 a hs_.symm).1.1.2) (fun hs_ => hs_.2.2.2.2.2.1)))) (fun hn_ => (fr_ (Kd.N_lt (vN_ l.out)) a hn_)), Or.elim hk_ (fun hs_ => Or.elim hs_ (fun hs_ => ((rt_ (rt_ (Kd.R_apart' (Kd.R_apart' (q.out) (Kd.N_typed m.out) (by decide)) (Kd.N_typed l.out) (by decide)) d.out (by decide)) g.out (by decide)).1 a hs_.symm).1.2) (fun hs_ => Or.elim hs_ (fun hs_ => ((rt_ (rt_ (Kd.R_apart' (Kd.R_apart' (s.out) (Kd.N_typed m.out) (by decide)) (Kd.N_typed l.out) (by decide)) d.out (by decide)) g.out (by decide)).1 a hs_.symm).1.2) (fun hs_ => Or.elim hs_ (fun hs_ => ((rt_ (rt_ (Kd.R_apart' (Kd.R_apart' (u.out) (Kd.N_typed m.out) (by decide)) (Kd.N_typed l.out) (by decide)) d.out (by decide)) g.out (by decide)).1 a hs_.symm).1.2) (fun hs_ => hs_.2.2.2.2.2.2.1)))) (fun hn_ => (Kd.freshB (bk_ d.out) a hn_)), Or.elim hk_ (fun hs_ => Or.elim hs_ (fun hs_ => ((rt_ (rt_ (Kd.R_apart' (Kd.R_apart' (q.out) (Kd.N_typed m.out) (by decide)) (Kd.N_typed l.out) (by decide)) d.out (by decide)) g.out (by decide)).1 a hs_.symm).2) (fun hs_ => Or.elim hs_ (fun hs_ => ((rt_ (rt_ (Kd.R_apart' (Kd.R_apart' (s.out) (Kd.N_typed m.out) (by decide)) (Kd.N_typed l.out) (by decide)) d.out (by decide)) g.out (by decide)).1 a hs_.symm).2) (fun hs_ => Or.elim hs_ (fun hs_ => ((rt_ (rt_ (Kd.R_apart' (Kd.R_apart' (u.out) (Kd.N_typed m.out) (by decide)) (Kd.N_typed l.out) (by decide)) d.out (by decide)) g.out (by decide)).1 a hs_.symm).2) (fun hs_ => hs_.2.2.2.2.2.2.2)))) (fun hn_ => (Kd.freshB (bk_ g.out) a hn_))⟩)) (bz_ bel_)); replace A := a_ (rb_ (vR_ A.out) hb); replace B := a_ (rb_ (vR_ B.out) hb); replace q := a_ (rb_ (vR_ q.out) hb); replace s := a_ (rb_ (vR_ s.out) hb); replace u := a_ (rb_ (vR_ u.out) hb); replace m := a_ (Kd.N_elder' (vN_ m.out) (Kd.N_base O) hb); replace l := a_ (Kd.N_elder' (vN_ l.out) (Kd.N_base O) hb); replace d := a_ (bq_ d.out hb); replace g := a_ (bq_ g.out hb); replace HB := hq_ hb; clear hb O))
 replace A := a_ (Kd.R_drew A.out)
 replace B := a_ (Kd.R_drew B.out)
 replace q := a_ (Kd.R_drew q.out)
 replace s := a_ (Kd.R_drew s.out)
 replace u := a_ (Kd.R_drew u.out)
 replace m := a_ (Kd.N_drew m.out)
 replace l := a_ (Kd.N_drew l.out)
 replace v := a_ (Kd.N_drew v.out)
 replace d := a_ (blk_drew d.out)
 replace g := a_ (blk_drew g.out)
 replace HB := a_ (below_drew1 HB.out)
 refine start_ (n := 9) (S := fun w' => w'.cell? ⟨c, 0, none⟩ = some (.int .i64 aa) ∧ w'.cell? ⟨c, 1, none⟩ = some (.slice P E.length Q) ∧ w'.cell? ⟨c, 2, none⟩ = some (.slice U G.length V) ∧ w'.cell? ⟨c, 3, none⟩ = some (.slice W I.length X) ∧ w'.cell? ⟨c, 4, none⟩ = some (.slice Y J.length Z) ∧ w'.cell? ⟨c, 5, none⟩ = some (.slice ab M.length ac) ∧ w'.cell? ⟨c, 6, none⟩ = some (.int .i64 ao) ∧ w'.cell? ⟨c, 7, none⟩ = some (.slice aA ad.length aB)) (ds := []) #[false, false, false, false, false, false, false, false, false] kr_ rfl rfl (ca8_ g.out) (fun hHeld => ?_); refine with_tabW jigsawlaw16_AllDiffFilters.tab5 jigsawlaw16_AllDiffFilters.bits5 (fun HT_ HW_ => ?_)
 generalize w38.drew = w39 at A B q s u m l v d g HB hHeld ⊢
 refine pn_ 1 31 ao_ ?_
 refine tn_ 0 30 tw_ hHeld ?_
 refine onn_ 2 32 #[true, true, true, false, false, false, false, false, false] rfl rfl on_ (by decide) (fun K hK => ?_)
 refine goes_ Tryz.func12 kr_ rfl #[.slice aD ae.length aE] (by rfl) rfl rfl ar_ ?_
 with_reducible refine (jigsawlaw16_doms.calls k _ _ ae aI _ ?_ ?_ ?_ A7.out).mono ?_
 exact ca_ ((Kd.N_reads' l.out).2.2)
 exact (Kd.N_reads' l.out).2.1
 exact ca_ ((cb_ HRtab.out HB.out))
 rintro e w40 ⟨b0, rfl, O, hb⟩
 refine ⟨_, rfl, ?_⟩
 have y := a_ (Kd.N_lower (nm_ (ok' := fun a => some a ≠ (.slice P E.length Q : Value).ownBlock ∧ some a ≠ (.slice U G.length V : Value).ownBlock ∧ some a ≠ (.slice W I.length X : Value).ownBlock ∧ some a ≠ (.slice Y J.length Z : Value).ownBlock ∧ some a ≠ (.slice ab M.length ac : Value).ownBlock ∧ some a ≠ (.slice aA ad.length aB : Value).ownBlock ∧ some a ≠ (.slice aD ae.length aE : Value).ownBlock ∧ some a ≠ aR.ownBlock ∧ a ≠ o ∧ a ≠ c) O (fun a hk_ => ⟨(fr_ (rl_ (vR_ A.out)) a hk_), (fr_ (rl_ (vR_ B.out)) a hk_), (fr_ (rl_ (vR_ q.out)) a hk_), (fr_ (rl_ (vR_ s.out)) a hk_), (fr_ (rl_ (vR_ u.out)) a hk_), (fr_ (Kd.N_lt (vN_ m.out)) a hk_), (fr_ (Kd.N_lt (vN_ l.out)) a hk_), (fr_ (Kd.N_lt (vN_ v.out)) a hk_), (Kd.freshB (bk_ d.out) a hk_), (Kd.freshB (bk_ g.out) a hk_)⟩)) (bz_ bel_))
 replace A := a_ (rb_ (vR_ A.out) hb)
 replace B := a_ (rb_ (vR_ B.out) hb)
 replace q := a_ (rb_ (vR_ q.out) hb)
 replace s := a_ (rb_ (vR_ s.out) hb)
 replace u := a_ (rb_ (vR_ u.out) hb)
 replace m := a_ (Kd.N_elder' (vN_ m.out) (Kd.N_base O) hb)
 replace l := a_ (Kd.N_elder' (vN_ l.out) (Kd.N_base O) hb)
 replace v := a_ (Kd.N_elder' (vN_ v.out) (Kd.N_base O) hb)
 replace d := a_ (bq_ d.out hb)
 replace g := a_ (bq_ g.out hb)
 replace HB := hq_ hb
 clear hb O
 obtain ⟨aS, aT, bm⟩ := Kd.N_slice y.out
 (first | subst bm | (injection bm with f1_ f2_ f3_; have f4_ := f1_.symm; have f5_ := f3_.symm; clear f1_ f2_ f3_; subst f4_; subst f5_))
 refine hK.out _ _ (ca8_ g.out) (fun hHeld => ?_)
 clear hK K
 refine nor_ (N := some 32) ?_
 refine onn_ 3 33 #[true, true, true, true, false, false, false, false, false] rfl rfl on_ (by decide) (fun K hK => ?_)
 refine goes_ Tryz.func11 kr_ rfl #[.agg #[.int .i64 aa, .slice P E.length Q, .slice U G.length V, .slice W I.length X, .slice Y J.length Z, .slice ab M.length ac, .int .i64 ao, .slice aA ad.length aB], .slice aS aI.length aT] (by rfl) rfl rfl ar_ ?_
 with_reducible refine (alldiff_Filter.calls k aa _ _ E _ _ G _ _ I _ _ J _ _ M ao _ _ ad _ _ aI a4 aP _ ?_ ?_ ?_ ?_ ?_ ?_ ?_ ?_ ?_ ?_ ?_ ?_ ?_ ?_ ?_ A8.out).mono ?_
 exact ca_ ((rr_ A.out).2.2)
 exact (rr_ A.out).2.1
 exact ca_ ((rr_ B.out).2.2)
 exact (rr_ B.out).2.1
 exact ca_ ((rr_ q.out).2.2)
 exact (rr_ q.out).2.1
 exact ca_ ((rr_ s.out).2.2)
 exact (rr_ s.out).2.1
 exact ca_ ((rr_ u.out).2.2)
 exact (rr_ u.out).2.1
 exact ca_ ((Kd.N_reads' m.out).2.2)
 exact (Kd.N_reads' m.out).2.1
 exact ca_ ((Kd.N_reads' y.out).2.2)
 exact (Kd.N_reads' y.out).2.1
 exact ca_ ((cb_ HRtab.out HB.out))
 rintro e w42 ⟨bn, rfl, O, hb⟩
 refine ⟨_, rfl, ?_⟩
 have z := a_ (Kd.N_lower (nm_ (ok' := fun a => some a ≠ (.slice P E.length Q : Value).ownBlock ∧ some a ≠ (.slice U G.length V : Value).ownBlock ∧ some a ≠ (.slice W I.length X : Value).ownBlock ∧ some a ≠ (.slice Y J.length Z : Value).ownBlock ∧ some a ≠ (.slice ab M.length ac : Value).ownBlock ∧ some a ≠ (.slice aA ad.length aB : Value).ownBlock ∧ some a ≠ (.slice aD ae.length aE : Value).ownBlock ∧ some a ≠ aR.ownBlock ∧ some a ≠ (.slice aS aI.length aT : Value).ownBlock ∧ a ≠ o ∧ a ≠ c) O (fun a hk_ => ⟨(fr_ (rl_ (vR_ A.out)) a hk_), (fr_ (rl_ (vR_ B.out)) a hk_), (fr_ (rl_ (vR_ q.out)) a hk_), (fr_ (rl_ (vR_ s.out)) a hk_), (fr_ (rl_ (vR_ u.out)) a hk_), (fr_ (Kd.N_lt (vN_ m.out)) a hk_), (fr_ (Kd.N_lt (vN_ l.out)) a hk_), (fr_ (Kd.N_lt (vN_ v.out)) a hk_), (fr_ (Kd.N_lt (vN_ y.out)) a hk_), (Kd.freshB (bk_ d.out) a hk_), (Kd.freshB (bk_ g.out) a hk_)⟩)) (bz_ bel_))
 replace A := a_ (rb_ (vR_ A.out) hb)
 replace B := a_ (rb_ (vR_ B.out) hb)
 replace q := a_ (rb_ (vR_ q.out) hb)
 replace s := a_ (rb_ (vR_ s.out) hb)
 replace u := a_ (rb_ (vR_ u.out) hb)
 replace m := a_ (Kd.N_elder' (vN_ m.out) (Kd.N_base O) hb)
 replace l := a_ (Kd.N_elder' (vN_ l.out) (Kd.N_base O) hb)
 replace v := a_ (Kd.N_elder' (vN_ v.out) (Kd.N_base O) hb)
 replace y := a_ (Kd.N_elder' (vN_ y.out) (Kd.N_base O) hb)
 replace d := a_ (bq_ d.out hb)
 replace g := a_ (bq_ g.out hb)
 replace HB := hq_ hb
 clear hb O
 refine hK.out _ _ (ca8_ g.out) (fun hHeld => ?_)
 clear hK K
 refine nor_ (N := some 33) ?_
 refine pn_ 4 29 ao_ ?_
 refine pn_ 5 34 ao_ ?_
 refine pn_ 6 35 ao_ ?_
 refine pn_ 7 9 ao_ ?_
 refine pn_ 8 10 ao_ ?_
 refine done_ dn_ ?_
 obtain ⟨_, _, _, _, _, _, _, _, _, _, _, _, _, _, _, _⟩ := cel8_ g.out
 try go_wp2_with (first | ((with_reducible refine gate_callee (f := 13) rfl ?_); refine goesL_ (some 39) rfl rfl Tryz.func13 kr_ rfl #[.agg #[.int .i64 aa, .slice P E.length Q, .slice U G.length V, .slice W I.length X, .slice Y J.length Z, .slice ab M.length ac, .int .i64 ao, .slice aA ad.length aB], .slice aD ae.length aE, .int .i64 4000] rfl ar_ ?_; (with_reducible refine (jigsawref10_Exact.calls k aa _ _ E _ _ G (fun a => some a = (.slice W I.length X : Value).ownBlock) _ _ I (fun a => some a = (.slice Y J.length Z : Value).ownBlock) _ _ J (fun a => some a = (.slice ab M.length ac : Value).ownBlock) _ _ M ao (fun a => ((((some a ≠ (.slice P E.length Q : Value).ownBlock ∧ (some a ≠ (.slice U G.length V : Value).ownBlock ∧ (some a ≠ (.slice W I.length X : Value).ownBlock ∧ (some a ≠ (.slice Y J.length Z : Value).ownBlock ∧ (some a ≠ (.slice ab M.length ac : Value).ownBlock ∧ (some a ≠ (.slice aD ae.length aE : Value).ownBlock ∧ (a ≠ o ∧ a ≠ c))))))) ∧ some a ≠ aR.ownBlock) ∧ some a ≠ (.slice aS aI.length aT : Value).ownBlock) ∧ some a ≠ bn.ownBlock)) _ _ ad _ _ ae 4000 be aQ _ ?_ ?_ ?_ ?_ ?_ ?_ ?_ ?_ ?_ ?_ A9.out).mono ?_); exact ca_ ((rr_ A.out).2.2); exact (rr_ A.out).2.1; exact ca_ ((rr_ B.out).2.2); exact (rr_ B.out).2.1; exact Kd.R_V (Kd.R_tight rfl (rt_ (rt_ (Kd.R_apart' (Kd.R_apart' (Kd.R_apart' (Kd.R_apart' (Kd.R_apart' (q.out) (Kd.N_typed m.out) (by decide)) (Kd.N_typed l.out) (by decide)) (Kd.N_typed v.out) (by decide)) (Kd.N_typed y.out) (by decide)) (Kd.N_typed z.out) (by decide)) d.out (by decide)) g.out (by decide))); exact Kd.R_V (Kd.R_tight rfl (rt_ (rt_ (Kd.R_apart' (Kd.R_apart' (Kd.R_apart' (Kd.R_apart' (Kd.R_apart' (s.out) (Kd.N_typed m.out) (by decide)) (Kd.N_typed l.out) (by decide)) (Kd.N_typed v.out) (by decide)) (Kd.N_typed y.out) (by decide)) (Kd.N_typed z.out) (by decide)) d.out (by decide)) g.out (by decide))); exact Kd.R_V (Kd.R_tight rfl (rt_ (rt_ (Kd.R_apart' (Kd.R_apart' (Kd.R_apart' (Kd.R_apart' (Kd.R_apart' (u.out) (Kd.N_typed m.out) (by decide)) (Kd.N_typed l.out) (by decide)) (Kd.N_typed v.out) (by decide)) (Kd.N_typed y.out) (by decide)) (Kd.N_typed z.out) (by decide)) d.out (by decide)) g.out (by decide))); exact Kd.N_V (m.out); exact ca_ ((Kd.N_reads' l.out).2.2); exact (Kd.N_reads' l.out).2.1; rintro e w44 ⟨bB, rfl, O, hb⟩; refine ⟨_, rfl, ?_⟩; have aC := a_ (Kd.N_lower (nm_ (ok' := fun a => some a ≠ (.slice P E.length Q : Value).ownBlock ∧ some a ≠ (.slice U G.length V : Value).ownBlock ∧ some a ≠ (.slice aD ae.length aE : Value).ownBlock ∧ some a ≠ aR.ownBlock ∧ some a ≠ (.slice aS aI.length aT : Value).ownBlock ∧ some a ≠ bn.ownBlock ∧ a ≠ o ∧ a ≠ c) O (fun a hk_ => ⟨Or.elim hk_ (fun hs_ => Or.elim hs_ (fun hs_ => ((rt_ (rt_ (Kd.R_apart' (Kd.R_apart' (Kd.R_apart' (Kd.R_apart' (Kd.R_apart' (q.out) (Kd.N_typed m.out) (by decide)) (Kd.N_typed l.out) (by decide)) (Kd.N_typed v.out) (by decide)) (Kd.N_typed y.out) (by decide)) (Kd.N_typed z.out) (by decide)) d.out (by decide)) g.out (by decide)).1 a hs_.symm).1.1.1.1.1.1.1.1) (fun hs_ => Or.elim hs_ (fun hs_ => ((rt_ (rt_ (Kd.R_apart' (Kd.R_apart' (Kd.R_apart' (Kd.R_apart' (Kd.R_apart' (s.out) (Kd.N_typed m.out) (by decide)) (Kd.N_typed l.out) (by decide)) (Kd.N_typed v.out) (by decide)) (Kd.N_typed y.out) (by decide)) (Kd.N_typed z.out) (by decide)) d.out (by decide)) g.out (by decide)).1 a hs_.symm).1.1.1.1.1.1.1.1) (fun hs_ => Or.elim hs_ (fun hs_ => ((rt_ (rt_ (Kd.R_apart' (Kd.R_apart' (Kd.R_apart' (Kd.R_apart' (Kd.R_apart' (u.out) (Kd.N_typed m.out) (by decide)) (Kd.N_typed l.out) (by decide)) (Kd.N_typed v.out) (by decide)) (Kd.N_typed y.out) (by decide)) (Kd.N_typed z.out) (by decide)) d.out (by decide)) g.out (by decide)).1 a hs_.symm).1.1.1.1.1.1.1.1) (fun hs_ => hs_.1.1.1.1)))) (fun hn_ => (fr_ (rl_ (vR_ A.out)) a hn_)), Or.elim hk_ (fun hs_ => Or.elim hs_ (fun hs_ => ((rt_ (rt_ (Kd.R_apart' (Kd.R_apart' (Kd.R_apart' (Kd.R_apart' (Kd.R_apart' (q.out) (Kd.N_typed m.out) (by decide)) (Kd.N_typed l.out) (by decide)) (Kd.N_typed v.out) (by decide)) (Kd.N_typed y.out) (by decide)) (Kd.N_typed z.out) (by decide)) d.out (by decide)) g.out (by decide)).1 a hs_.symm).1.1.1.1.1.1.1.2.1) (fun hs_ => Or.elim hs_ (fun hs_ => ((rt_ (rt_ (Kd.R_apart' (Kd.R_apart' (Kd.R_apart' (Kd.R_apart' (Kd.R_apart' (s.out) (Kd.N_typed m.out) (by decide)) (Kd.N_typed l.out) (by decide)) (Kd.N_typed v.out) (by decide)) (Kd.N_typed y.out) (by decide)) (Kd.N_typed z.out) (by decide)) d.out (by decide)) g.out (by decide)).1 a hs_.symm).1.1.1.1.1.1.1.2.1) (fun hs_ => Or.elim hs_ (fun hs_ => ((rt_ (rt_ (Kd.R_apart' (Kd.R_apart' (Kd.R_apart' (Kd.R_apart' (Kd.R_apart' (u.out) (Kd.N_typed m.out) (by decide)) (Kd.N_typed l.out) (by decide)) (Kd.N_typed v.out) (by decide)) (Kd.N_typed y.out) (by decide)) (Kd.N_typed z.out) (by decide)) d.out (by decide)) g.out (by decide)).1 a hs_.symm).1.1.1.1.1.1.1.2.1) (fun hs_ => hs_.1.1.1.2.1)))) (fun hn_ => (fr_ (rl_ (vR_ B.out)) a hn_)), Or.elim hk_ (fun hs_ => Or.elim hs_ (fun hs_ => ((rt_ (rt_ (Kd.R_apart' (Kd.R_apart' (Kd.R_apart' (Kd.R_apart' (Kd.R_apart' (q.out) (Kd.N_typed m.out) (by decide)) (Kd.N_typed l.out) (by decide)) (Kd.N_typed v.out) (by decide)) (Kd.N_typed y.out) (by decide)) (Kd.N_typed z.out) (by decide)) d.out (by decide)) g.out (by decide)).1 a hs_.symm).1.1.1.1.1.2) (fun hs_ => Or.elim hs_ (fun hs_ => ((rt_ (rt_ (Kd.R_apart' (Kd.R_apart' (Kd.R_apart' (Kd.R_apart' (Kd.R_apart' (s.out) (Kd.N_typed m.out) (by decide)) (Kd.N_typed l.out) (by decide)) (Kd.N_typed v.out) (by decide)) (Kd.N_typed y.out) (by decide)) (Kd.N_typed z.out) (by decide)) d.out (by decide)) g.out (by decide)).1 a hs_.symm).1.1.1.1.1.2) (fun hs_ => Or.elim hs_ (fun hs_ => ((rt_ (rt_ (Kd.R_apart' (Kd.R_apart' (Kd.R_apart' (Kd.R_apart' (Kd.R_apart' (u.out) (Kd.N_typed m.out) (by decide)) (Kd.N_typed l.out) (by decide)) (Kd.N_typed v.out) (by decide)) (Kd.N_typed y.out) (by decide)) (Kd.N_typed z.out) (by decide)) d.out (by decide)) g.out (by decide)).1 a hs_.symm).1.1.1.1.1.2) (fun hs_ => hs_.1.1.1.2.2.2.2.2.1)))) (fun hn_ => (fr_ (Kd.N_lt (vN_ l.out)) a hn_)), Or.elim hk_ (fun hs_ => Or.elim hs_ (fun hs_ => ((rt_ (rt_ (Kd.R_apart' (Kd.R_apart' (Kd.R_apart' (Kd.R_apart' (Kd.R_apart' (q.out) (Kd.N_typed m.out) (by decide)) (Kd.N_typed l.out) (by decide)) (Kd.N_typed v.out) (by decide)) (Kd.N_typed y.out) (by decide)) (Kd.N_typed z.out) (by decide)) d.out (by decide)) g.out (by decide)).1 a hs_.symm).1.1.1.1.2) (fun hs_ => Or.elim hs_ (fun hs_ => ((rt_ (rt_ (Kd.R_apart' (Kd.R_apart' (Kd.R_apart' (Kd.R_apart' (Kd.R_apart' (s.out) (Kd.N_typed m.out) (by decide)) (Kd.N_typed l.out) (by decide)) (Kd.N_typed v.out) (by decide)) (Kd.N_typed y.out) (by decide)) (Kd.N_typed z.out) (by decide)) d.out (by decide)) g.out (by decide)).1 a hs_.symm).1.1.1.1.2) (fun hs_ => Or.elim hs_ (fun hs_ => ((rt_ (rt_ (Kd.R_apart' (Kd.R_apart' (Kd.R_apart' (Kd.R_apart' (Kd.R_apart' (u.out) (Kd.N_typed m.out) (by decide)) (Kd.N_typed l.out) (by decide)) (Kd.N_typed v.out) (by decide)) (Kd.N_typed y.out) (by decide)) (Kd.N_typed z.out) (by decide)) d.out (by decide)) g.out (by decide)).1 a hs_.symm).1.1.1.1.2) (fun hs_ => hs_.1.1.2)))) (fun hn_ => (fr_ (Kd.N_lt (vN_ v.out)) a hn_)), Or.elim hk_ (fun hs_ => Or.elim hs_ (fun hs_ => ((rt_ (rt_ (Kd.R_apart' (Kd.R_apart' (Kd.R_apart' (Kd.R_apart' (Kd.R_apart' (q.out) (Kd.N_typed m.out) (by decide)) (Kd.N_typed l.out) (by decide)) (Kd.N_typed v.out) (by decide)) (Kd.N_typed y.out) (by decide)) (Kd.N_typed z.out) (by decide)) d.out (by decide)) g.out (by decide)).1 a hs_.symm).1.1.1.2) (fun hs_ => Or.elim hs_ (fun hs_ => ((rt_ (rt_ (Kd.R_apart' (Kd.R_apart' (Kd.R_apart' (Kd.R_apart' (Kd.R_apart' (s.out) (Kd.N_typed m.out) (by decide)) (Kd.N_typed l.out) (by decide)) (Kd.N_typed v.out) (by decide)) (Kd.N_typed y.out) (by decide)) (Kd.N_typed z.out) (by decide)) d.out (by decide)) g.out (by decide)).1 a hs_.symm).1.1.1.2) (fun hs_ => Or.elim hs_ (fun hs_ => ((rt_ (rt_ (Kd.R_apart' (Kd.R_apart' (Kd.R_apart' (Kd.R_apart' (Kd.R_apart' (u.out) (Kd.N_typed m.out) (by decide)) (Kd.N_typed l.out) (by decide)) (Kd.N_typed v.out) (by decide)) (Kd.N_typed y.out) (by decide)) (Kd.N_typed z.out) (by decide)) d.out (by decide)) g.out (by decide)).1 a hs_.symm).1.1.1.2) (fun hs_ => hs_.1.2)))) (fun hn_ => (fr_ (Kd.N_lt (vN_ y.out)) a hn_)), Or.elim hk_ (fun hs_ => Or.elim hs_ (fun hs_ => ((rt_ (rt_ (Kd.R_apart' (Kd.R_apart' (Kd.R_apart' (Kd.R_apart' (Kd.R_apart' (q.out) (Kd.N_typed m.out) (by decide)) (Kd.N_typed l.out) (by decide)) (Kd.N_typed v.out) (by decide)) (Kd.N_typed y.out) (by decide)) (Kd.N_typed z.out) (by decide)) d.out (by decide)) g.out (by decide)).1 a hs_.symm).1.1.2) (fun hs_ => Or.elim hs_ (fun hs_ => ((rt_ (rt_ (Kd.R_apart' (Kd.R_apart' (Kd.R_apart' (Kd.R_apart' (Kd.R_apart' (s.out) (Kd.N_typed m.out) (by decide)) (Kd.N_typed l.out) (by decide)) (Kd.N_typed v.out) (by decide)) (Kd.N_typed y.out) (by decide)) (Kd.N_typed z.out) (by decide)) d.out (by decide)) g.out (by decide)).1 a hs_.symm).1.1.2) (fun hs_ => Or.elim hs_ (fun hs_ => ((rt_ (rt_ (Kd.R_apart' (Kd.R_apart' (Kd.R_apart' (Kd.R_apart' (Kd.R_apart' (u.out) (Kd.N_typed m.out) (by decide)) (Kd.N_typed l.out) (by decide)) (Kd.N_typed v.out) (by decide)) (Kd.N_typed y.out) (by decide)) (Kd.N_typed z.out) (by decide)) d.out (by decide)) g.out (by decide)).1 a hs_.symm).1.1.2) (fun hs_ => hs_.2)))) (fun hn_ => (fr_ (Kd.N_lt (vN_ z.out)) a hn_)), Or.elim hk_ (fun hs_ => Or.elim hs_ (fun hs_ => ((rt_ (rt_ (Kd.R_apart' (Kd.R_apart' (Kd.R_apart' (Kd.R_apart' (Kd.R_apart' (q.out) (Kd.N_typed m.out) (by decide)) (Kd.N_typed l.out) (by decide)) (Kd.N_typed v.out) (by decide)) (Kd.N_typed y.out) (by decide)) (Kd.N_typed z.out) (by decide)) d.out (by decide)) g.out (by decide)).1 a hs_.symm).1.2) (fun hs_ => Or.elim hs_ (fun hs_ => ((rt_ (rt_ (Kd.R_apart' (Kd.R_apart' (Kd.R_apart' (Kd.R_apart' (Kd.R_apart' (s.out) (Kd.N_typed m.out) (by decide)) (Kd.N_typed l.out) (by decide)) (Kd.N_typed v.out) (by decide)) (Kd.N_typed y.out) (by decide)) (Kd.N_typed z.out) (by decide)) d.out (by decide)) g.out (by decide)).1 a hs_.symm).1.2) (fun hs_ => Or.elim hs_ (fun hs_ => ((rt_ (rt_ (Kd.R_apart' (Kd.R_apart' (Kd.R_apart' (Kd.R_apart' (Kd.R_apart' (u.out) (Kd.N_typed m.out) (by decide)) (Kd.N_typed l.out) (by decide)) (Kd.N_typed v.out) (by decide)) (Kd.N_typed y.out) (by decide)) (Kd.N_typed z.out) (by decide)) d.out (by decide)) g.out (by decide)).1 a hs_.symm).1.2) (fun hs_ => hs_.1.1.1.2.2.2.2.2.2.1)))) (fun hn_ => (Kd.freshB (bk_ d.out) a hn_)), Or.elim hk_ (fun hs_ => Or.elim hs_ (fun hs_ => ((rt_ (rt_ (Kd.R_apart' (Kd.R_apart' (Kd.R_apart' (Kd.R_apart' (Kd.R_apart' (q.out) (Kd.N_typed m.out) (by decide)) (Kd.N_typed l.out) (by decide)) (Kd.N_typed v.out) (by decide)) (Kd.N_typed y.out) (by decide)) (Kd.N_typed z.out) (by decide)) d.out (by decide)) g.out (by decide)).1 a hs_.symm).2) (fun hs_ => Or.elim hs_ (fun hs_ => ((rt_ (rt_ (Kd.R_apart' (Kd.R_apart' (Kd.R_apart' (Kd.R_apart' (Kd.R_apart' (s.out) (Kd.N_typed m.out) (by decide)) (Kd.N_typed l.out) (by decide)) (Kd.N_typed v.out) (by decide)) (Kd.N_typed y.out) (by decide)) (Kd.N_typed z.out) (by decide)) d.out (by decide)) g.out (by decide)).1 a hs_.symm).2) (fun hs_ => Or.elim hs_ (fun hs_ => ((rt_ (rt_ (Kd.R_apart' (Kd.R_apart' (Kd.R_apart' (Kd.R_apart' (Kd.R_apart' (u.out) (Kd.N_typed m.out) (by decide)) (Kd.N_typed l.out) (by decide)) (Kd.N_typed v.out) (by decide)) (Kd.N_typed y.out) (by decide)) (Kd.N_typed z.out) (by decide)) d.out (by decide)) g.out (by decide)).1 a hs_.symm).2) (fun hs_ => hs_.1.1.1.2.2.2.2.2.2.2)))) (fun hn_ => (Kd.freshB (bk_ g.out) a hn_))⟩)) (bz_ bel_)); replace A := a_ (rb_ (vR_ A.out) hb); replace B := a_ (rb_ (vR_ B.out) hb); replace q := a_ (rb_ (vR_ q.out) hb); replace s := a_ (rb_ (vR_ s.out) hb); replace u := a_ (rb_ (vR_ u.out) hb); replace m := a_ (Kd.N_elder' (vN_ m.out) (Kd.N_base O) hb); replace l := a_ (Kd.N_elder' (vN_ l.out) (Kd.N_base O) hb); replace v := a_ (Kd.N_elder' (vN_ v.out) (Kd.N_base O) hb); replace y := a_ (Kd.N_elder' (vN_ y.out) (Kd.N_base O) hb); replace z := a_ (Kd.N_elder' (vN_ z.out) (Kd.N_base O) hb); replace d := a_ (bq_ d.out hb); replace g := a_ (bq_ g.out hb); replace HB := hq_ hb; clear hb O) | ((with_reducible refine gate_callee (f := 10) rfl ?_); refine goesL_ (some 42) rfl rfl Tryz.func10 kr_ rfl #[] rfl ar_ ?_; (with_reducible refine (jigsawlaw16_wakes.calls k true _ ?_ bI.out).mono ?_); exact ca_ ((cb_ HRtab.out HB.out)); rintro e w45 ⟨rfl, hb⟩; refine ⟨_, rfl, ?_⟩; replace A := a_ (rb_ (vR_ A.out) hb); replace B := a_ (rb_ (vR_ B.out) hb); replace q := a_ (rb_ (vR_ q.out) hb); replace s := a_ (rb_ (vR_ s.out) hb); replace u := a_ (rb_ (vR_ u.out) hb); replace m := a_ (Kd.N_below (vN_ m.out) hb); replace l := a_ (Kd.N_below (vN_ l.out) hb); replace v := a_ (Kd.N_below (vN_ v.out) hb); replace y := a_ (Kd.N_below (vN_ y.out) hb); replace z := a_ (Kd.N_below (vN_ z.out) hb); replace aC := a_ (Kd.N_below (vN_ aC.out) hb); replace d := a_ (bq_ d.out hb); replace g := a_ (bq_ g.out hb); replace HB := hq_ hb; clear hb; obtain ⟨bC, bD, bE⟩ := Kd.N_slice z.out; subst bE) | (go_at_call 15; (with_reducible refine (jigsawlaw16_lists.calls k _ _ a4 bf _ ?_ ?_ ?_ bJ.out).mono ?_); exact ca_ ((Kd.N_reads' z.out).2.2); exact (Kd.N_reads' z.out).2.1; exact ca_ ((cb_ HRtab.out HB.out)); rintro e w47 ⟨b1, rfl, O, hb⟩; have a3 := a_ (Kd.N_lower (nm_ (ok' := fun a => some a ≠ (.slice P E.length Q : Value).ownBlock ∧ some a ≠ (.slice U G.length V : Value).ownBlock ∧ some a ≠ (.slice W I.length X : Value).ownBlock ∧ some a ≠ (.slice Y J.length Z : Value).ownBlock ∧ some a ≠ (.slice ab M.length ac : Value).ownBlock ∧ some a ≠ (.slice aA ad.length aB : Value).ownBlock ∧ some a ≠ (.slice aD ae.length aE : Value).ownBlock ∧ some a ≠ aR.ownBlock ∧ some a ≠ (.slice aS aI.length aT : Value).ownBlock ∧ some a ≠ (.slice bC a4.length bD : Value).ownBlock ∧ some a ≠ bB.ownBlock ∧ a ≠ o ∧ a ≠ c) (Kd.S_N (Kd.S_bound O)) (fun a hk_ => ⟨(fr_ (rl_ (vR_ A.out)) a hk_.2.1), (fr_ (rl_ (vR_ B.out)) a hk_.2.1), (fr_ (rl_ (vR_ q.out)) a hk_.2.1), (fr_ (rl_ (vR_ s.out)) a hk_.2.1), (fr_ (rl_ (vR_ u.out)) a hk_.2.1), (fr_ (Kd.N_lt (vN_ m.out)) a hk_.2.1), (fr_ (Kd.N_lt (vN_ l.out)) a hk_.2.1), (fr_ (Kd.N_lt (vN_ v.out)) a hk_.2.1), (fr_ (Kd.N_lt (vN_ y.out)) a hk_.2.1), (fr_ (Kd.N_lt (vN_ z.out)) a hk_.2.1), (fr_ (Kd.N_lt (vN_ aC.out)) a hk_.2.1), (Kd.freshB (bk_ d.out) a hk_.2.1), (Kd.freshB (bk_ g.out) a hk_.2.1)⟩)) (bz_ bel_)); replace aC := a_ (Kd.N_elder' (vN_ aC.out) (Kd.N_base (Kd.S_N O)) hb); replace HB := hq_ hb; clear hb O; obtain ⟨b2, b3, bF⟩ := Kd.N_slice a3.out; subst bF; obtain ⟨b4, b5, bG⟩ := Kd.N_slice aC.out; subst bG) | (go_at_call 14; (with_reducible refine (jigsawref10_Same.calls k _ _ bf _ _ be bz _ ?_ ?_ ?_ ?_ bK.out).mono ?_); exact ca_ ((Kd.N_reads' a3.out).2.2); exact (Kd.N_reads' a3.out).2.1; exact ca_ ((Kd.N_reads' aC.out).2.2); exact (Kd.N_reads' aC.out).2.1; rintro e w' ⟨rfl, ⟨nd, rfl⟩⟩))
 go_ret
 exact ⟨er_, bel_⟩

end Go.Proofs.YtckfbfdnlpnllaaGreatDoor.XAllDiffFilters
