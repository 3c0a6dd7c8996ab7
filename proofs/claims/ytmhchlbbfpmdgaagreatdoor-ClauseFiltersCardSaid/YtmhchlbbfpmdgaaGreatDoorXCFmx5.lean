-- by xprint.py, a program of this session, over the kit's print
import Derived.Test.YtmhchlbbfpmdgaaGreatDoorXCFmx4
import Derived.Test.YtmhchlbbfpmdgaaGreatDoorSq
namespace Go.Proofs.YtmhchlbbfpmdgaaGreatDoor.XClauseFilters
open Go.RowKit Go.Proofs.YtmhchlbbfpmdgaaGreatDoor.Sq Go.Proofs.YtmhchlbbfpmdgaaGreatDoorW.PrintWords Go.Proofs.YtmhchlbbfpmdgaaGreatDoorW.PrintLast Go.Proofs.YtmhchlbbfpmdgaaGreatDoorW.PrintMore
attribute [local go_sem] max2_int min2_int max_two min_two max_three min_three max_four min_four   -- for this text's walks alone
set_option linter.unusedVariables false
set_option linter.unusedSimpArgs false

/-! ### jigsawlaw14_ClauseFilters: function 3 -/
def jigsawlaw14_ClauseFilters.j0 : Nat → List (List Int) → Bool → List (List Int) → Bool → Int → List Int → List Int → List Int → List Int → List Int → Int → List (List Int) → Option (Bool)
 | 0, _, _, _, _, _, _, _, _, _, _, _, _ => none
 | k + 1, x6, x8, x9, x56, x637000, x637001, x637002, x637003, x637004, x637005, x637006, x637007 => if x56 = true then (some true) else ((jigsawref10_Exact.f k x637000 x637001 x637002 x637003 x637004 x637005 x637006 x637007 x6 4000).bind fun bt657 => (if (x8 == bt657.2) = true then ((jigsawref10_Same.f k x9 bt657.1).bind fun t661 => (some t661)) else (none)))
def jigsawlaw14_ClauseFilters.f (k : Nat) (a0_0 : Int) (l0_1 : List Int) (l0_2 : List Int) (l0_3 : List Int) (a0_4 : Int) (a0_5 : Int) (l0_6 : List (List Int)) (a1 : Int) : Option (Bool) := (jigsawlaw14_kind.f a1).bind fun t612 => ((jigsawref10_Make.f k a0_0 l0_1 l0_2 l0_3 a0_4 a0_5 l0_6 t612 6).bind fun bt613 => ((jigsawlaw14_doms.f k bt613.2.2.2.2.2.2.2.2).bind fun t637 => ((clause_Filter.f k bt613.1 bt613.2.1 bt613.2.2.1 bt613.2.2.2.1 bt613.2.2.2.2.1 bt613.2.2.2.2.2.1 bt613.2.2.2.2.2.2.1 bt613.2.2.2.2.2.2.2.1 t637).bind fun bt640 => ((jigsawref14_Filter.f k bt613.1 bt613.2.1 bt613.2.2.1 bt613.2.2.2.1 bt613.2.2.2.2.1 bt613.2.2.2.2.2.1 bt613.2.2.2.2.2.2.1 bt613.2.2.2.2.2.2.2.1 bt613.2.2.2.2.2.2.2.2).bind fun bt644 => ((jigsawlaw14_wakes.f k).bind fun t648 => (if t648 = true then (if (bt640.2 != bt644.2) = true then (none) else ((jigsawlaw14_lists.f k bt640.1).bind fun t649 => ((jigsawref10_Same.f k t649 bt644.1).bind fun t652 => (if t652 = true then ((jigsawref10_Solutions.f k bt613.1 bt613.2.1 bt613.2.2.1 bt613.2.2.2.1 bt613.2.2.2.2.1 bt613.2.2.2.2.2.1 bt613.2.2.2.2.2.2.1 bt613.2.2.2.2.2.2.2.1 bt613.2.2.2.2.2.2.2.2 4000).bind fun bt653 => (jigsawlaw14_ClauseFilters.j0 k bt613.2.2.2.2.2.2.2.2 bt640.2 bt644.1 (!bt653.2) bt613.1 bt613.2.1 bt613.2.2.1 bt613.2.2.2.1 bt613.2.2.2.2.1 bt613.2.2.2.2.2.1 bt613.2.2.2.2.2.2.1 bt613.2.2.2.2.2.2.2.1)) else (none))))) else (none)))))))
theorem jigsawlaw14_ClauseFilters.mono_l : ∀ k, (∀ y0 y1 y2 y3 y4 y5 y6 y7 y8 y9 y10 y11, LeO (jigsawlaw14_ClauseFilters.j0 k y0 y1 y2 y3 y4 y5 y6 y7 y8 y9 y10 y11) (jigsawlaw14_ClauseFilters.j0 (k + 1) y0 y1 y2 y3 y4 y5 y6 y7 y8 y9 y10 y11))
 | 0 => fun _ _ _ _ _ _ _ _ _ _ _ _ r h => by simp [jigsawlaw14_ClauseFilters.j0] at h
 | k + 1 => by
  have ih0 := jigsawlaw14_ClauseFilters.mono_l k
  ·
   intro y0 y1 y2 y3 y4 y5 y6 y7 y8 y9 y10 y11
   unfold jigsawlaw14_ClauseFilters.j0
   have m0 := @clause_Filter.mono
   have m1 := @jigsawlaw14_doms.mono
   have m2 := @jigsawlaw14_lists.mono
   have m3 := @jigsawlaw14_wakes.mono
   have m4 := @jigsawref10_Exact.mono
   have m5 := @jigsawref10_Make.mono
   have m6 := @jigsawref10_Same.mono
   have m7 := @jigsawref10_Solutions.mono
   have m8 := @jigsawref14_Filter.mono
   exact leo_
theorem jigsawlaw14_ClauseFilters.mono : ∀ a0 a1 a2 a3 a4 a5 a6 a7 k, LeO (jigsawlaw14_ClauseFilters.f k a0 a1 a2 a3 a4 a5 a6 a7) (jigsawlaw14_ClauseFilters.f (k + 1) a0 a1 a2 a3 a4 a5 a6 a7) := by
 intro a0 a1 a2 a3 a4 a5 a6 a7 k
 have ih0 := jigsawlaw14_ClauseFilters.mono_l k
 unfold jigsawlaw14_ClauseFilters.f
 have m0 := @clause_Filter.mono
 have m1 := @jigsawlaw14_doms.mono
 have m2 := @jigsawlaw14_lists.mono
 have m3 := @jigsawlaw14_wakes.mono
 have m4 := @jigsawref10_Exact.mono
 have m5 := @jigsawref10_Make.mono
 have m6 := @jigsawref10_Same.mono
 have m7 := @jigsawref10_Solutions.mono
 have m8 := @jigsawref14_Filter.mono
 exact leo_
def jigsawlaw14_ClauseFilters.T1 : Bool × List (List Nat × List Nat) := (true, [([], []), ([], []), ([1], [1]), ([0, 2, 2], [0, 2]), ([3], [3]), ([4], [4]), ([4], [4]), ([], []), ([7, 5, 3, 0, 1, 2, 3, 4, 5, 7], [5, 7]), ([6, 8, 0, 1, 2, 3, 4, 5, 6, 7, 8], [6])])
def jigsawlaw14_ClauseFilters.B1 : List Nat := [0, 0, 2, 7, 15, 31, 31, 0, 191, 511]
theorem jigsawlaw14_ClauseFilters.tab1 : rtab .any (opsOf Tryz.f3 1) = jigsawlaw14_ClauseFilters.T1 := by kernel_rfl
theorem jigsawlaw14_ClauseFilters.bits1 : waitsOk jigsawlaw14_ClauseFilters.T1.2 jigsawlaw14_ClauseFilters.B1 = true := by kernel_rfl
def jigsawlaw14_ClauseFilters.T2 : Bool × List (List Nat × List Nat) := (true, [([], []), ([], []), ([1], [1]), ([0, 2, 2], [0, 2]), ([3], [3]), ([4], [4]), ([4], [4]), ([5, 3, 0, 1, 2, 3, 4, 5], [5]), ([6, 7, 0, 1, 2, 3, 4, 5, 6, 7], [6])])
def jigsawlaw14_ClauseFilters.B2 : List Nat := [0, 0, 2, 7, 15, 31, 31, 63, 255]
theorem jigsawlaw14_ClauseFilters.tab2 : rtab .any (opsOf Tryz.f3 2) = jigsawlaw14_ClauseFilters.T2 := by kernel_rfl
theorem jigsawlaw14_ClauseFilters.bits2 : waitsOk jigsawlaw14_ClauseFilters.T2.2 jigsawlaw14_ClauseFilters.B2 = true := by kernel_rfl
set_option maxHeartbeats 8000000 in
set_option maxRecDepth 100000 in
theorem jigsawlaw14_ClauseFilters.calls (k : Nat) (a0_0 : Int) (A0_1 : Option Addr) (c0_1 : Nat) (l0_1 : List Int) (A0_2 : Option Addr) (c0_2 : Nat) (l0_2 : List Int) (A0_3 : Option Addr) (c0_3 : Nat) (l0_3 : List Int) (a0_4 : Int) (a0_5 : Int) (A0_6 : Option Addr) (c0_6 : Nat) (l0_6 : List (List Int)) (a1 : Int) (r : Bool) (w : World) (hr0_1 : Kd.C (Kd.int .u8) w A0_1 l0_1.length l0_1) (hc0_1 : l0_1.length ≤ c0_1) (hr0_2 : Kd.C (Kd.int .u8) w A0_2 l0_2.length l0_2) (hc0_2 : l0_2.length ≤ c0_2) (hr0_3 : Kd.C (Kd.int .i8) w A0_3 l0_3.length l0_3) (hc0_3 : l0_3.length ≤ c0_3) (hr0_6 : Kd.C (Kd.slice 3 (Kd.int .i64)) w A0_6 l0_6.length l0_6) (hc0_6 : l0_6.length ≤ c0_6) (hrtab : Kd.C (Kd.int .u8) w (some ⟨0, 0, none⟩) tabL.length tabL) (h : jigsawlaw14_ClauseFilters.f k a0_0 l0_1 l0_2 l0_3 a0_4 a0_5 l0_6 a1 = some r) :
  Calls Tryz.prog 3 #[.agg #[.int .u8 a0_0, .slice A0_1 l0_1.length c0_1, .slice A0_2 l0_2.length c0_2, .slice A0_3 l0_3.length c0_3, .int .i16 a0_4, .int .u8 a0_5, .slice A0_6 l0_6.length c0_6], .int .u8 a1] w fun e w' => e = .returned (.bool r) ∧ Below w.heap.size w w' := by
 have hu29 := Tryz.underlying29
 have hu32 := Tryz.underlying32
 have HR0_1 := Aside0.mk hr0_1
 have HC0_1 := Aside0.mk hc0_1
 clear hr0_1 hc0_1
 have HR0_2 := Aside0.mk hr0_2
 have HC0_2 := Aside0.mk hc0_2
 clear hr0_2 hc0_2
 have HR0_3 := Aside0.mk hr0_3
 have HC0_3 := Aside0.mk hc0_3
 clear hr0_3 hc0_3
 have HR0_6 := Aside0.mk hr0_6
 have HC0_6 := Aside0.mk hc0_6
 clear hr0_6 hc0_6
 have HRtab := Aside0.mk hrtab
 clear hrtab
 have HB := Aside0.mk (Below.refl w.heap.size w)
 unfold jigsawlaw14_ClauseFilters.f at h
 have H := h
 clear h
 replace H := Option.bind_eq_some_iff.mp H
 obtain ⟨t612, A30, H⟩ := H
 try dsimp only at H
 have A3 := Aside0.mk A30
 clear A30
 replace H := Option.bind_eq_some_iff.mp H
 obtain ⟨⟨t613, t614, t617, t620, t623, t626, t629, t630, t633⟩, A40, H⟩ := H
 try dsimp only at H
 have A4 := Aside0.mk A40
 clear A40
 replace H := Option.bind_eq_some_iff.mp H
 obtain ⟨t637, A50, H⟩ := H
 try dsimp only at H
 have A5 := Aside0.mk A50
 clear A50
 replace H := Option.bind_eq_some_iff.mp H
 obtain ⟨⟨t640, t643⟩, A60, H⟩ := H
 try dsimp only at H
 have A6 := Aside0.mk A60
 clear A60
 replace H := Option.bind_eq_some_iff.mp H
 obtain ⟨⟨t644, t647⟩, A70, H⟩ := H
 try dsimp only at H
 have A7 := Aside0.mk A70
 clear A70
 replace H := Option.bind_eq_some_iff.mp H
 obtain ⟨t648, A80, H⟩ := H
 try dsimp only at H
 have A8 := Aside0.mk A80
 clear A80
 by_cases c9 : t648 = true
 ·
  subst c9
  rw [if_pos rfl] at H
  by_cases c10 : (t643 != t647) = true
  ·
   rw [if_pos c10] at H
   exact absurd H (by simp)
  ·
   rw [if_neg c10] at H
   have c10b0 : (t643 != t647) = false := by simpa using c10
   (try (have c10b1 : decide (t643 = t647) = true := by simpa using c10))
   (try (have c10b2 : (t643 == t647) = true := by simpa using c10))
   clear c10
   replace H := Option.bind_eq_some_iff.mp H
   obtain ⟨t649, A110, H⟩ := H
   try dsimp only at H
   have A11 := Aside0.mk A110
   clear A110
   replace H := Option.bind_eq_some_iff.mp H
   obtain ⟨t652, A120, H⟩ := H
   try dsimp only at H
   have A12 := Aside0.mk A120
   clear A120
   by_cases c13 : t652 = true
   ·
    subst c13
    rw [if_pos rfl] at H
    replace H := Option.bind_eq_some_iff.mp H
    obtain ⟨⟨t653, t656⟩, A140, H⟩ := H
    try dsimp only at H
    have A14 := Aside0.mk A140
    clear A140
    have HC15 := Aside0.mk H
    clear H
    go_enter Tryz.func3, Tryz.ntmps3
    try go_wp2_with (first | ((with_reducible refine gate_dst (N := 2) rfl ?_); refine bxe_ (N := 2) (cs := #[.int .u8 a0_0, .slice A0_1 l0_1.length c0_1, .slice A0_2 l0_2.length c0_2, .slice A0_3 l0_3.length c0_3, .int .i16 a0_4, .int .u8 a0_5, .slice A0_6 l0_6.length c0_6]) (t := 29) ?_; intro gb611 hg w16 hbox hb; have BK611 := Aside0.mk (hbox); have GW611 := Aside0.mk (by rw [hg]; exact (below_size bel_) : w.heap.size ≤ gb611); have GE611 := GW611; replace HB := Aside0.mk (below_step bel_ hb); clear hb hbox hg))
    replace BK611 := Aside0.mk (blk_drew BK611.out)
    replace HB := Aside0.mk (below_drew1 HB.out)
    refine start_ (n := 10) (S := fun w' => w'.cell? ⟨gb611, 0, none⟩ = some (.int .u8 a0_0) ∧ w'.cell? ⟨gb611, 1, none⟩ = some (.slice A0_1 l0_1.length c0_1) ∧ w'.cell? ⟨gb611, 2, none⟩ = some (.slice A0_2 l0_2.length c0_2) ∧ w'.cell? ⟨gb611, 3, none⟩ = some (.slice A0_3 l0_3.length c0_3) ∧ w'.cell? ⟨gb611, 4, none⟩ = some (.int .i16 a0_4) ∧ w'.cell? ⟨gb611, 5, none⟩ = some (.int .u8 a0_5) ∧ w'.cell? ⟨gb611, 6, none⟩ = some (.slice A0_6 l0_6.length c0_6)) (ds := []) #[false, false, false, false, false, false, false, false, false, false] (by kernel_rfl) rfl rfl (ca7_ BK611.out) (fun hHeld => ?_); refine with_tabW jigsawlaw14_ClauseFilters.tab1 jigsawlaw14_ClauseFilters.bits1 (fun HT_ HW_ => ?_)
    generalize w16.drew = w17 at BK611 HB hHeld ⊢
    refine pu_ (i := 1) (N := some 17) (any_of HT_.out (by kernel_rfl)) ?_
    refine tak_ (i := 0) (N := some 16) (take_ofW HT_.out HW_.out (by kernel_rfl)) hHeld ?_
    refine join_ (σ := Value × Value × Value × Value × Value × Value × Value × Nat) 2 #[true, true, true, true, true, true, true, true, false, false] (fun s_ => [(18, .int .i64 t612), (19, .tuple #[.agg #[.int .i64 t613, s_.1, s_.2.1, s_.2.2.1, s_.2.2.2.1, s_.2.2.2.2.1, .int .i64 t629, s_.2.2.2.2.2.1], s_.2.2.2.2.2.2.1]), (5, .pointer (some ⟨s_.2.2.2.2.2.2.2, 0, none⟩)), (15, .tuple #[.agg #[.int .i64 t613, s_.1, s_.2.1, s_.2.2.1, s_.2.2.2.1, s_.2.2.2.2.1, .int .i64 t629, s_.2.2.2.2.2.1], s_.2.2.2.2.2.2.1]), (20, .agg #[.int .i64 t613, s_.1, s_.2.1, s_.2.2.1, s_.2.2.2.1, s_.2.2.2.2.1, .int .i64 t629, s_.2.2.2.2.2.1]), (21, s_.2.2.2.2.2.2.1)]) (fun s_ w' => (w'.cell? ⟨gb611, 0, none⟩ = some (.int .u8 a0_0) ∧ w'.cell? ⟨gb611, 1, none⟩ = some (.slice A0_1 l0_1.length c0_1) ∧ w'.cell? ⟨gb611, 2, none⟩ = some (.slice A0_2 l0_2.length c0_2) ∧ w'.cell? ⟨gb611, 3, none⟩ = some (.slice A0_3 l0_3.length c0_3) ∧ w'.cell? ⟨gb611, 4, none⟩ = some (.int .i16 a0_4) ∧ w'.cell? ⟨gb611, 5, none⟩ = some (.int .u8 a0_5) ∧ w'.cell? ⟨gb611, 6, none⟩ = some (.slice A0_6 l0_6.length c0_6)) ∧ (Kd.R (Kd.int .i64) 3 w' w.heap.size (fun k_ => some k_ ≠ (s_.2.1 : Value).ownBlock ∧ some k_ ≠ (s_.2.2.1 : Value).ownBlock ∧ some k_ ≠ (s_.2.2.2.1 : Value).ownBlock ∧ some k_ ≠ (s_.2.2.2.2.1 : Value).ownBlock) s_.1 t614) ∧ (Kd.R (Kd.int .i64) 3 w' w.heap.size (fun k_ => some k_ ≠ (s_.1 : Value).ownBlock ∧ some k_ ≠ (s_.2.2.1 : Value).ownBlock ∧ some k_ ≠ (s_.2.2.2.1 : Value).ownBlock ∧ some k_ ≠ (s_.2.2.2.2.1 : Value).ownBlock) s_.2.1 t617) ∧ (Kd.R (Kd.int .i64) 3 w' w.heap.size (fun k_ => some k_ ≠ (s_.1 : Value).ownBlock ∧ some k_ ≠ (s_.2.1 : Value).ownBlock ∧ some k_ ≠ (s_.2.2.2.1 : Value).ownBlock ∧ some k_ ≠ (s_.2.2.2.2.1 : Value).ownBlock) s_.2.2.1 t620) ∧ (Kd.R (Kd.int .i64) 3 w' w.heap.size (fun k_ => some k_ ≠ (s_.1 : Value).ownBlock ∧ some k_ ≠ (s_.2.1 : Value).ownBlock ∧ some k_ ≠ (s_.2.2.1 : Value).ownBlock ∧ some k_ ≠ (s_.2.2.2.2.1 : Value).ownBlock) s_.2.2.2.1 t623) ∧ (Kd.R (Kd.int .i64) 3 w' w.heap.size (fun k_ => some k_ ≠ (s_.1 : Value).ownBlock ∧ some k_ ≠ (s_.2.1 : Value).ownBlock ∧ some k_ ≠ (s_.2.2.1 : Value).ownBlock ∧ some k_ ≠ (s_.2.2.2.1 : Value).ownBlock) s_.2.2.2.2.1 t626) ∧ (Kd.N (Kd.slice 3 (Kd.int .i64)) 30 w' w.heap.size (fun k_ => some k_ ≠ (s_.1 : Value).ownBlock ∧ some k_ ≠ (s_.2.1 : Value).ownBlock ∧ some k_ ≠ (s_.2.2.1 : Value).ownBlock ∧ some k_ ≠ (s_.2.2.2.1 : Value).ownBlock ∧ some k_ ≠ (s_.2.2.2.2.1 : Value).ownBlock ∧ some k_ ≠ (s_.2.2.2.2.2.2.1 : Value).ownBlock ∧ k_ ≠ gb611 ∧ k_ ≠ s_.2.2.2.2.2.2.2) s_.2.2.2.2.2.1 t630) ∧ (Kd.N (Kd.slice 3 (Kd.int .i64)) 30 w' w.heap.size (fun k_ => some k_ ≠ (s_.1 : Value).ownBlock ∧ some k_ ≠ (s_.2.1 : Value).ownBlock ∧ some k_ ≠ (s_.2.2.1 : Value).ownBlock ∧ some k_ ≠ (s_.2.2.2.1 : Value).ownBlock ∧ some k_ ≠ (s_.2.2.2.2.1 : Value).ownBlock ∧ some k_ ≠ (s_.2.2.2.2.2.1 : Value).ownBlock ∧ k_ ≠ gb611 ∧ k_ ≠ s_.2.2.2.2.2.2.2) s_.2.2.2.2.2.2.1 t633) ∧ (w'.heap[gb611]? = some (.cells #[.int .u8 a0_0, .slice A0_1 l0_1.length c0_1, .slice A0_2 l0_2.length c0_2, .slice A0_3 l0_3.length c0_3, .int .i16 a0_4, .int .u8 a0_5, .slice A0_6 l0_6.length c0_6] 29 (0, 0))) ∧ (w'.heap[s_.2.2.2.2.2.2.2]? = some (.cells #[.int .i64 0, .slice none 0 0, .slice none 0 0, .slice none 0 0, .slice none 0 0, .slice none 0 0, .int .i64 0, .slice none 0 0] 32 (0, 0))) ∧ (w.heap.size ≤ s_.2.2.2.2.2.2.2) ∧ (w.heap.size ≤ s_.2.2.2.2.2.2.2) ∧ (gb611 ≠ s_.2.2.2.2.2.2.2) ∧ (s_.2.2.2.2.2.2.2 ≠ gb611) ∧ (Below w.heap.size w w')) ?_ ?_
    rotate_left
    ·
     intro hCont
     refine two_ (i := 2) (j := 7) (Ni := some 18) (Nj := some 5) #[true, true, true, false, false, false, false, false, false, false] #[true, true, false, false, false, false, false, true, false, false] rfl rfl rfl rfl (two_of HT_.out (by kernel_rfl)) (by decide) (by decide) (fun K hK => ?_) (fun K hK => ?_)
     ·
      skip
      refine goes_ Tryz.func8 (by kernel_rfl) rfl #[.int .u8 a1] (by rfl) rfl rfl ar_ ?_
      with_reducible refine (jigsawlaw14_kind.calls a1 t612 _ A3.out).mono ?_
      rintro e w' ⟨rfl, ⟨nd, rfl⟩⟩
      refine ⟨_, rfl, ?_⟩
      refine hK.out _ _ (ca7_ BK611.out) (fun hHeld => ?_)
      clear hK K
      refine nor_ (N := some 18) ?_
      refine two_ (i := 3) (j := 7) (Ni := some 19) (Nj := some 5) #[true, true, true, true, false, false, false, false, false, false] #[true, true, true, false, false, false, false, true, false, false] rfl rfl rfl rfl (two_of HT_.out (by kernel_rfl)) (by decide) (by decide) (fun K hK => ?_) (fun K hK => ?_)
      ·
       skip
       refine goes_ Tryz.func7 (by kernel_rfl) rfl #[.agg #[.int .u8 a0_0, .slice A0_1 l0_1.length c0_1, .slice A0_2 l0_2.length c0_2, .slice A0_3 l0_3.length c0_3, .int .i16 a0_4, .int .u8 a0_5, .slice A0_6 l0_6.length c0_6], .int .i64 t612, .int .i64 6] (by rfl) rfl rfl ar_ ?_
       with_reducible refine (jigsawref10_Make.calls k a0_0 _ _ l0_1 _ _ l0_2 _ _ l0_3 a0_4 a0_5 _ _ l0_6 t612 6 t613 t614 t617 t620 t623 t626 t629 t630 t633 _ ?_ ?_ ?_ ?_ ?_ ?_ ?_ ?_ A4.out).mono ?_
       focus repeat (first | exact (Kd.C_below HR0_1.out bel_) | (with_reducible refine Kd.C_alloc ?_ _) | (with_reducible refine Kd.C_drewN ?_ _) | (with_reducible refine Kd.C_drew ?_))
       exact HC0_1.out
       focus repeat (first | exact (Kd.C_below HR0_2.out bel_) | (with_reducible refine Kd.C_alloc ?_ _) | (with_reducible refine Kd.C_drewN ?_ _) | (with_reducible refine Kd.C_drew ?_))
       exact HC0_2.out
       focus repeat (first | exact (Kd.C_below HR0_3.out bel_) | (with_reducible refine Kd.C_alloc ?_ _) | (with_reducible refine Kd.C_drewN ?_ _) | (with_reducible refine Kd.C_drew ?_))
       exact HC0_3.out
       focus repeat (first | exact (Kd.C_below HR0_6.out bel_) | (with_reducible refine Kd.C_alloc ?_ _) | (with_reducible refine Kd.C_drewN ?_ _) | (with_reducible refine Kd.C_drew ?_))
       exact HC0_6.out
       rintro e w18 ⟨v615, v618, v621, v624, v627, v631, v634, rfl, ho0, ho1, ho2, ho3, ho4, ho5, ho6, hb⟩
       refine ⟨_, rfl, ?_⟩
       have HO616 := Aside0.mk (Kd.R_lower ho0 (below_size bel_))
       have HO619 := Aside0.mk (Kd.R_lower ho1 (below_size bel_))
       have HO622 := Aside0.mk (Kd.R_lower ho2 (below_size bel_))
       have HO625 := Aside0.mk (Kd.R_lower ho3 (below_size bel_))
       have HO628 := Aside0.mk (Kd.R_lower ho4 (below_size bel_))
       have HO632 := Aside0.mk (Kd.N_lower (Kd.N_mono (ok' := fun k_ => some k_ ≠ (v615 : Value).ownBlock ∧ some k_ ≠ (v618 : Value).ownBlock ∧ some k_ ≠ (v621 : Value).ownBlock ∧ some k_ ≠ (v624 : Value).ownBlock ∧ some k_ ≠ (v627 : Value).ownBlock ∧ some k_ ≠ (v634 : Value).ownBlock ∧ k_ ≠ gb611) (Kd.S_N (Kd.S_bound ho5)) (fun k_ hk_ => ⟨hk_.1.1, hk_.1.2.1, hk_.1.2.2.1, hk_.1.2.2.2.1, hk_.1.2.2.2.2.1, hk_.1.2.2.2.2.2, (Kd.freshB (bk_ BK611.out) k_ hk_.2.1)⟩)) (below_size bel_))
       have HO635 := Aside0.mk (Kd.N_lower (Kd.N_mono (ok' := fun k_ => some k_ ≠ (v615 : Value).ownBlock ∧ some k_ ≠ (v618 : Value).ownBlock ∧ some k_ ≠ (v621 : Value).ownBlock ∧ some k_ ≠ (v624 : Value).ownBlock ∧ some k_ ≠ (v627 : Value).ownBlock ∧ some k_ ≠ (v631 : Value).ownBlock ∧ k_ ≠ gb611) (Kd.S_N (Kd.S_bound ho6)) (fun k_ hk_ => ⟨hk_.1.1, hk_.1.2.1, hk_.1.2.2.1, hk_.1.2.2.2.1, hk_.1.2.2.2.2.1, hk_.1.2.2.2.2.2, (Kd.freshB (bk_ BK611.out) k_ hk_.2.1)⟩)) (below_size bel_))
       replace BK611 := Aside0.mk (blk_below (bk_ BK611.out) hb)
       replace HB := Aside0.mk (below_step bel_ hb)
       clear hb ho0 ho1 ho2 ho3 ho4 ho5 ho6
       refine hK.out _ _ (ca7_ BK611.out) (fun hHeld => ?_)
       clear hK K
       refine nor_ (N := some 19) ?_
       refine pu_ (i := 4) (N := some 15) (any_of HT_.out (by kernel_rfl)) ?_
       refine pu_ (i := 5) (N := some 20) (any_of HT_.out (by kernel_rfl)) ?_
       refine pu_ (i := 6) (N := some 21) (any_of HT_.out (by kernel_rfl)) ?_
       refine one_ (i := 7) (N := some 5) #[true, true, true, true, true, true, true, true, false, false] rfl rfl (one_of HT_.out (by kernel_rfl)) (by decide) (fun K hK => ?_)
       refine box_step ?hg (N := 5) ?hd (cs := #[.int .i64 0, .slice none 0 0, .slice none 0 0, .slice none 0 0, .slice none 0 0, .slice none 0 0, .int .i64 0, .slice none 0 0]) (t := 32) ?hr ?_; (case hd => rfl); (case hg => rfl); (case hr => first | (go_simp; done) | (go_simp; rfl))
       intro gb636 hg w19 hbox hb
       replace HO616 := Aside0.mk (Kd.R_below (vR_ HO616.out) hb)
       replace HO619 := Aside0.mk (Kd.R_below (vR_ HO619.out) hb)
       replace HO622 := Aside0.mk (Kd.R_below (vR_ HO622.out) hb)
       replace HO625 := Aside0.mk (Kd.R_below (vR_ HO625.out) hb)
       replace HO628 := Aside0.mk (Kd.R_below (vR_ HO628.out) hb)
       replace HO632 := Aside0.mk (Kd.N_below (Kd.N_elderB (vN_ HO632.out) gb636 (Nat.le_of_eq hg.symm)) hb)
       replace HO635 := Aside0.mk (Kd.N_below (Kd.N_elderB (vN_ HO635.out) gb636 (Nat.le_of_eq hg.symm)) hb)
       have BK636 := Aside0.mk (hbox)
       have GW636 := Aside0.mk ((by rw [hg]; exact (below_size bel_) : w.heap.size ≤ gb636))
       have GE636 := Aside0.mk ((by rw [hg]; exact (below_size bel_) : w.heap.size ≤ gb636))
       replace HB := Aside0.mk (below_step bel_ hb)
       have NB611_636 := Aside0.mk ((by rw [hg]; exact Nat.ne_of_lt (blk_lt (bk_ BK611.out)) : gb611 ≠ gb636))
       have NB636_611 := Aside0.mk ((by rw [hg]; exact Nat.ne_of_gt (blk_lt (bk_ BK611.out)) : gb636 ≠ gb611))
       replace BK611 := Aside0.mk (blk_below (bk_ BK611.out) hb)
       clear hb hbox hg
       refine hK.out _ _ (ca7_ BK611.out) (fun hHeld => ?_)
       clear hK K
       refine nor_ (N := some 5) ?_
       exact norm_ (by simp only [putAll, Act.put, List.setIfInBounds_toArray, List.set_cons_zero, List.set_cons_succ]) (hCont (v615, v618, v621, v624, v627, v631, v634, gb636) _ ⟨hHeld, (vR_ HO616.out), (vR_ HO619.out), (vR_ HO622.out), (vR_ HO625.out), (vR_ HO628.out), (by refine vN_ ?_; exact Kd.N_mono HO632.out (fun _ hk => ⟨hk.1.1, ⟨hk.1.2.1, ⟨hk.1.2.2.1, ⟨hk.1.2.2.2.1, ⟨hk.1.2.2.2.2.1, ⟨hk.1.2.2.2.2.2.1, ⟨hk.1.2.2.2.2.2.2, hk.2⟩⟩⟩⟩⟩⟩⟩)), (by refine vN_ ?_; exact Kd.N_mono HO635.out (fun _ hk => ⟨hk.1.1, ⟨hk.1.2.1, ⟨hk.1.2.2.1, ⟨hk.1.2.2.2.1, ⟨hk.1.2.2.2.2.1, ⟨hk.1.2.2.2.2.2.1, ⟨hk.1.2.2.2.2.2.2, hk.2⟩⟩⟩⟩⟩⟩⟩)), (bk_ BK611.out), (bk_ BK636.out), GW636.out, GE636.out, NB611_636.out, NB636_611.out, bel_⟩)
      ·
       skip
       refine box_step ?hg (N := 5) ?hd (cs := #[.int .i64 0, .slice none 0 0, .slice none 0 0, .slice none 0 0, .slice none 0 0, .slice none 0 0, .int .i64 0, .slice none 0 0]) (t := 32) ?hr ?_; (case hd => rfl); (case hg => rfl); (case hr => first | (go_simp; done) | (go_simp; rfl))
       intro gb636 hg w18 hbox hb
       have BK636 := Aside0.mk (hbox)
       have GW636 := Aside0.mk ((by rw [hg]; exact (below_size bel_) : w.heap.size ≤ gb636))
       have GE636 := Aside0.mk ((by rw [hg]; exact (below_size bel_) : w.heap.size ≤ gb636))
       replace HB := Aside0.mk (below_step bel_ hb)
       have NB611_636 := Aside0.mk ((by rw [hg]; exact Nat.ne_of_lt (blk_lt (bk_ BK611.out)) : gb611 ≠ gb636))
       have NB636_611 := Aside0.mk ((by rw [hg]; exact Nat.ne_of_gt (blk_lt (bk_ BK611.out)) : gb636 ≠ gb611))
       replace BK611 := Aside0.mk (blk_below (bk_ BK611.out) hb)
       clear hb hbox hg
       refine hK.out _ _ (ca7_ BK611.out) (fun hHeld => ?_)
       clear hK K
       refine nor_ (N := some 5) ?_
       refine one_ (i := 3) (N := some 19) #[true, true, true, true, false, false, false, true, false, false] rfl rfl (one_of HT_.out (by kernel_rfl)) (by decide) (fun K hK => ?_)
       refine goes_ Tryz.func7 (by kernel_rfl) rfl #[.agg #[.int .u8 a0_0, .slice A0_1 l0_1.length c0_1, .slice A0_2 l0_2.length c0_2, .slice A0_3 l0_3.length c0_3, .int .i16 a0_4, .int .u8 a0_5, .slice A0_6 l0_6.length c0_6], .int .i64 t612, .int .i64 6] (by rfl) rfl rfl ar_ ?_
       with_reducible refine (jigsawref10_Make.calls k a0_0 _ _ l0_1 _ _ l0_2 _ _ l0_3 a0_4 a0_5 _ _ l0_6 t612 6 t613 t614 t617 t620 t623 t626 t629 t630 t633 _ ?_ ?_ ?_ ?_ ?_ ?_ ?_ ?_ A4.out).mono ?_
       exact ca_ ((Kd.C_below HR0_1.out HB.out))
       exact HC0_1.out
       exact ca_ ((Kd.C_below HR0_2.out HB.out))
       exact HC0_2.out
       exact ca_ ((Kd.C_below HR0_3.out HB.out))
       exact HC0_3.out
       exact ca_ ((Kd.C_below HR0_6.out HB.out))
       exact HC0_6.out
       rintro e w19 ⟨v615, v618, v621, v624, v627, v631, v634, rfl, ho0, ho1, ho2, ho3, ho4, ho5, ho6, hb⟩
       refine ⟨_, rfl, ?_⟩
       have HO616 := Aside0.mk (Kd.R_lower ho0 (below_size bel_))
       have HO619 := Aside0.mk (Kd.R_lower ho1 (below_size bel_))
       have HO622 := Aside0.mk (Kd.R_lower ho2 (below_size bel_))
       have HO625 := Aside0.mk (Kd.R_lower ho3 (below_size bel_))
       have HO628 := Aside0.mk (Kd.R_lower ho4 (below_size bel_))
       have HO632 := Aside0.mk (Kd.N_lower (Kd.N_mono (ok' := fun k_ => some k_ ≠ (v615 : Value).ownBlock ∧ some k_ ≠ (v618 : Value).ownBlock ∧ some k_ ≠ (v621 : Value).ownBlock ∧ some k_ ≠ (v624 : Value).ownBlock ∧ some k_ ≠ (v627 : Value).ownBlock ∧ some k_ ≠ (v634 : Value).ownBlock ∧ k_ ≠ gb611 ∧ k_ ≠ gb636) (Kd.S_N (Kd.S_bound ho5)) (fun k_ hk_ => ⟨hk_.1.1, hk_.1.2.1, hk_.1.2.2.1, hk_.1.2.2.2.1, hk_.1.2.2.2.2.1, hk_.1.2.2.2.2.2, (Kd.freshB (bk_ BK611.out) k_ hk_.2.1), (Kd.freshB (bk_ BK636.out) k_ hk_.2.1)⟩)) (below_size bel_))
       have HO635 := Aside0.mk (Kd.N_lower (Kd.N_mono (ok' := fun k_ => some k_ ≠ (v615 : Value).ownBlock ∧ some k_ ≠ (v618 : Value).ownBlock ∧ some k_ ≠ (v621 : Value).ownBlock ∧ some k_ ≠ (v624 : Value).ownBlock ∧ some k_ ≠ (v627 : Value).ownBlock ∧ some k_ ≠ (v631 : Value).ownBlock ∧ k_ ≠ gb611 ∧ k_ ≠ gb636) (Kd.S_N (Kd.S_bound ho6)) (fun k_ hk_ => ⟨hk_.1.1, hk_.1.2.1, hk_.1.2.2.1, hk_.1.2.2.2.1, hk_.1.2.2.2.2.1, hk_.1.2.2.2.2.2, (Kd.freshB (bk_ BK611.out) k_ hk_.2.1), (Kd.freshB (bk_ BK636.out) k_ hk_.2.1)⟩)) (below_size bel_))
       replace BK611 := Aside0.mk (blk_below (bk_ BK611.out) hb)
       replace BK636 := Aside0.mk (blk_below (bk_ BK636.out) hb)
       replace HB := Aside0.mk (below_step bel_ hb)
       clear hb ho0 ho1 ho2 ho3 ho4 ho5 ho6
       refine hK.out _ _ (ca7_ BK611.out) (fun hHeld => ?_)
       clear hK K
       refine nor_ (N := some 19) ?_
       refine pu_ (i := 4) (N := some 15) (any_of HT_.out (by kernel_rfl)) ?_
       refine pu_ (i := 5) (N := some 20) (any_of HT_.out (by kernel_rfl)) ?_
       refine pu_ (i := 6) (N := some 21) (any_of HT_.out (by kernel_rfl)) ?_
       exact norm_ (by simp only [putAll, Act.put, List.setIfInBounds_toArray, List.set_cons_zero, List.set_cons_succ]) (hCont (v615, v618, v621, v624, v627, v631, v634, gb636) _ ⟨hHeld, (vR_ HO616.out), (vR_ HO619.out), (vR_ HO622.out), (vR_ HO625.out), (vR_ HO628.out), (vN_ HO632.out), (vN_ HO635.out), (bk_ BK611.out), (bk_ BK636.out), GW636.out, GE636.out, NB611_636.out, NB636_611.out, bel_⟩)
     ·
      skip
      refine box_step ?hg (N := 5) ?hd (cs := #[.int .i64 0, .slice none 0 0, .slice none 0 0, .slice none 0 0, .slice none 0 0, .slice none 0 0, .int .i64 0, .slice none 0 0]) (t := 32) ?hr ?_; (case hd => rfl); (case hg => rfl); (case hr => first | (go_simp; done) | (go_simp; rfl))
      intro gb636 hg w18 hbox hb
      have BK636 := Aside0.mk (hbox)
      have GW636 := Aside0.mk ((by rw [hg]; exact (below_size bel_) : w.heap.size ≤ gb636))
      have GE636 := Aside0.mk ((by rw [hg]; exact (below_size bel_) : w.heap.size ≤ gb636))
      replace HB := Aside0.mk (below_step bel_ hb)
      have NB611_636 := Aside0.mk ((by rw [hg]; exact Nat.ne_of_lt (blk_lt (bk_ BK611.out)) : gb611 ≠ gb636))
      have NB636_611 := Aside0.mk ((by rw [hg]; exact Nat.ne_of_gt (blk_lt (bk_ BK611.out)) : gb636 ≠ gb611))
      replace BK611 := Aside0.mk (blk_below (bk_ BK611.out) hb)
      clear hb hbox hg
      refine hK.out _ _ (ca7_ BK611.out) (fun hHeld => ?_)
      clear hK K
      refine nor_ (N := some 5) ?_
      refine one_ (i := 2) (N := some 18) #[true, true, true, false, false, false, false, true, false, false] rfl rfl (one_of HT_.out (by kernel_rfl)) (by decide) (fun K hK => ?_)
      refine goes_ Tryz.func8 (by kernel_rfl) rfl #[.int .u8 a1] (by rfl) rfl rfl ar_ ?_
      with_reducible refine (jigsawlaw14_kind.calls a1 t612 _ A3.out).mono ?_
      rintro e w' ⟨rfl, ⟨nd, rfl⟩⟩
      refine ⟨_, rfl, ?_⟩
      refine hK.out _ _ (ca7_ BK611.out) (fun hHeld => ?_)
      clear hK K
      refine nor_ (N := some 18) ?_
      refine one_ (i := 3) (N := some 19) #[true, true, true, true, false, false, false, true, false, false] rfl rfl (one_of HT_.out (by kernel_rfl)) (by decide) (fun K hK => ?_)
      refine goes_ Tryz.func7 (by kernel_rfl) rfl #[.agg #[.int .u8 a0_0, .slice A0_1 l0_1.length c0_1, .slice A0_2 l0_2.length c0_2, .slice A0_3 l0_3.length c0_3, .int .i16 a0_4, .int .u8 a0_5, .slice A0_6 l0_6.length c0_6], .int .i64 t612, .int .i64 6] (by rfl) rfl rfl ar_ ?_
      with_reducible refine (jigsawref10_Make.calls k a0_0 _ _ l0_1 _ _ l0_2 _ _ l0_3 a0_4 a0_5 _ _ l0_6 t612 6 t613 t614 t617 t620 t623 t626 t629 t630 t633 _ ?_ ?_ ?_ ?_ ?_ ?_ ?_ ?_ A4.out).mono ?_
      focus repeat (first | exact (Kd.C_below HR0_1.out bel_) | (with_reducible refine Kd.C_alloc ?_ _) | (with_reducible refine Kd.C_drewN ?_ _) | (with_reducible refine Kd.C_drew ?_))
      exact HC0_1.out
      focus repeat (first | exact (Kd.C_below HR0_2.out bel_) | (with_reducible refine Kd.C_alloc ?_ _) | (with_reducible refine Kd.C_drewN ?_ _) | (with_reducible refine Kd.C_drew ?_))
      exact HC0_2.out
      focus repeat (first | exact (Kd.C_below HR0_3.out bel_) | (with_reducible refine Kd.C_alloc ?_ _) | (with_reducible refine Kd.C_drewN ?_ _) | (with_reducible refine Kd.C_drew ?_))
      exact HC0_3.out
      focus repeat (first | exact (Kd.C_below HR0_6.out bel_) | (with_reducible refine Kd.C_alloc ?_ _) | (with_reducible refine Kd.C_drewN ?_ _) | (with_reducible refine Kd.C_drew ?_))
      exact HC0_6.out
      rintro e w19 ⟨v615, v618, v621, v624, v627, v631, v634, rfl, ho0, ho1, ho2, ho3, ho4, ho5, ho6, hb⟩
      refine ⟨_, rfl, ?_⟩
      have HO616 := Aside0.mk (Kd.R_lower ho0 (below_size bel_))
      have HO619 := Aside0.mk (Kd.R_lower ho1 (below_size bel_))
      have HO622 := Aside0.mk (Kd.R_lower ho2 (below_size bel_))
      have HO625 := Aside0.mk (Kd.R_lower ho3 (below_size bel_))
      have HO628 := Aside0.mk (Kd.R_lower ho4 (below_size bel_))
      have HO632 := Aside0.mk (Kd.N_lower (Kd.N_mono (ok' := fun k_ => some k_ ≠ (v615 : Value).ownBlock ∧ some k_ ≠ (v618 : Value).ownBlock ∧ some k_ ≠ (v621 : Value).ownBlock ∧ some k_ ≠ (v624 : Value).ownBlock ∧ some k_ ≠ (v627 : Value).ownBlock ∧ some k_ ≠ (v634 : Value).ownBlock ∧ k_ ≠ gb611 ∧ k_ ≠ gb636) (Kd.S_N (Kd.S_bound ho5)) (fun k_ hk_ => ⟨hk_.1.1, hk_.1.2.1, hk_.1.2.2.1, hk_.1.2.2.2.1, hk_.1.2.2.2.2.1, hk_.1.2.2.2.2.2, (Kd.freshB (bk_ BK611.out) k_ hk_.2.1), (Kd.freshB (bk_ BK636.out) k_ hk_.2.1)⟩)) (below_size bel_))
      have HO635 := Aside0.mk (Kd.N_lower (Kd.N_mono (ok' := fun k_ => some k_ ≠ (v615 : Value).ownBlock ∧ some k_ ≠ (v618 : Value).ownBlock ∧ some k_ ≠ (v621 : Value).ownBlock ∧ some k_ ≠ (v624 : Value).ownBlock ∧ some k_ ≠ (v627 : Value).ownBlock ∧ some k_ ≠ (v631 : Value).ownBlock ∧ k_ ≠ gb611 ∧ k_ ≠ gb636) (Kd.S_N (Kd.S_bound ho6)) (fun k_ hk_ => ⟨hk_.1.1, hk_.1.2.1, hk_.1.2.2.1, hk_.1.2.2.2.1, hk_.1.2.2.2.2.1, hk_.1.2.2.2.2.2, (Kd.freshB (bk_ BK611.out) k_ hk_.2.1), (Kd.freshB (bk_ BK636.out) k_ hk_.2.1)⟩)) (below_size bel_))
      replace BK611 := Aside0.mk (blk_below (bk_ BK611.out) hb)
      replace BK636 := Aside0.mk (blk_below (bk_ BK636.out) hb)
      replace HB := Aside0.mk (below_step bel_ hb)
      clear hb ho0 ho1 ho2 ho3 ho4 ho5 ho6
      refine hK.out _ _ (ca7_ BK611.out) (fun hHeld => ?_)
      clear hK K
      refine nor_ (N := some 19) ?_
      refine pu_ (i := 4) (N := some 15) (any_of HT_.out (by kernel_rfl)) ?_
      refine pu_ (i := 5) (N := some 20) (any_of HT_.out (by kernel_rfl)) ?_
      refine pu_ (i := 6) (N := some 21) (any_of HT_.out (by kernel_rfl)) ?_
      exact norm_ (by simp only [putAll, Act.put, List.setIfInBounds_toArray, List.set_cons_zero, List.set_cons_succ]) (hCont (v615, v618, v621, v624, v627, v631, v634, gb636) _ ⟨hHeld, (vR_ HO616.out), (vR_ HO619.out), (vR_ HO622.out), (vR_ HO625.out), (vR_ HO628.out), (vN_ HO632.out), (vN_ HO635.out), (bk_ BK611.out), (bk_ BK636.out), GW636.out, GE636.out, NB611_636.out, NB636_611.out, bel_⟩)
    rintro ⟨v615, v618, v621, v624, v627, v631, v634, gb636⟩ w20 ⟨hS_, h0_, h1_, h2_, h3_, h4_, h5_, h6_, h7_, h8_, h9_, h10_, h11_, h12_, h13_⟩
    have HO616 : Aside0 (Kd.R (Kd.int .i64) 3 w20 w.heap.size (fun k_ => some k_ ≠ (v618 : Value).ownBlock ∧ some k_ ≠ (v621 : Value).ownBlock ∧ some k_ ≠ (v624 : Value).ownBlock ∧ some k_ ≠ (v627 : Value).ownBlock) v615 t614) := ⟨h0_⟩
    have HO619 : Aside0 (Kd.R (Kd.int .i64) 3 w20 w.heap.size (fun k_ => some k_ ≠ (v615 : Value).ownBlock ∧ some k_ ≠ (v621 : Value).ownBlock ∧ some k_ ≠ (v624 : Value).ownBlock ∧ some k_ ≠ (v627 : Value).ownBlock) v618 t617) := ⟨h1_⟩
    have HO622 : Aside0 (Kd.R (Kd.int .i64) 3 w20 w.heap.size (fun k_ => some k_ ≠ (v615 : Value).ownBlock ∧ some k_ ≠ (v618 : Value).ownBlock ∧ some k_ ≠ (v624 : Value).ownBlock ∧ some k_ ≠ (v627 : Value).ownBlock) v621 t620) := ⟨h2_⟩
    have HO625 : Aside0 (Kd.R (Kd.int .i64) 3 w20 w.heap.size (fun k_ => some k_ ≠ (v615 : Value).ownBlock ∧ some k_ ≠ (v618 : Value).ownBlock ∧ some k_ ≠ (v621 : Value).ownBlock ∧ some k_ ≠ (v627 : Value).ownBlock) v624 t623) := ⟨h3_⟩
    have HO628 : Aside0 (Kd.R (Kd.int .i64) 3 w20 w.heap.size (fun k_ => some k_ ≠ (v615 : Value).ownBlock ∧ some k_ ≠ (v618 : Value).ownBlock ∧ some k_ ≠ (v621 : Value).ownBlock ∧ some k_ ≠ (v624 : Value).ownBlock) v627 t626) := ⟨h4_⟩
    have HO632 : Aside0 (Kd.N (Kd.slice 3 (Kd.int .i64)) 30 w20 w.heap.size (fun k_ => some k_ ≠ (v615 : Value).ownBlock ∧ some k_ ≠ (v618 : Value).ownBlock ∧ some k_ ≠ (v621 : Value).ownBlock ∧ some k_ ≠ (v624 : Value).ownBlock ∧ some k_ ≠ (v627 : Value).ownBlock ∧ some k_ ≠ (v634 : Value).ownBlock ∧ k_ ≠ gb611 ∧ k_ ≠ gb636) v631 t630) := ⟨h5_⟩
    have HO635 : Aside0 (Kd.N (Kd.slice 3 (Kd.int .i64)) 30 w20 w.heap.size (fun k_ => some k_ ≠ (v615 : Value).ownBlock ∧ some k_ ≠ (v618 : Value).ownBlock ∧ some k_ ≠ (v621 : Value).ownBlock ∧ some k_ ≠ (v624 : Value).ownBlock ∧ some k_ ≠ (v627 : Value).ownBlock ∧ some k_ ≠ (v631 : Value).ownBlock ∧ k_ ≠ gb611 ∧ k_ ≠ gb636) v634 t633) := ⟨h6_⟩
    replace BK611 : Aside0 (w20.heap[gb611]? = some (.cells #[.int .u8 a0_0, .slice A0_1 l0_1.length c0_1, .slice A0_2 l0_2.length c0_2, .slice A0_3 l0_3.length c0_3, .int .i16 a0_4, .int .u8 a0_5, .slice A0_6 l0_6.length c0_6] 29 (0, 0))) := ⟨h7_⟩
    have BK636 : Aside0 (w20.heap[gb636]? = some (.cells #[.int .i64 0, .slice none 0 0, .slice none 0 0, .slice none 0 0, .slice none 0 0, .slice none 0 0, .int .i64 0, .slice none 0 0] 32 (0, 0))) := ⟨h8_⟩
    have GW636 : Aside0 (w.heap.size ≤ gb636) := ⟨h9_⟩
    have GE636 : Aside0 (w.heap.size ≤ gb636) := ⟨h10_⟩
    have NB611_636 : Aside0 (gb611 ≠ gb636) := ⟨h11_⟩
    have NB636_611 : Aside0 (gb636 ≠ gb611) := ⟨h12_⟩
    replace HB : Aside0 (Below w.heap.size w w20) := ⟨h13_⟩
    clear h0_ h1_ h2_ h3_ h4_ h5_ h6_ h7_ h8_ h9_ h10_ h11_ h12_ h13_
    have hHeld : w20.cell? ⟨gb611, 0, none⟩ = some (.int .u8 a0_0) ∧ w20.cell? ⟨gb611, 1, none⟩ = some (.slice A0_1 l0_1.length c0_1) ∧ w20.cell? ⟨gb611, 2, none⟩ = some (.slice A0_2 l0_2.length c0_2) ∧ w20.cell? ⟨gb611, 3, none⟩ = some (.slice A0_3 l0_3.length c0_3) ∧ w20.cell? ⟨gb611, 4, none⟩ = some (.int .i16 a0_4) ∧ w20.cell? ⟨gb611, 5, none⟩ = some (.int .u8 a0_5) ∧ w20.cell? ⟨gb611, 6, none⟩ = some (.slice A0_6 l0_6.length c0_6) := hS_
    obtain ⟨Ao22, co22, eo22⟩ := Kd.R_slice HO616.out
    (first | subst eo22 | (injection eo22 with f1_ f2_ f3_; have f4_ := f1_.symm; have f5_ := f3_.symm; clear f1_ f2_ f3_; subst f4_; subst f5_))
    obtain ⟨Ao24, co24, eo24⟩ := Kd.R_slice HO619.out
    (first | subst eo24 | (injection eo24 with f1_ f2_ f3_; have f4_ := f1_.symm; have f5_ := f3_.symm; clear f1_ f2_ f3_; subst f4_; subst f5_))
    obtain ⟨Ao26, co26, eo26⟩ := Kd.R_slice HO622.out
    (first | subst eo26 | (injection eo26 with f1_ f2_ f3_; have f4_ := f1_.symm; have f5_ := f3_.symm; clear f1_ f2_ f3_; subst f4_; subst f5_))
    obtain ⟨Ao28, co28, eo28⟩ := Kd.R_slice HO625.out
    (first | subst eo28 | (injection eo28 with f1_ f2_ f3_; have f4_ := f1_.symm; have f5_ := f3_.symm; clear f1_ f2_ f3_; subst f4_; subst f5_))
    obtain ⟨Ao30, co30, eo30⟩ := Kd.R_slice HO628.out
    (first | subst eo30 | (injection eo30 with f1_ f2_ f3_; have f4_ := f1_.symm; have f5_ := f3_.symm; clear f1_ f2_ f3_; subst f4_; subst f5_))
    obtain ⟨Ao33, co33, eo33⟩ := Kd.N_slice HO632.out
    (first | subst eo33 | (injection eo33 with f1_ f2_ f3_; have f4_ := f1_.symm; have f5_ := f3_.symm; clear f1_ f2_ f3_; subst f4_; subst f5_))
    refine norm_ (a' := ?_) ?_ ?_
    rotate_left
    ·
     simp only [putAll, Act.put, List.setIfInBounds_toArray, List.set_cons_zero, List.set_cons_succ]
     rfl
    refine one_ (i := 8) (N := none) #[true, true, true, true, true, true, true, true, true, false] rfl rfl (one_of HT_.out (by kernel_rfl)) (by decide) (fun K hK => ?_)
    have hs21 : w20.cell? ⟨gb636, 0, none⟩ = some (.int .i64 0) := (blk_cell BK636.out 0).trans rfl
    have hfs21 := blk_frozen BK636.out 0
    have hns21_0 := NB611_636.out
    have hms21_0 := NB636_611.out
    have hs23 : w20.cell? ⟨gb636, 1, none⟩ = some (.slice none 0 0) := (blk_cell BK636.out 1).trans rfl
    have hfs23 := blk_frozen BK636.out 1
    have hns23_0 := NB611_636.out
    have hms23_0 := NB636_611.out
    have hs25 : w20.cell? ⟨gb636, 2, none⟩ = some (.slice none 0 0) := (blk_cell BK636.out 2).trans rfl
    have hfs25 := blk_frozen BK636.out 2
    have hns25_0 := NB611_636.out
    have hms25_0 := NB636_611.out
    have hs27 : w20.cell? ⟨gb636, 3, none⟩ = some (.slice none 0 0) := (blk_cell BK636.out 3).trans rfl
    have hfs27 := blk_frozen BK636.out 3
    have hns27_0 := NB611_636.out
    have hms27_0 := NB636_611.out
    have hs29 : w20.cell? ⟨gb636, 4, none⟩ = some (.slice none 0 0) := (blk_cell BK636.out 4).trans rfl
    have hfs29 := blk_frozen BK636.out 4
    have hns29_0 := NB611_636.out
    have hms29_0 := NB636_611.out
    have hs31 : w20.cell? ⟨gb636, 5, none⟩ = some (.slice none 0 0) := (blk_cell BK636.out 5).trans rfl
    have hfs31 := blk_frozen BK636.out 5
    have hns31_0 := NB611_636.out
    have hms31_0 := NB636_611.out
    have hs32 : w20.cell? ⟨gb636, 6, none⟩ = some (.int .i64 0) := (blk_cell BK636.out 6).trans rfl
    have hfs32 := blk_frozen BK636.out 6
    have hns32_0 := NB611_636.out
    have hms32_0 := NB636_611.out
    have hs34 : w20.cell? ⟨gb636, 7, none⟩ = some (.slice none 0 0) := (blk_cell BK636.out 7).trans rfl
    have hfs34 := blk_frozen BK636.out 7
    have hns34_0 := NB611_636.out
    have hms34_0 := NB636_611.out
    refine skip_ (w1 := ?_) (by rfl) rfl ?_ ?_
    rotate_left
    ·
     go_simp
     rfl
    refine hK.out _ _ ⟨((cell_far (p := ⟨gb636, _, none⟩) NB611_636.out _).trans (((cell_far (p := ⟨gb636, _, none⟩) NB611_636.out _).trans (((cell_far (p := ⟨gb636, _, none⟩) NB611_636.out _).trans (((cell_far (p := ⟨gb636, _, none⟩) NB611_636.out _).trans (((cell_far (p := ⟨gb636, _, none⟩) NB611_636.out _).trans (((cell_far (p := ⟨gb636, _, none⟩) NB611_636.out _).trans (((cell_far (p := ⟨gb636, _, none⟩) NB611_636.out _).trans (((cell_far (p := ⟨gb636, _, none⟩) NB611_636.out _).trans (hHeld.1)))))))))))))))), ((cell_far (p := ⟨gb636, _, none⟩) NB611_636.out _).trans (((cell_far (p := ⟨gb636, _, none⟩) NB611_636.out _).trans (((cell_far (p := ⟨gb636, _, none⟩) NB611_636.out _).trans (((cell_far (p := ⟨gb636, _, none⟩) NB611_636.out _).trans (((cell_far (p := ⟨gb636, _, none⟩) NB611_636.out _).trans (((cell_far (p := ⟨gb636, _, none⟩) NB611_636.out _).trans (((cell_far (p := ⟨gb636, _, none⟩) NB611_636.out _).trans (((cell_far (p := ⟨gb636, _, none⟩) NB611_636.out _).trans (hHeld.2.1)))))))))))))))), ((cell_far (p := ⟨gb636, _, none⟩) NB611_636.out _).trans (((cell_far (p := ⟨gb636, _, none⟩) NB611_636.out _).trans (((cell_far (p := ⟨gb636, _, none⟩) NB611_636.out _).trans (((cell_far (p := ⟨gb636, _, none⟩) NB611_636.out _).trans (((cell_far (p := ⟨gb636, _, none⟩) NB611_636.out _).trans (((cell_far (p := ⟨gb636, _, none⟩) NB611_636.out _).trans (((cell_far (p := ⟨gb636, _, none⟩) NB611_636.out _).trans (((cell_far (p := ⟨gb636, _, none⟩) NB611_636.out _).trans (hHeld.2.2.1)))))))))))))))), ((cell_far (p := ⟨gb636, _, none⟩) NB611_636.out _).trans (((cell_far (p := ⟨gb636, _, none⟩) NB611_636.out _).trans (((cell_far (p := ⟨gb636, _, none⟩) NB611_636.out _).trans (((cell_far (p := ⟨gb636, _, none⟩) NB611_636.out _).trans (((cell_far (p := ⟨gb636, _, none⟩) NB611_636.out _).trans (((cell_far (p := ⟨gb636, _, none⟩) NB611_636.out _).trans (((cell_far (p := ⟨gb636, _, none⟩) NB611_636.out _).trans (((cell_far (p := ⟨gb636, _, none⟩) NB611_636.out _).trans (hHeld.2.2.2.1)))))))))))))))), ((cell_far (p := ⟨gb636, _, none⟩) NB611_636.out _).trans (((cell_far (p := ⟨gb636, _, none⟩) NB611_636.out _).trans (((cell_far (p := ⟨gb636, _, none⟩) NB611_636.out _).trans (((cell_far (p := ⟨gb636, _, none⟩) NB611_636.out _).trans (((cell_far (p := ⟨gb636, _, none⟩) NB611_636.out _).trans (((cell_far (p := ⟨gb636, _, none⟩) NB611_636.out _).trans (((cell_far (p := ⟨gb636, _, none⟩) NB611_636.out _).trans (((cell_far (p := ⟨gb636, _, none⟩) NB611_636.out _).trans (hHeld.2.2.2.2.1)))))))))))))))), ((cell_far (p := ⟨gb636, _, none⟩) NB611_636.out _).trans (((cell_far (p := ⟨gb636, _, none⟩) NB611_636.out _).trans (((cell_far (p := ⟨gb636, _, none⟩) NB611_636.out _).trans (((cell_far (p := ⟨gb636, _, none⟩) NB611_636.out _).trans (((cell_far (p := ⟨gb636, _, none⟩) NB611_636.out _).trans (((cell_far (p := ⟨gb636, _, none⟩) NB611_636.out _).trans (((cell_far (p := ⟨gb636, _, none⟩) NB611_636.out _).trans (((cell_far (p := ⟨gb636, _, none⟩) NB611_636.out _).trans (hHeld.2.2.2.2.2.1)))))))))))))))), ((cell_far (p := ⟨gb636, _, none⟩) NB611_636.out _).trans (((cell_far (p := ⟨gb636, _, none⟩) NB611_636.out _).trans (((cell_far (p := ⟨gb636, _, none⟩) NB611_636.out _).trans (((cell_far (p := ⟨gb636, _, none⟩) NB611_636.out _).trans (((cell_far (p := ⟨gb636, _, none⟩) NB611_636.out _).trans (((cell_far (p := ⟨gb636, _, none⟩) NB611_636.out _).trans (((cell_far (p := ⟨gb636, _, none⟩) NB611_636.out _).trans (((cell_far (p := ⟨gb636, _, none⟩) NB611_636.out _).trans (hHeld.2.2.2.2.2.2))))))))))))))))⟩ (fun hHeld => ?_)
    clear hK K
    refine pu_ (i := 9) (N := some 6) (any_of HT_.out (by kernel_rfl)) ?_
    refine done_ (done_of HT_.out (by kernel_rfl)) ?_
    try go_wp2
    obtain ⟨w35, hq_⟩ : ∃ x, x = ((((((((w20.setCell ⟨gb636, 0, none⟩ (.int .i64 t613)).setCell ⟨gb636, 1, none⟩ (.slice Ao22 t614.length co22)).setCell ⟨gb636, 2, none⟩ (.slice Ao24 t617.length co24)).setCell ⟨gb636, 3, none⟩ (.slice Ao26 t620.length co26)).setCell ⟨gb636, 4, none⟩ (.slice Ao28 t623.length co28)).setCell ⟨gb636, 5, none⟩ (.slice Ao30 t626.length co30)).setCell ⟨gb636, 6, none⟩ (.int .i64 t629)).setCell ⟨gb636, 7, none⟩ (.slice Ao33 t630.length co33)) := ⟨_, rfl⟩
    replace HO616 : Aside0 (Kd.R (Kd.int .i64) 3 w35 w.heap.size (fun k_ => some k_ ≠ (.slice Ao24 t617.length co24 : Value).ownBlock ∧ some k_ ≠ (.slice Ao26 t620.length co26 : Value).ownBlock ∧ some k_ ≠ (.slice Ao28 t623.length co28 : Value).ownBlock ∧ some k_ ≠ (.slice Ao30 t626.length co30 : Value).ownBlock) (.slice Ao22 t614.length co22) t614) := ⟨by subst hq_; refine vR_ ?_; exact Kd.R_mono (fR_ (fR_ (fR_ (fR_ (fR_ (fR_ (fR_ (fR_ (Kd.R_types HO616.out BK636.out (by decide)))))))))) (fun _ hk => ⟨hk.1.1, ⟨hk.1.2.1, ⟨hk.1.2.2.1, hk.1.2.2.2⟩⟩⟩)⟩
    replace HO619 : Aside0 (Kd.R (Kd.int .i64) 3 w35 w.heap.size (fun k_ => some k_ ≠ (.slice Ao22 t614.length co22 : Value).ownBlock ∧ some k_ ≠ (.slice Ao26 t620.length co26 : Value).ownBlock ∧ some k_ ≠ (.slice Ao28 t623.length co28 : Value).ownBlock ∧ some k_ ≠ (.slice Ao30 t626.length co30 : Value).ownBlock) (.slice Ao24 t617.length co24) t617) := ⟨by subst hq_; refine vR_ ?_; exact Kd.R_mono (fR_ (fR_ (fR_ (fR_ (fR_ (fR_ (fR_ (fR_ (Kd.R_types HO619.out BK636.out (by decide)))))))))) (fun _ hk => ⟨hk.1.1, ⟨hk.1.2.1, ⟨hk.1.2.2.1, hk.1.2.2.2⟩⟩⟩)⟩
    replace HO622 : Aside0 (Kd.R (Kd.int .i64) 3 w35 w.heap.size (fun k_ => some k_ ≠ (.slice Ao22 t614.length co22 : Value).ownBlock ∧ some k_ ≠ (.slice Ao24 t617.length co24 : Value).ownBlock ∧ some k_ ≠ (.slice Ao28 t623.length co28 : Value).ownBlock ∧ some k_ ≠ (.slice Ao30 t626.length co30 : Value).ownBlock) (.slice Ao26 t620.length co26) t620) := ⟨by subst hq_; refine vR_ ?_; exact Kd.R_mono (fR_ (fR_ (fR_ (fR_ (fR_ (fR_ (fR_ (fR_ (Kd.R_types HO622.out BK636.out (by decide)))))))))) (fun _ hk => ⟨hk.1.1, ⟨hk.1.2.1, ⟨hk.1.2.2.1, hk.1.2.2.2⟩⟩⟩)⟩
    replace HO625 : Aside0 (Kd.R (Kd.int .i64) 3 w35 w.heap.size (fun k_ => some k_ ≠ (.slice Ao22 t614.length co22 : Value).ownBlock ∧ some k_ ≠ (.slice Ao24 t617.length co24 : Value).ownBlock ∧ some k_ ≠ (.slice Ao26 t620.length co26 : Value).ownBlock ∧ some k_ ≠ (.slice Ao30 t626.length co30 : Value).ownBlock) (.slice Ao28 t623.length co28) t623) := ⟨by subst hq_; refine vR_ ?_; exact Kd.R_mono (fR_ (fR_ (fR_ (fR_ (fR_ (fR_ (fR_ (fR_ (Kd.R_types HO625.out BK636.out (by decide)))))))))) (fun _ hk => ⟨hk.1.1, ⟨hk.1.2.1, ⟨hk.1.2.2.1, hk.1.2.2.2⟩⟩⟩)⟩
    replace HO628 : Aside0 (Kd.R (Kd.int .i64) 3 w35 w.heap.size (fun k_ => some k_ ≠ (.slice Ao22 t614.length co22 : Value).ownBlock ∧ some k_ ≠ (.slice Ao24 t617.length co24 : Value).ownBlock ∧ some k_ ≠ (.slice Ao26 t620.length co26 : Value).ownBlock ∧ some k_ ≠ (.slice Ao28 t623.length co28 : Value).ownBlock) (.slice Ao30 t626.length co30) t626) := ⟨by subst hq_; refine vR_ ?_; exact Kd.R_mono (fR_ (fR_ (fR_ (fR_ (fR_ (fR_ (fR_ (fR_ (Kd.R_types HO628.out BK636.out (by decide)))))))))) (fun _ hk => ⟨hk.1.1, ⟨hk.1.2.1, ⟨hk.1.2.2.1, hk.1.2.2.2⟩⟩⟩)⟩
    replace HO632 : Aside0 (Kd.N (Kd.slice 3 (Kd.int .i64)) 30 w35 w.heap.size (fun k_ => some k_ ≠ (.slice Ao22 t614.length co22 : Value).ownBlock ∧ some k_ ≠ (.slice Ao24 t617.length co24 : Value).ownBlock ∧ some k_ ≠ (.slice Ao26 t620.length co26 : Value).ownBlock ∧ some k_ ≠ (.slice Ao28 t623.length co28 : Value).ownBlock ∧ some k_ ≠ (.slice Ao30 t626.length co30 : Value).ownBlock ∧ some k_ ≠ (v634 : Value).ownBlock ∧ k_ ≠ gb611 ∧ k_ ≠ gb636) (.slice Ao33 t630.length co33) t630) := ⟨by subst hq_; refine vN_ ?_; exact Kd.N_mono (fN_ (fN_ (fN_ (fN_ (fN_ (fN_ (fN_ (fN_ (Kd.N_mono HO632.out (fun k_ hk => (⟨hk, hk.2.2.2.2.2.2.2⟩ : _ ∧ k_ ≠ gb636))))))))))) (fun _ hk => ⟨hk.1.1, ⟨hk.1.2.1, ⟨hk.1.2.2.1, ⟨hk.1.2.2.2.1, ⟨hk.1.2.2.2.2.1, ⟨hk.1.2.2.2.2.2.1, ⟨hk.1.2.2.2.2.2.2.1, hk.1.2.2.2.2.2.2.2⟩⟩⟩⟩⟩⟩⟩)⟩
    replace HO635 : Aside0 (Kd.N (Kd.slice 3 (Kd.int .i64)) 30 w35 w.heap.size (fun k_ => some k_ ≠ (.slice Ao22 t614.length co22 : Value).ownBlock ∧ some k_ ≠ (.slice Ao24 t617.length co24 : Value).ownBlock ∧ some k_ ≠ (.slice Ao26 t620.length co26 : Value).ownBlock ∧ some k_ ≠ (.slice Ao28 t623.length co28 : Value).ownBlock ∧ some k_ ≠ (.slice Ao30 t626.length co30 : Value).ownBlock ∧ some k_ ≠ (.slice Ao33 t630.length co33 : Value).ownBlock ∧ k_ ≠ gb611 ∧ k_ ≠ gb636) v634 t633) := ⟨by subst hq_; refine vN_ ?_; exact Kd.N_mono (fN_ (fN_ (fN_ (fN_ (fN_ (fN_ (fN_ (fN_ (Kd.N_mono HO635.out (fun k_ hk => (⟨hk, hk.2.2.2.2.2.2.2⟩ : _ ∧ k_ ≠ gb636))))))))))) (fun _ hk => ⟨hk.1.1, ⟨hk.1.2.1, ⟨hk.1.2.2.1, ⟨hk.1.2.2.2.1, ⟨hk.1.2.2.2.2.1, ⟨hk.1.2.2.2.2.2.1, ⟨hk.1.2.2.2.2.2.2.1, hk.1.2.2.2.2.2.2.2⟩⟩⟩⟩⟩⟩⟩)⟩
    replace BK611 : Aside0 (w35.heap[gb611]? = some (.cells #[.int .u8 a0_0, .slice A0_1 l0_1.length c0_1, .slice A0_2 l0_2.length c0_2, .slice A0_3 l0_3.length c0_3, .int .i16 a0_4, .int .u8 a0_5, .slice A0_6 l0_6.length c0_6] 29 (0, 0))) := ⟨by subst hq_; refine bk_ ?_; refine blk_far ?_ NB611_636.out _; refine bk_ ?_; refine blk_far ?_ NB611_636.out _; refine bk_ ?_; refine blk_far ?_ NB611_636.out _; refine bk_ ?_; refine blk_far ?_ NB611_636.out _; refine bk_ ?_; refine blk_far ?_ NB611_636.out _; refine bk_ ?_; refine blk_far ?_ NB611_636.out _; refine bk_ ?_; refine blk_far ?_ NB611_636.out _; refine bk_ ?_; refine blk_far ?_ NB611_636.out _; refine bk_ ?_; exact BK611.out⟩
    replace BK636 : Aside0 (w35.heap[gb636]? = some (.cells #[.int .i64 t613, .slice Ao22 t614.length co22, .slice Ao24 t617.length co24, .slice Ao26 t620.length co26, .slice Ao28 t623.length co28, .slice Ao30 t626.length co30, .int .i64 t629, .slice Ao33 t630.length co33] 32 (0, 0))) := ⟨by subst hq_; refine bk_ ?_; refine blk_put (cs := #[.int .i64 t613, .slice Ao22 t614.length co22, .slice Ao24 t617.length co24, .slice Ao26 t620.length co26, .slice Ao28 t623.length co28, .slice Ao30 t626.length co30, .int .i64 t629, .slice none 0 0]) ?_ 7 _ rfl; refine bk_ ?_; refine blk_put (cs := #[.int .i64 t613, .slice Ao22 t614.length co22, .slice Ao24 t617.length co24, .slice Ao26 t620.length co26, .slice Ao28 t623.length co28, .slice Ao30 t626.length co30, .int .i64 0, .slice none 0 0]) ?_ 6 _ rfl; refine bk_ ?_; refine blk_put (cs := #[.int .i64 t613, .slice Ao22 t614.length co22, .slice Ao24 t617.length co24, .slice Ao26 t620.length co26, .slice Ao28 t623.length co28, .slice none 0 0, .int .i64 0, .slice none 0 0]) ?_ 5 _ rfl; refine bk_ ?_; refine blk_put (cs := #[.int .i64 t613, .slice Ao22 t614.length co22, .slice Ao24 t617.length co24, .slice Ao26 t620.length co26, .slice none 0 0, .slice none 0 0, .int .i64 0, .slice none 0 0]) ?_ 4 _ rfl; refine bk_ ?_; refine blk_put (cs := #[.int .i64 t613, .slice Ao22 t614.length co22, .slice Ao24 t617.length co24, .slice none 0 0, .slice none 0 0, .slice none 0 0, .int .i64 0, .slice none 0 0]) ?_ 3 _ rfl; refine bk_ ?_; refine blk_put (cs := #[.int .i64 t613, .slice Ao22 t614.length co22, .slice none 0 0, .slice none 0 0, .slice none 0 0, .slice none 0 0, .int .i64 0, .slice none 0 0]) ?_ 2 _ rfl; refine bk_ ?_; refine blk_put (cs := #[.int .i64 t613, .slice none 0 0, .slice none 0 0, .slice none 0 0, .slice none 0 0, .slice none 0 0, .int .i64 0, .slice none 0 0]) ?_ 1 _ rfl; refine bk_ ?_; refine blk_put (cs := #[.int .i64 0, .slice none 0 0, .slice none 0 0, .slice none 0 0, .slice none 0 0, .slice none 0 0, .int .i64 0, .slice none 0 0]) ?_ 0 _ rfl; refine bk_ ?_; exact BK636.out⟩
    replace HB : Aside0 (Below w.heap.size w w35) := ⟨by subst hq_; exact bel_⟩
    rw [← hq_]
    clear hq_
    replace HO616 := Aside0.mk (Kd.R_drew HO616.out)
    replace HO619 := Aside0.mk (Kd.R_drew HO619.out)
    replace HO622 := Aside0.mk (Kd.R_drew HO622.out)
    replace HO625 := Aside0.mk (Kd.R_drew HO625.out)
    replace HO628 := Aside0.mk (Kd.R_drew HO628.out)
    replace HO632 := Aside0.mk (Kd.N_drew HO632.out)
    replace HO635 := Aside0.mk (Kd.N_drew HO635.out)
    replace BK611 := Aside0.mk (blk_drew BK611.out)
    replace BK636 := Aside0.mk (blk_drew BK636.out)
    replace HB := Aside0.mk (below_drew1 HB.out)
    obtain ⟨Ao37, co37, eo37⟩ := Kd.N_slice HO635.out
    (first | subst eo37 | (injection eo37 with f1_ f2_ f3_; have f4_ := f1_.symm; have f5_ := f3_.symm; clear f1_ f2_ f3_; subst f4_; subst f5_))
    refine start_ (n := 9) (S := fun w' => w'.cell? ⟨gb636, 0, none⟩ = some (.int .i64 t613) ∧ w'.cell? ⟨gb636, 1, none⟩ = some (.slice Ao22 t614.length co22) ∧ w'.cell? ⟨gb636, 2, none⟩ = some (.slice Ao24 t617.length co24) ∧ w'.cell? ⟨gb636, 3, none⟩ = some (.slice Ao26 t620.length co26) ∧ w'.cell? ⟨gb636, 4, none⟩ = some (.slice Ao28 t623.length co28) ∧ w'.cell? ⟨gb636, 5, none⟩ = some (.slice Ao30 t626.length co30) ∧ w'.cell? ⟨gb636, 6, none⟩ = some (.int .i64 t629) ∧ w'.cell? ⟨gb636, 7, none⟩ = some (.slice Ao33 t630.length co33)) (ds := []) #[false, false, false, false, false, false, false, false, false] (by kernel_rfl) rfl rfl (ca8_ BK636.out) (fun hHeld => ?_); refine with_tabW jigsawlaw14_ClauseFilters.tab2 jigsawlaw14_ClauseFilters.bits2 (fun HT_ HW_ => ?_)
    generalize w35.drew = w36 at HO616 HO619 HO622 HO625 HO628 HO632 HO635 BK611 BK636 HB hHeld ⊢
    refine pu_ (i := 1) (N := some 24) (any_of HT_.out (by kernel_rfl)) ?_
    refine tak_ (i := 0) (N := some 23) (take_ofW HT_.out HW_.out (by kernel_rfl)) hHeld ?_
    refine one_ (i := 2) (N := some 25) #[true, true, true, false, false, false, false, false, false] rfl rfl (one_of HT_.out (by kernel_rfl)) (by decide) (fun K hK => ?_)
    refine goes_ Tryz.func10 (by kernel_rfl) rfl #[.slice Ao37 t633.length co37] (by rfl) rfl rfl ar_ ?_
    with_reducible refine (jigsawlaw14_doms.calls k _ _ t633 t637 _ ?_ ?_ ?_ A5.out).mono ?_
    exact ca_ ((Kd.N_reads' HO635.out).2.2)
    exact (Kd.N_reads' HO635.out).2.1
    exact ca_ ((Kd.C_below HRtab.out HB.out))
    rintro e w38 ⟨v638, rfl, ho0, hb⟩
    refine ⟨_, rfl, ?_⟩
    have HO639 := Aside0.mk (Kd.N_lower (Kd.N_mono (ok' := fun k_ => some k_ ≠ (.slice Ao22 t614.length co22 : Value).ownBlock ∧ some k_ ≠ (.slice Ao24 t617.length co24 : Value).ownBlock ∧ some k_ ≠ (.slice Ao26 t620.length co26 : Value).ownBlock ∧ some k_ ≠ (.slice Ao28 t623.length co28 : Value).ownBlock ∧ some k_ ≠ (.slice Ao30 t626.length co30 : Value).ownBlock ∧ some k_ ≠ (.slice Ao33 t630.length co33 : Value).ownBlock ∧ some k_ ≠ (.slice Ao37 t633.length co37 : Value).ownBlock ∧ k_ ≠ gb611 ∧ k_ ≠ gb636) ho0 (fun k_ hk_ => ⟨(Kd.fresh' (Kd.R_lt (vR_ HO616.out)) k_ hk_), (Kd.fresh' (Kd.R_lt (vR_ HO619.out)) k_ hk_), (Kd.fresh' (Kd.R_lt (vR_ HO622.out)) k_ hk_), (Kd.fresh' (Kd.R_lt (vR_ HO625.out)) k_ hk_), (Kd.fresh' (Kd.R_lt (vR_ HO628.out)) k_ hk_), (Kd.fresh' (Kd.N_lt (vN_ HO632.out)) k_ hk_), (Kd.fresh' (Kd.N_lt (vN_ HO635.out)) k_ hk_), (Kd.freshB (bk_ BK611.out) k_ hk_), (Kd.freshB (bk_ BK636.out) k_ hk_)⟩)) (below_size bel_))
    replace HO616 := Aside0.mk (Kd.R_below (vR_ HO616.out) hb)
    replace HO619 := Aside0.mk (Kd.R_below (vR_ HO619.out) hb)
    replace HO622 := Aside0.mk (Kd.R_below (vR_ HO622.out) hb)
    replace HO625 := Aside0.mk (Kd.R_below (vR_ HO625.out) hb)
    replace HO628 := Aside0.mk (Kd.R_below (vR_ HO628.out) hb)
    replace HO632 := Aside0.mk (Kd.N_elder' (vN_ HO632.out) (Kd.N_base ho0) hb)
    replace HO635 := Aside0.mk (Kd.N_elder' (vN_ HO635.out) (Kd.N_base ho0) hb)
    replace BK611 := Aside0.mk (blk_below (bk_ BK611.out) hb)
    replace BK636 := Aside0.mk (blk_below (bk_ BK636.out) hb)
    replace HB := Aside0.mk (below_step bel_ hb)
    clear hb ho0
    obtain ⟨Ao39, co39, eo39⟩ := Kd.N_slice HO639.out
    (first | subst eo39 | (injection eo39 with f1_ f2_ f3_; have f4_ := f1_.symm; have f5_ := f3_.symm; clear f1_ f2_ f3_; subst f4_; subst f5_))
    refine hK.out _ _ (ca8_ BK636.out) (fun hHeld => ?_)
    clear hK K
    refine nor_ (N := some 25) ?_
    refine one_ (i := 3) (N := some 26) #[true, true, true, true, false, false, false, false, false] rfl rfl (one_of HT_.out (by kernel_rfl)) (by decide) (fun K hK => ?_)
    refine goes_ Tryz.func9 (by kernel_rfl) rfl #[.agg #[.int .i64 t613, .slice Ao22 t614.length co22, .slice Ao24 t617.length co24, .slice Ao26 t620.length co26, .slice Ao28 t623.length co28, .slice Ao30 t626.length co30, .int .i64 t629, .slice Ao33 t630.length co33], .slice Ao39 t637.length co39] (by rfl) rfl rfl ar_ ?_
    with_reducible refine (clause_Filter.calls k t613 _ _ t614 _ _ t617 _ _ t620 _ _ t623 _ _ t626 t629 _ _ t630 (fun k_ => (some k_ ≠ (.slice Ao22 t614.length co22 : Value).ownBlock ∧ (some k_ ≠ (.slice Ao24 t617.length co24 : Value).ownBlock ∧ (some k_ ≠ (.slice Ao26 t620.length co26 : Value).ownBlock ∧ (some k_ ≠ (.slice Ao28 t623.length co28 : Value).ownBlock ∧ (some k_ ≠ (.slice Ao30 t626.length co30 : Value).ownBlock ∧ (some k_ ≠ (.slice Ao33 t630.length co33 : Value).ownBlock ∧ (some k_ ≠ (.slice Ao37 t633.length co37 : Value).ownBlock ∧ (k_ ≠ gb611 ∧ k_ ≠ gb636))))))))) _ _ t637 t640 t643 _ ?_ ?_ ?_ ?_ ?_ ?_ ?_ ?_ ?_ ?_ ?_ ?_ ?_ ?_ A6.out).mono ?_
    exact ca_ ((Kd.R_reads' HO616.out).2.2)
    exact (Kd.R_reads' HO616.out).2.1
    exact ca_ ((Kd.R_reads' HO619.out).2.2)
    exact (Kd.R_reads' HO619.out).2.1
    exact ca_ ((Kd.R_reads' HO622.out).2.2)
    exact (Kd.R_reads' HO622.out).2.1
    exact ca_ ((Kd.R_reads' HO625.out).2.2)
    exact (Kd.R_reads' HO625.out).2.1
    exact ca_ ((Kd.R_reads' HO628.out).2.2)
    exact (Kd.R_reads' HO628.out).2.1
    exact ca_ ((Kd.N_reads' HO632.out).2.2)
    exact (Kd.N_reads' HO632.out).2.1
    exact Kd.N_V (HO639.out)
    exact ca_ ((Kd.C_below HRtab.out HB.out))
    rintro e w40 ⟨v641, rfl, ho0, hb⟩
    refine ⟨_, rfl, ?_⟩
    replace HO639 := Aside0.mk (Kd.N_elder' (vN_ HO639.out) (Kd.N_base ho0) hb)
    have HO642 := Aside0.mk (Kd.N_lower (Kd.N_mono (ok' := fun k_ => some k_ ≠ (.slice Ao22 t614.length co22 : Value).ownBlock ∧ some k_ ≠ (.slice Ao24 t617.length co24 : Value).ownBlock ∧ some k_ ≠ (.slice Ao26 t620.length co26 : Value).ownBlock ∧ some k_ ≠ (.slice Ao28 t623.length co28 : Value).ownBlock ∧ some k_ ≠ (.slice Ao30 t626.length co30 : Value).ownBlock ∧ some k_ ≠ (.slice Ao33 t630.length co33 : Value).ownBlock ∧ some k_ ≠ (.slice Ao37 t633.length co37 : Value).ownBlock ∧ k_ ≠ gb611 ∧ k_ ≠ gb636) ho0 (fun k_ hk_ => ⟨Or.elim hk_ (fun hs_ => hs_.1) (fun hn_ => (Kd.fresh' (Kd.R_lt (vR_ HO616.out)) k_ hn_)), Or.elim hk_ (fun hs_ => hs_.2.1) (fun hn_ => (Kd.fresh' (Kd.R_lt (vR_ HO619.out)) k_ hn_)), Or.elim hk_ (fun hs_ => hs_.2.2.1) (fun hn_ => (Kd.fresh' (Kd.R_lt (vR_ HO622.out)) k_ hn_)), Or.elim hk_ (fun hs_ => hs_.2.2.2.1) (fun hn_ => (Kd.fresh' (Kd.R_lt (vR_ HO625.out)) k_ hn_)), Or.elim hk_ (fun hs_ => hs_.2.2.2.2.1) (fun hn_ => (Kd.fresh' (Kd.R_lt (vR_ HO628.out)) k_ hn_)), Or.elim hk_ (fun hs_ => hs_.2.2.2.2.2.1) (fun hn_ => (Kd.fresh' (Kd.N_lt (vN_ HO632.out)) k_ hn_)), Or.elim hk_ (fun hs_ => hs_.2.2.2.2.2.2.1) (fun hn_ => (Kd.fresh' (Kd.N_lt (vN_ HO635.out)) k_ hn_)), Or.elim hk_ (fun hs_ => hs_.2.2.2.2.2.2.2.1) (fun hn_ => (Kd.freshB (bk_ BK611.out) k_ hn_)), Or.elim hk_ (fun hs_ => hs_.2.2.2.2.2.2.2.2) (fun hn_ => (Kd.freshB (bk_ BK636.out) k_ hn_))⟩)) (below_size bel_))
    replace HO616 := Aside0.mk (Kd.R_below (vR_ HO616.out) hb)
    replace HO619 := Aside0.mk (Kd.R_below (vR_ HO619.out) hb)
    replace HO622 := Aside0.mk (Kd.R_below (vR_ HO622.out) hb)
    replace HO625 := Aside0.mk (Kd.R_below (vR_ HO625.out) hb)
    replace HO628 := Aside0.mk (Kd.R_below (vR_ HO628.out) hb)
    replace HO632 := Aside0.mk (Kd.N_elder' (vN_ HO632.out) (Kd.N_base ho0) hb)
    replace HO635 := Aside0.mk (Kd.N_elder' (vN_ HO635.out) (Kd.N_base ho0) hb)
    replace BK611 := Aside0.mk (blk_below (bk_ BK611.out) hb)
    replace BK636 := Aside0.mk (blk_below (bk_ BK636.out) hb)
    replace HB := Aside0.mk (below_step bel_ hb)
    clear hb ho0
    refine hK.out _ _ (ca8_ BK636.out) (fun hHeld => ?_)
    clear hK K
    refine nor_ (N := some 26) ?_
    refine pu_ (i := 4) (N := some 22) (any_of HT_.out (by kernel_rfl)) ?_
    refine pu_ (i := 5) (N := some 27) (any_of HT_.out (by kernel_rfl)) ?_
    refine pu_ (i := 6) (N := some 28) (any_of HT_.out (by kernel_rfl)) ?_
    refine pu_ (i := 7) (N := some 7) (any_of HT_.out (by kernel_rfl)) ?_
    refine pu_ (i := 8) (N := some 8) (any_of HT_.out (by kernel_rfl)) ?_
    refine done_ (done_of HT_.out (by kernel_rfl)) ?_
    have hnb41 := NB636_611.out
    have hnc41 := NB611_636.out
    obtain ⟨_, _, _, _, _, _, _, _, _, _, _, _, _, _, _, _⟩ := cel8_ BK636.out
    go_upto_region 7 with (first | ((with_reducible refine gate_callee (f := 11) rfl ?_); refine goesL_ (some 32) rfl rfl Tryz.func11 (by kernel_rfl) rfl #[.agg #[.int .i64 t613, .slice Ao22 t614.length co22, .slice Ao24 t617.length co24, .slice Ao26 t620.length co26, .slice Ao28 t623.length co28, .slice Ao30 t626.length co30, .int .i64 t629, .slice Ao33 t630.length co33], .slice Ao37 t633.length co37] rfl ar_ ?_; (with_reducible refine (jigsawref14_Filter.calls k t613 _ _ t614 _ _ t617 _ _ t620 _ _ t623 _ _ t626 t629 _ _ t630 _ _ t633 t644 t647 _ ?_ ?_ ?_ ?_ ?_ ?_ ?_ ?_ ?_ ?_ ?_ ?_ ?_ ?_ A7.out).mono ?_); exact ca_ ((Kd.R_reads' HO616.out).2.2); exact (Kd.R_reads' HO616.out).2.1; exact ca_ ((Kd.R_reads' HO619.out).2.2); exact (Kd.R_reads' HO619.out).2.1; exact ca_ ((Kd.R_reads' HO622.out).2.2); exact (Kd.R_reads' HO622.out).2.1; exact ca_ ((Kd.R_reads' HO625.out).2.2); exact (Kd.R_reads' HO625.out).2.1; exact ca_ ((Kd.R_reads' HO628.out).2.2); exact (Kd.R_reads' HO628.out).2.1; exact ca_ ((Kd.N_reads' HO632.out).2.2); exact (Kd.N_reads' HO632.out).2.1; exact ca_ ((Kd.N_reads' HO635.out).2.2); exact (Kd.N_reads' HO635.out).2.1; rintro e w43 ⟨v645, rfl, ho0, hb⟩; refine ⟨_, rfl, ?_⟩; have HO646 := Aside0.mk (Kd.N_lower (Kd.N_mono (ok' := fun k_ => some k_ ≠ (.slice Ao22 t614.length co22 : Value).ownBlock ∧ some k_ ≠ (.slice Ao24 t617.length co24 : Value).ownBlock ∧ some k_ ≠ (.slice Ao26 t620.length co26 : Value).ownBlock ∧ some k_ ≠ (.slice Ao28 t623.length co28 : Value).ownBlock ∧ some k_ ≠ (.slice Ao30 t626.length co30 : Value).ownBlock ∧ some k_ ≠ (.slice Ao33 t630.length co33 : Value).ownBlock ∧ some k_ ≠ (.slice Ao37 t633.length co37 : Value).ownBlock ∧ some k_ ≠ (.slice Ao39 t637.length co39 : Value).ownBlock ∧ some k_ ≠ (v641 : Value).ownBlock ∧ k_ ≠ gb611 ∧ k_ ≠ gb636) (Kd.S_N (Kd.S_bound ho0)) (fun k_ hk_ => ⟨(Kd.fresh' (Kd.R_lt (vR_ HO616.out)) k_ hk_.2.1), (Kd.fresh' (Kd.R_lt (vR_ HO619.out)) k_ hk_.2.1), (Kd.fresh' (Kd.R_lt (vR_ HO622.out)) k_ hk_.2.1), (Kd.fresh' (Kd.R_lt (vR_ HO625.out)) k_ hk_.2.1), (Kd.fresh' (Kd.R_lt (vR_ HO628.out)) k_ hk_.2.1), (Kd.fresh' (Kd.N_lt (vN_ HO632.out)) k_ hk_.2.1), (Kd.fresh' (Kd.N_lt (vN_ HO635.out)) k_ hk_.2.1), (Kd.fresh' (Kd.N_lt (vN_ HO639.out)) k_ hk_.2.1), (Kd.fresh' (Kd.N_lt (vN_ HO642.out)) k_ hk_.2.1), (Kd.freshB (bk_ BK611.out) k_ hk_.2.1), (Kd.freshB (bk_ BK636.out) k_ hk_.2.1)⟩)) (below_size bel_)); replace HO616 := Aside0.mk (Kd.R_below (vR_ HO616.out) hb); replace HO619 := Aside0.mk (Kd.R_below (vR_ HO619.out) hb); replace HO622 := Aside0.mk (Kd.R_below (vR_ HO622.out) hb); replace HO625 := Aside0.mk (Kd.R_below (vR_ HO625.out) hb); replace HO628 := Aside0.mk (Kd.R_below (vR_ HO628.out) hb); replace HO632 := Aside0.mk (Kd.N_elder' (vN_ HO632.out) (Kd.N_base (Kd.S_N ho0)) hb); replace HO635 := Aside0.mk (Kd.N_elder' (vN_ HO635.out) (Kd.N_base (Kd.S_N ho0)) hb); replace HO639 := Aside0.mk (Kd.N_elder' (vN_ HO639.out) (Kd.N_base (Kd.S_N ho0)) hb); replace HO642 := Aside0.mk (Kd.N_elder' (vN_ HO642.out) (Kd.N_base (Kd.S_N ho0)) hb); replace BK611 := Aside0.mk (blk_below (bk_ BK611.out) hb); replace BK636 := Aside0.mk (blk_below (bk_ BK636.out) hb); replace HB := Aside0.mk (below_step bel_ hb); clear hb ho0) | ((with_reducible refine gate_callee (f := 12) rfl ?_); refine goesL_ (some 35) rfl rfl Tryz.func12 (by kernel_rfl) rfl #[] rfl ar_ ?_; (with_reducible refine (jigsawlaw14_wakes.calls k true _ ?_ A8.out).mono ?_); exact ca_ ((Kd.C_below HRtab.out HB.out)); rintro e w44 ⟨rfl, hb⟩; refine ⟨_, rfl, ?_⟩; replace HO616 := Aside0.mk (Kd.R_below (vR_ HO616.out) hb); replace HO619 := Aside0.mk (Kd.R_below (vR_ HO619.out) hb); replace HO622 := Aside0.mk (Kd.R_below (vR_ HO622.out) hb); replace HO625 := Aside0.mk (Kd.R_below (vR_ HO625.out) hb); replace HO628 := Aside0.mk (Kd.R_below (vR_ HO628.out) hb); replace HO632 := Aside0.mk (Kd.N_below (vN_ HO632.out) hb); replace HO635 := Aside0.mk (Kd.N_below (vN_ HO635.out) hb); replace HO639 := Aside0.mk (Kd.N_below (vN_ HO639.out) hb); replace HO642 := Aside0.mk (Kd.N_below (vN_ HO642.out) hb); replace HO646 := Aside0.mk (Kd.N_below (vN_ HO646.out) hb); replace BK611 := Aside0.mk (blk_below (bk_ BK611.out) hb); replace BK636 := Aside0.mk (blk_below (bk_ BK636.out) hb); replace HB := Aside0.mk (below_step bel_ hb); clear hb; obtain ⟨Ao45, co45, eo45⟩ := Kd.N_slice HO642.out; subst eo45) | (go_at_call 14; (with_reducible refine (jigsawlaw14_lists.calls k _ _ t640 t649 _ ?_ ?_ ?_ A11.out).mono ?_); exact ca_ ((Kd.N_reads' HO642.out).2.2); exact (Kd.N_reads' HO642.out).2.1; exact ca_ ((Kd.C_below HRtab.out HB.out)); rintro e w46 ⟨v650, rfl, ho0, hb⟩; have HO651 := Aside0.mk (Kd.N_lower (Kd.N_mono (ok' := fun k_ => some k_ ≠ (.slice Ao22 t614.length co22 : Value).ownBlock ∧ some k_ ≠ (.slice Ao24 t617.length co24 : Value).ownBlock ∧ some k_ ≠ (.slice Ao26 t620.length co26 : Value).ownBlock ∧ some k_ ≠ (.slice Ao28 t623.length co28 : Value).ownBlock ∧ some k_ ≠ (.slice Ao30 t626.length co30 : Value).ownBlock ∧ some k_ ≠ (.slice Ao33 t630.length co33 : Value).ownBlock ∧ some k_ ≠ (.slice Ao37 t633.length co37 : Value).ownBlock ∧ some k_ ≠ (.slice Ao39 t637.length co39 : Value).ownBlock ∧ some k_ ≠ (.slice Ao45 t640.length co45 : Value).ownBlock ∧ some k_ ≠ (v645 : Value).ownBlock ∧ k_ ≠ gb611 ∧ k_ ≠ gb636) (Kd.S_N (Kd.S_bound ho0)) (fun k_ hk_ => ⟨(Kd.fresh' (Kd.R_lt (vR_ HO616.out)) k_ hk_.2.1), (Kd.fresh' (Kd.R_lt (vR_ HO619.out)) k_ hk_.2.1), (Kd.fresh' (Kd.R_lt (vR_ HO622.out)) k_ hk_.2.1), (Kd.fresh' (Kd.R_lt (vR_ HO625.out)) k_ hk_.2.1), (Kd.fresh' (Kd.R_lt (vR_ HO628.out)) k_ hk_.2.1), (Kd.fresh' (Kd.N_lt (vN_ HO632.out)) k_ hk_.2.1), (Kd.fresh' (Kd.N_lt (vN_ HO635.out)) k_ hk_.2.1), (Kd.fresh' (Kd.N_lt (vN_ HO639.out)) k_ hk_.2.1), (Kd.fresh' (Kd.N_lt (vN_ HO642.out)) k_ hk_.2.1), (Kd.fresh' (Kd.N_lt (vN_ HO646.out)) k_ hk_.2.1), (Kd.freshB (bk_ BK611.out) k_ hk_.2.1), (Kd.freshB (bk_ BK636.out) k_ hk_.2.1)⟩)) (below_size bel_)); replace HO616 := Aside0.mk (Kd.R_below (vR_ HO616.out) hb); replace HO619 := Aside0.mk (Kd.R_below (vR_ HO619.out) hb); replace HO622 := Aside0.mk (Kd.R_below (vR_ HO622.out) hb); replace HO625 := Aside0.mk (Kd.R_below (vR_ HO625.out) hb); replace HO628 := Aside0.mk (Kd.R_below (vR_ HO628.out) hb); replace HO632 := Aside0.mk (Kd.N_elder' (vN_ HO632.out) (Kd.N_base (Kd.S_N ho0)) hb); replace HO635 := Aside0.mk (Kd.N_elder' (vN_ HO635.out) (Kd.N_base (Kd.S_N ho0)) hb); replace HO639 := Aside0.mk (Kd.N_elder' (vN_ HO639.out) (Kd.N_base (Kd.S_N ho0)) hb); replace HO642 := Aside0.mk (Kd.N_elder' (vN_ HO642.out) (Kd.N_base (Kd.S_N ho0)) hb); replace HO646 := Aside0.mk (Kd.N_elder' (vN_ HO646.out) (Kd.N_base (Kd.S_N ho0)) hb); replace BK611 := Aside0.mk (blk_below (bk_ BK611.out) hb); replace BK636 := Aside0.mk (blk_below (bk_ BK636.out) hb); replace HB := Aside0.mk (below_step bel_ hb); clear hb ho0; obtain ⟨Ao47, co47, eo47⟩ := Kd.N_slice HO651.out; subst eo47; obtain ⟨Ao48, co48, eo48⟩ := Kd.N_slice HO646.out; subst eo48) | (go_at_call 13; (with_reducible refine (jigsawref10_Same.calls k _ _ t649 _ _ t644 true _ ?_ ?_ ?_ ?_ A12.out).mono ?_); exact ca_ ((Kd.N_reads' HO651.out).2.2); exact (Kd.N_reads' HO651.out).2.1; exact ca_ ((Kd.N_reads' HO646.out).2.2); exact (Kd.N_reads' HO646.out).2.1; rintro e w' ⟨rfl, ⟨nd, rfl⟩⟩; obtain ⟨_, _, _, _, _, _, _, _, _, _, _, _, _, _, _, _⟩ := cel8_ BK636.out) | ((with_reducible refine gate_callee (f := 15) rfl ?_); refine goesL_ (some 52) rfl rfl Tryz.func15 (by kernel_rfl) rfl #[.agg #[.int .i64 t613, .slice Ao22 t614.length co22, .slice Ao24 t617.length co24, .slice Ao26 t620.length co26, .slice Ao28 t623.length co28, .slice Ao30 t626.length co30, .int .i64 t629, .slice Ao33 t630.length co33], .slice Ao37 t633.length co37, .int .i64 4000] rfl ar_ ?_; (with_reducible refine (jigsawref10_Solutions.calls k t613 _ _ t614 _ _ t617 (fun k_ => some k_ = (.slice Ao26 t620.length co26 : Value).ownBlock) _ _ t620 (fun k_ => some k_ = (.slice Ao28 t623.length co28 : Value).ownBlock) _ _ t623 (fun k_ => some k_ = (.slice Ao30 t626.length co30 : Value).ownBlock) _ _ t626 t629 (fun k_ => (((((some k_ ≠ (.slice Ao22 t614.length co22 : Value).ownBlock ∧ (some k_ ≠ (.slice Ao24 t617.length co24 : Value).ownBlock ∧ (some k_ ≠ (.slice Ao26 t620.length co26 : Value).ownBlock ∧ (some k_ ≠ (.slice Ao28 t623.length co28 : Value).ownBlock ∧ (some k_ ≠ (.slice Ao30 t626.length co30 : Value).ownBlock ∧ (some k_ ≠ (.slice Ao37 t633.length co37 : Value).ownBlock ∧ (k_ ≠ gb611 ∧ k_ ≠ gb636))))))) ∧ some k_ ≠ (.slice Ao39 t637.length co39 : Value).ownBlock) ∧ some k_ ≠ (.slice Ao45 t640.length co45 : Value).ownBlock) ∧ some k_ ≠ (.slice Ao48 t644.length co48 : Value).ownBlock) ∧ some k_ ≠ (.slice Ao47 t649.length co47 : Value).ownBlock)) _ _ t630 _ _ t633 4000 t653 t656 _ ?_ ?_ ?_ ?_ ?_ ?_ ?_ ?_ ?_ ?_ A14.out).mono ?_); exact ca_ ((Kd.R_reads' HO616.out).2.2); exact (Kd.R_reads' HO616.out).2.1; exact ca_ ((Kd.R_reads' HO619.out).2.2); exact (Kd.R_reads' HO619.out).2.1; exact Kd.R_V (Kd.R_tight rfl (Kd.R_types (Kd.R_types (Kd.R_apart' (Kd.R_apart' (Kd.R_apart' (Kd.R_apart' (Kd.R_apart' (Kd.R_apart' (HO622.out) (Kd.N_typed HO632.out) (by decide)) (Kd.N_typed HO635.out) (by decide)) (Kd.N_typed HO639.out) (by decide)) (Kd.N_typed HO642.out) (by decide)) (Kd.N_typed HO646.out) (by decide)) (Kd.N_typed HO651.out) (by decide)) BK611.out (by decide)) BK636.out (by decide))); exact Kd.R_V (Kd.R_tight rfl (Kd.R_types (Kd.R_types (Kd.R_apart' (Kd.R_apart' (Kd.R_apart' (Kd.R_apart' (Kd.R_apart' (Kd.R_apart' (HO625.out) (Kd.N_typed HO632.out) (by decide)) (Kd.N_typed HO635.out) (by decide)) (Kd.N_typed HO639.out) (by decide)) (Kd.N_typed HO642.out) (by decide)) (Kd.N_typed HO646.out) (by decide)) (Kd.N_typed HO651.out) (by decide)) BK611.out (by decide)) BK636.out (by decide))); exact Kd.R_V (Kd.R_tight rfl (Kd.R_types (Kd.R_types (Kd.R_apart' (Kd.R_apart' (Kd.R_apart' (Kd.R_apart' (Kd.R_apart' (Kd.R_apart' (HO628.out) (Kd.N_typed HO632.out) (by decide)) (Kd.N_typed HO635.out) (by decide)) (Kd.N_typed HO639.out) (by decide)) (Kd.N_typed HO642.out) (by decide)) (Kd.N_typed HO646.out) (by decide)) (Kd.N_typed HO651.out) (by decide)) BK611.out (by decide)) BK636.out (by decide))); exact Kd.N_V (HO632.out); exact ca_ ((Kd.N_reads' HO635.out).2.2); exact (Kd.N_reads' HO635.out).2.1; rintro e w50 ⟨v654, rfl, ho0, hb⟩; refine ⟨_, rfl, ?_⟩; replace HO616 := Aside0.mk (Kd.R_below (vR_ HO616.out) hb); replace HO619 := Aside0.mk (Kd.R_below (vR_ HO619.out) hb); replace HO622 := Aside0.mk (Kd.R_below (vR_ HO622.out) hb); replace HO625 := Aside0.mk (Kd.R_below (vR_ HO625.out) hb); replace HO628 := Aside0.mk (Kd.R_below (vR_ HO628.out) hb); replace HO632 := Aside0.mk (Kd.N_elder' (vN_ HO632.out) (Kd.N_base ho0) hb); replace HO635 := Aside0.mk (Kd.N_elder' (vN_ HO635.out) (Kd.N_base ho0) hb); replace HO646 := Aside0.mk (Kd.N_elder' (vN_ HO646.out) (Kd.N_base ho0) hb); replace BK611 := Aside0.mk (blk_below (bk_ BK611.out) hb); replace BK636 := Aside0.mk (blk_below (bk_ BK636.out) hb); replace HB := Aside0.mk (below_step bel_ hb); clear hb ho0))
    (try simp only [Act.put, List.setIfInBounds_toArray, List.set_cons_zero, List.set_cons_succ])
    go_cut [56] (fun v56 wc => ∃ (kq : Nat) (x56_14 : Bool), v56 = .bool x56_14 ∧ Aside0 (jigsawlaw14_ClauseFilters.j0 kq t633 t643 t644 x56_14 t613 t614 t617 t620 t623 t626 t629 t630 = some r) ∧ Aside0 (kq ≤ k) ∧ Aside0 (Kd.N (Kd.slice 3 (Kd.int .i64)) 30 wc w.heap.size (fun k_ => some k_ ≠ ((.slice Ao48 t644.length co48) : Value).ownBlock ∧ some k_ ≠ ((.slice Ao22 t614.length co22) : Value).ownBlock ∧ some k_ ≠ ((.slice Ao24 t617.length co24) : Value).ownBlock ∧ some k_ ≠ ((.slice Ao26 t620.length co26) : Value).ownBlock ∧ some k_ ≠ ((.slice Ao28 t623.length co28) : Value).ownBlock ∧ some k_ ≠ ((.slice Ao30 t626.length co30) : Value).ownBlock ∧ some k_ ≠ ((.slice Ao33 t630.length co33) : Value).ownBlock ∧ k_ ≠ gb611 ∧ k_ ≠ gb636) (.slice Ao37 t633.length co37) t633) ∧ Aside0 (Kd.N (Kd.slice 3 (Kd.int .i64)) 30 wc w.heap.size (fun k_ => some k_ ≠ ((.slice Ao37 t633.length co37) : Value).ownBlock ∧ some k_ ≠ ((.slice Ao22 t614.length co22) : Value).ownBlock ∧ some k_ ≠ ((.slice Ao24 t617.length co24) : Value).ownBlock ∧ some k_ ≠ ((.slice Ao26 t620.length co26) : Value).ownBlock ∧ some k_ ≠ ((.slice Ao28 t623.length co28) : Value).ownBlock ∧ some k_ ≠ ((.slice Ao30 t626.length co30) : Value).ownBlock ∧ some k_ ≠ ((.slice Ao33 t630.length co33) : Value).ownBlock ∧ k_ ≠ gb611 ∧ k_ ≠ gb636) (.slice Ao48 t644.length co48) t644) ∧ Aside0 (Kd.R (Kd.int .i64) 3 wc w.heap.size (fun k_ => some k_ ≠ ((.slice Ao24 t617.length co24) : Value).ownBlock ∧ some k_ ≠ ((.slice Ao26 t620.length co26) : Value).ownBlock ∧ some k_ ≠ ((.slice Ao28 t623.length co28) : Value).ownBlock ∧ some k_ ≠ ((.slice Ao30 t626.length co30) : Value).ownBlock) (.slice Ao22 t614.length co22) t614) ∧ Aside0 (Kd.R (Kd.int .i64) 3 wc w.heap.size (fun k_ => some k_ ≠ ((.slice Ao22 t614.length co22) : Value).ownBlock ∧ some k_ ≠ ((.slice Ao26 t620.length co26) : Value).ownBlock ∧ some k_ ≠ ((.slice Ao28 t623.length co28) : Value).ownBlock ∧ some k_ ≠ ((.slice Ao30 t626.length co30) : Value).ownBlock) (.slice Ao24 t617.length co24) t617) ∧ Aside0 (Kd.R (Kd.int .i64) 3 wc w.heap.size (fun k_ => some k_ ≠ ((.slice Ao22 t614.length co22) : Value).ownBlock ∧ some k_ ≠ ((.slice Ao24 t617.length co24) : Value).ownBlock ∧ some k_ ≠ ((.slice Ao28 t623.length co28) : Value).ownBlock ∧ some k_ ≠ ((.slice Ao30 t626.length co30) : Value).ownBlock) (.slice Ao26 t620.length co26) t620) ∧ Aside0 (Kd.R (Kd.int .i64) 3 wc w.heap.size (fun k_ => some k_ ≠ ((.slice Ao22 t614.length co22) : Value).ownBlock ∧ some k_ ≠ ((.slice Ao24 t617.length co24) : Value).ownBlock ∧ some k_ ≠ ((.slice Ao26 t620.length co26) : Value).ownBlock ∧ some k_ ≠ ((.slice Ao30 t626.length co30) : Value).ownBlock) (.slice Ao28 t623.length co28) t623) ∧ Aside0 (Kd.R (Kd.int .i64) 3 wc w.heap.size (fun k_ => some k_ ≠ ((.slice Ao22 t614.length co22) : Value).ownBlock ∧ some k_ ≠ ((.slice Ao24 t617.length co24) : Value).ownBlock ∧ some k_ ≠ ((.slice Ao26 t620.length co26) : Value).ownBlock ∧ some k_ ≠ ((.slice Ao28 t623.length co28) : Value).ownBlock) (.slice Ao30 t626.length co30) t626) ∧ Aside0 (Kd.N (Kd.slice 3 (Kd.int .i64)) 30 wc w.heap.size (fun k_ => some k_ ≠ ((.slice Ao37 t633.length co37) : Value).ownBlock ∧ some k_ ≠ ((.slice Ao48 t644.length co48) : Value).ownBlock ∧ some k_ ≠ ((.slice Ao22 t614.length co22) : Value).ownBlock ∧ some k_ ≠ ((.slice Ao24 t617.length co24) : Value).ownBlock ∧ some k_ ≠ ((.slice Ao26 t620.length co26) : Value).ownBlock ∧ some k_ ≠ ((.slice Ao28 t623.length co28) : Value).ownBlock ∧ some k_ ≠ ((.slice Ao30 t626.length co30) : Value).ownBlock ∧ k_ ≠ gb611 ∧ k_ ≠ gb636) (.slice Ao33 t630.length co33) t630) ∧ Aside0 (wc.heap[gb611]? = some (.cells #[.int .u8 a0_0, (.slice A0_1 l0_1.length c0_1), (.slice A0_2 l0_2.length c0_2), (.slice A0_3 l0_3.length c0_3), .int .i16 a0_4, .int .u8 a0_5, (.slice A0_6 l0_6.length c0_6)] 29 (0, 0))) ∧ Aside0 (wc.heap[gb636]? = some (.cells #[.int .i64 t613, (.slice Ao22 t614.length co22), (.slice Ao24 t617.length co24), (.slice Ao26 t620.length co26), (.slice Ao28 t623.length co28), (.slice Ao30 t626.length co30), .int .i64 t629, (.slice Ao33 t630.length co33)] 32 (0, 0))) ∧ Aside0 (Below w.heap.size w wc))
    case first =>
     have H := HC15.out
     clear HC15
     have H' := Aside0.mk H
     clear H
     go_wp2
     go_meet
     case rel => exact ⟨_, (!t656), eq_, H', ⟨by first | omega | exact Nat.le_refl _⟩, ⟨by refine vN_ ?_; exact Kd.N_mono HO635.out (fun _ hk => ⟨hk.1.1.2, ⟨hk.1.1.1.1.1.1, ⟨hk.1.1.1.1.1.2.1, ⟨hk.1.1.1.1.1.2.2.1, ⟨hk.1.1.1.1.1.2.2.2.1, ⟨hk.1.1.1.1.1.2.2.2.2.1, ⟨hk.1.1.1.1.1.2.2.2.2.2.1, ⟨hk.1.1.1.1.1.2.2.2.2.2.2.1, hk.1.1.1.1.1.2.2.2.2.2.2.2⟩⟩⟩⟩⟩⟩⟩⟩)⟩, ⟨by refine vN_ ?_; exact Kd.N_mono HO646.out (fun _ hk => ⟨hk.1.1.2.2.2.2.2.2.1, ⟨hk.1.1.1, ⟨hk.1.1.2.1, ⟨hk.1.1.2.2.1, ⟨hk.1.1.2.2.2.1, ⟨hk.1.1.2.2.2.2.1, ⟨hk.1.1.2.2.2.2.2.1, ⟨hk.1.1.2.2.2.2.2.2.2.2.2.1, hk.1.1.2.2.2.2.2.2.2.2.2.2⟩⟩⟩⟩⟩⟩⟩⟩)⟩, ⟨by refine vR_ ?_; exact HO616.out⟩, ⟨by refine vR_ ?_; exact HO619.out⟩, ⟨by refine vR_ ?_; exact HO622.out⟩, ⟨by refine vR_ ?_; exact HO625.out⟩, ⟨by refine vR_ ?_; exact HO628.out⟩, ⟨by refine vN_ ?_; exact Kd.N_mono HO632.out (fun _ hk => ⟨hk.1.1.1.1.1.2.2.2.2.2.1, ⟨hk.1.1.2, ⟨hk.1.1.1.1.1.1, ⟨hk.1.1.1.1.1.2.1, ⟨hk.1.1.1.1.1.2.2.1, ⟨hk.1.1.1.1.1.2.2.2.1, ⟨hk.1.1.1.1.1.2.2.2.2.1, ⟨hk.1.1.1.1.1.2.2.2.2.2.2.1, hk.1.1.1.1.1.2.2.2.2.2.2.2⟩⟩⟩⟩⟩⟩⟩⟩)⟩, ⟨by refine bk_ ?_; exact BK611.out⟩, ⟨by refine bk_ ?_; exact BK636.out⟩, ⟨bel_⟩⟩
    case rest =>
     clear HC15
     try clear c1
     try clear p2
     try clear c4
     try clear c7
     try clear c8
     try clear c9
     try clear c10
     try clear c11
     try clear c12
     try clear c15
     try clear c41
     obtain ⟨kq, x56_14, rfl, HA, HJ14, HO_6, HO_9, HO_637001, HO_637002, HO_637003, HO_637004, HO_637005, HO_637007, BK611, BK636, HB⟩ := hcut
     cases kq with
     | zero => exact absurd HA.out (by simp [jigsawlaw14_ClauseFilters.j0])
     | succ kj14 =>
      have H := HA.out
      clear HA
      simp only [jigsawlaw14_ClauseFilters.j0] at H
      by_cases c51 : x56_14 = true
      ·
       subst c51
       rw [if_pos rfl] at H
       obtain rfl := Option.some.inj H
       go_wp2
       go_ret
       exact ⟨by first | rfl | (simp [errW_none, errW_some] <;> rfl) | (simp [*, errW_none, errW_some] <;> rfl), bel_⟩
      ·
       replace c51 := Bool.eq_false_iff.mpr c51
       subst c51
       have H1 : ((jigsawref10_Exact.f kj14 t613 t614 t617 t620 t623 t626 t629 t630 t633 4000).bind fun bt657 => (if (t643 == bt657.2) = true then ((jigsawref10_Same.f kj14 t644 bt657.1).bind fun t661 => (some t661)) else (none))) = some r := by rw [if_neg (show ¬ (false = true) by decide)] at H; exact H
       clear H
       have H := H1
       clear H1
       replace H := Option.bind_eq_some_iff.mp H
       obtain ⟨⟨t657, t660⟩, A520, H⟩ := H
       try dsimp only at H
       have A52 := Aside0.mk A520
       clear A520
       by_cases c53 : (t643 == t660) = true
       ·
        rw [if_pos c53] at H
        have c53b0 : (t643 == t660) = true := c53
        (try (have c53b1 : decide (t643 = t660) = true := by simpa using c53))
        (try (have c53b2 : (t643 == t660) = true := by simpa using c53))
        clear c53
        replace H := Option.bind_eq_some_iff.mp H
        obtain ⟨t661, A540, H⟩ := H
        try dsimp only at H
        have A54 := Aside0.mk A540
        clear A540
        obtain rfl := Option.some.inj H
        have hnb55 := NB636_611.out
        have hnc55 := NB611_636.out
        obtain ⟨_, _, _, _, _, _, _, _, _, _, _, _, _, _, _, _⟩ := cel8_ BK636.out
        go_wp2_with (first | ((with_reducible refine gate_callee (f := 16) rfl ?_); refine goesL_ (some 60) rfl rfl Tryz.func16 (by kernel_rfl) rfl #[.agg #[.int .i64 t613, .slice Ao22 t614.length co22, .slice Ao24 t617.length co24, .slice Ao26 t620.length co26, .slice Ao28 t623.length co28, .slice Ao30 t626.length co30, .int .i64 t629, .slice Ao33 t630.length co33], .slice Ao37 t633.length co37, .int .i64 4000] rfl ar_ ?_; (with_reducible refine (jigsawref10_Exact.calls kj14 t613 _ _ t614 _ _ t617 (fun k_ => some k_ = (.slice Ao26 t620.length co26 : Value).ownBlock) _ _ t620 (fun k_ => some k_ = (.slice Ao28 t623.length co28 : Value).ownBlock) _ _ t623 (fun k_ => some k_ = (.slice Ao30 t626.length co30 : Value).ownBlock) _ _ t626 t629 (fun k_ => (some k_ ≠ (.slice Ao37 t633.length co37 : Value).ownBlock ∧ (some k_ ≠ (.slice Ao48 t644.length co48 : Value).ownBlock ∧ (some k_ ≠ (.slice Ao22 t614.length co22 : Value).ownBlock ∧ (some k_ ≠ (.slice Ao24 t617.length co24 : Value).ownBlock ∧ (some k_ ≠ (.slice Ao26 t620.length co26 : Value).ownBlock ∧ (some k_ ≠ (.slice Ao28 t623.length co28 : Value).ownBlock ∧ (some k_ ≠ (.slice Ao30 t626.length co30 : Value).ownBlock ∧ (k_ ≠ gb611 ∧ k_ ≠ gb636))))))))) _ _ t630 _ _ t633 4000 t657 t660 _ ?_ ?_ ?_ ?_ ?_ ?_ ?_ ?_ ?_ ?_ A52.out).mono ?_); exact ca_ ((Kd.R_reads' HO_637001.out).2.2); exact (Kd.R_reads' HO_637001.out).2.1; exact ca_ ((Kd.R_reads' HO_637002.out).2.2); exact (Kd.R_reads' HO_637002.out).2.1; exact Kd.R_V (Kd.R_tight rfl (Kd.R_types (Kd.R_types (Kd.R_apart' (Kd.R_apart' (Kd.R_apart' (HO_637003.out) (Kd.N_typed HO_6.out) (by decide)) (Kd.N_typed HO_9.out) (by decide)) (Kd.N_typed HO_637007.out) (by decide)) BK611.out (by decide)) BK636.out (by decide))); exact Kd.R_V (Kd.R_tight rfl (Kd.R_types (Kd.R_types (Kd.R_apart' (Kd.R_apart' (Kd.R_apart' (HO_637004.out) (Kd.N_typed HO_6.out) (by decide)) (Kd.N_typed HO_9.out) (by decide)) (Kd.N_typed HO_637007.out) (by decide)) BK611.out (by decide)) BK636.out (by decide))); exact Kd.R_V (Kd.R_tight rfl (Kd.R_types (Kd.R_types (Kd.R_apart' (Kd.R_apart' (Kd.R_apart' (HO_637005.out) (Kd.N_typed HO_6.out) (by decide)) (Kd.N_typed HO_9.out) (by decide)) (Kd.N_typed HO_637007.out) (by decide)) BK611.out (by decide)) BK636.out (by decide))); exact Kd.N_V (HO_637007.out); exact ca_ ((Kd.N_reads' HO_6.out).2.2); exact (Kd.N_reads' HO_6.out).2.1; rintro e w57 ⟨v658, rfl, ho0, hb⟩; refine ⟨_, rfl, ?_⟩; have HO659 := Aside0.mk (Kd.N_lower (Kd.N_mono (ok' := fun k_ => some k_ ≠ (.slice Ao37 t633.length co37 : Value).ownBlock ∧ some k_ ≠ (.slice Ao48 t644.length co48 : Value).ownBlock ∧ some k_ ≠ (.slice Ao22 t614.length co22 : Value).ownBlock ∧ some k_ ≠ (.slice Ao24 t617.length co24 : Value).ownBlock ∧ k_ ≠ gb611 ∧ k_ ≠ gb636) ho0 (fun k_ hk_ => ⟨Or.elim hk_ (fun hs_ => Or.elim hs_ (fun hs_ => ((Kd.R_types (Kd.R_types (Kd.R_apart' (Kd.R_apart' (Kd.R_apart' (HO_637003.out) (Kd.N_typed HO_6.out) (by decide)) (Kd.N_typed HO_9.out) (by decide)) (Kd.N_typed HO_637007.out) (by decide)) BK611.out (by decide)) BK636.out (by decide)).1 k_ hs_.symm).1.1.1.1.2) (fun hs_ => Or.elim hs_ (fun hs_ => ((Kd.R_types (Kd.R_types (Kd.R_apart' (Kd.R_apart' (Kd.R_apart' (HO_637004.out) (Kd.N_typed HO_6.out) (by decide)) (Kd.N_typed HO_9.out) (by decide)) (Kd.N_typed HO_637007.out) (by decide)) BK611.out (by decide)) BK636.out (by decide)).1 k_ hs_.symm).1.1.1.1.2) (fun hs_ => Or.elim hs_ (fun hs_ => ((Kd.R_types (Kd.R_types (Kd.R_apart' (Kd.R_apart' (Kd.R_apart' (HO_637005.out) (Kd.N_typed HO_6.out) (by decide)) (Kd.N_typed HO_9.out) (by decide)) (Kd.N_typed HO_637007.out) (by decide)) BK611.out (by decide)) BK636.out (by decide)).1 k_ hs_.symm).1.1.1.1.2) (fun hs_ => hs_.1)))) (fun hn_ => (Kd.fresh' (Kd.N_lt (vN_ HO_6.out)) k_ hn_)), Or.elim hk_ (fun hs_ => Or.elim hs_ (fun hs_ => ((Kd.R_types (Kd.R_types (Kd.R_apart' (Kd.R_apart' (Kd.R_apart' (HO_637003.out) (Kd.N_typed HO_6.out) (by decide)) (Kd.N_typed HO_9.out) (by decide)) (Kd.N_typed HO_637007.out) (by decide)) BK611.out (by decide)) BK636.out (by decide)).1 k_ hs_.symm).1.1.1.2) (fun hs_ => Or.elim hs_ (fun hs_ => ((Kd.R_types (Kd.R_types (Kd.R_apart' (Kd.R_apart' (Kd.R_apart' (HO_637004.out) (Kd.N_typed HO_6.out) (by decide)) (Kd.N_typed HO_9.out) (by decide)) (Kd.N_typed HO_637007.out) (by decide)) BK611.out (by decide)) BK636.out (by decide)).1 k_ hs_.symm).1.1.1.2) (fun hs_ => Or.elim hs_ (fun hs_ => ((Kd.R_types (Kd.R_types (Kd.R_apart' (Kd.R_apart' (Kd.R_apart' (HO_637005.out) (Kd.N_typed HO_6.out) (by decide)) (Kd.N_typed HO_9.out) (by decide)) (Kd.N_typed HO_637007.out) (by decide)) BK611.out (by decide)) BK636.out (by decide)).1 k_ hs_.symm).1.1.1.2) (fun hs_ => hs_.2.1)))) (fun hn_ => (Kd.fresh' (Kd.N_lt (vN_ HO_9.out)) k_ hn_)), Or.elim hk_ (fun hs_ => Or.elim hs_ (fun hs_ => ((Kd.R_types (Kd.R_types (Kd.R_apart' (Kd.R_apart' (Kd.R_apart' (HO_637003.out) (Kd.N_typed HO_6.out) (by decide)) (Kd.N_typed HO_9.out) (by decide)) (Kd.N_typed HO_637007.out) (by decide)) BK611.out (by decide)) BK636.out (by decide)).1 k_ hs_.symm).1.1.1.1.1.1) (fun hs_ => Or.elim hs_ (fun hs_ => ((Kd.R_types (Kd.R_types (Kd.R_apart' (Kd.R_apart' (Kd.R_apart' (HO_637004.out) (Kd.N_typed HO_6.out) (by decide)) (Kd.N_typed HO_9.out) (by decide)) (Kd.N_typed HO_637007.out) (by decide)) BK611.out (by decide)) BK636.out (by decide)).1 k_ hs_.symm).1.1.1.1.1.1) (fun hs_ => Or.elim hs_ (fun hs_ => ((Kd.R_types (Kd.R_types (Kd.R_apart' (Kd.R_apart' (Kd.R_apart' (HO_637005.out) (Kd.N_typed HO_6.out) (by decide)) (Kd.N_typed HO_9.out) (by decide)) (Kd.N_typed HO_637007.out) (by decide)) BK611.out (by decide)) BK636.out (by decide)).1 k_ hs_.symm).1.1.1.1.1.1) (fun hs_ => hs_.2.2.1)))) (fun hn_ => (Kd.fresh' (Kd.R_lt (vR_ HO_637001.out)) k_ hn_)), Or.elim hk_ (fun hs_ => Or.elim hs_ (fun hs_ => ((Kd.R_types (Kd.R_types (Kd.R_apart' (Kd.R_apart' (Kd.R_apart' (HO_637003.out) (Kd.N_typed HO_6.out) (by decide)) (Kd.N_typed HO_9.out) (by decide)) (Kd.N_typed HO_637007.out) (by decide)) BK611.out (by decide)) BK636.out (by decide)).1 k_ hs_.symm).1.1.1.1.1.2.1) (fun hs_ => Or.elim hs_ (fun hs_ => ((Kd.R_types (Kd.R_types (Kd.R_apart' (Kd.R_apart' (Kd.R_apart' (HO_637004.out) (Kd.N_typed HO_6.out) (by decide)) (Kd.N_typed HO_9.out) (by decide)) (Kd.N_typed HO_637007.out) (by decide)) BK611.out (by decide)) BK636.out (by decide)).1 k_ hs_.symm).1.1.1.1.1.2.1) (fun hs_ => Or.elim hs_ (fun hs_ => ((Kd.R_types (Kd.R_types (Kd.R_apart' (Kd.R_apart' (Kd.R_apart' (HO_637005.out) (Kd.N_typed HO_6.out) (by decide)) (Kd.N_typed HO_9.out) (by decide)) (Kd.N_typed HO_637007.out) (by decide)) BK611.out (by decide)) BK636.out (by decide)).1 k_ hs_.symm).1.1.1.1.1.2.1) (fun hs_ => hs_.2.2.2.1)))) (fun hn_ => (Kd.fresh' (Kd.R_lt (vR_ HO_637002.out)) k_ hn_)), Or.elim hk_ (fun hs_ => Or.elim hs_ (fun hs_ => ((Kd.R_types (Kd.R_types (Kd.R_apart' (Kd.R_apart' (Kd.R_apart' (HO_637003.out) (Kd.N_typed HO_6.out) (by decide)) (Kd.N_typed HO_9.out) (by decide)) (Kd.N_typed HO_637007.out) (by decide)) BK611.out (by decide)) BK636.out (by decide)).1 k_ hs_.symm).1.2) (fun hs_ => Or.elim hs_ (fun hs_ => ((Kd.R_types (Kd.R_types (Kd.R_apart' (Kd.R_apart' (Kd.R_apart' (HO_637004.out) (Kd.N_typed HO_6.out) (by decide)) (Kd.N_typed HO_9.out) (by decide)) (Kd.N_typed HO_637007.out) (by decide)) BK611.out (by decide)) BK636.out (by decide)).1 k_ hs_.symm).1.2) (fun hs_ => Or.elim hs_ (fun hs_ => ((Kd.R_types (Kd.R_types (Kd.R_apart' (Kd.R_apart' (Kd.R_apart' (HO_637005.out) (Kd.N_typed HO_6.out) (by decide)) (Kd.N_typed HO_9.out) (by decide)) (Kd.N_typed HO_637007.out) (by decide)) BK611.out (by decide)) BK636.out (by decide)).1 k_ hs_.symm).1.2) (fun hs_ => hs_.2.2.2.2.2.2.2.1)))) (fun hn_ => (Kd.freshB (bk_ BK611.out) k_ hn_)), Or.elim hk_ (fun hs_ => Or.elim hs_ (fun hs_ => ((Kd.R_types (Kd.R_types (Kd.R_apart' (Kd.R_apart' (Kd.R_apart' (HO_637003.out) (Kd.N_typed HO_6.out) (by decide)) (Kd.N_typed HO_9.out) (by decide)) (Kd.N_typed HO_637007.out) (by decide)) BK611.out (by decide)) BK636.out (by decide)).1 k_ hs_.symm).2) (fun hs_ => Or.elim hs_ (fun hs_ => ((Kd.R_types (Kd.R_types (Kd.R_apart' (Kd.R_apart' (Kd.R_apart' (HO_637004.out) (Kd.N_typed HO_6.out) (by decide)) (Kd.N_typed HO_9.out) (by decide)) (Kd.N_typed HO_637007.out) (by decide)) BK611.out (by decide)) BK636.out (by decide)).1 k_ hs_.symm).2) (fun hs_ => Or.elim hs_ (fun hs_ => ((Kd.R_types (Kd.R_types (Kd.R_apart' (Kd.R_apart' (Kd.R_apart' (HO_637005.out) (Kd.N_typed HO_6.out) (by decide)) (Kd.N_typed HO_9.out) (by decide)) (Kd.N_typed HO_637007.out) (by decide)) BK611.out (by decide)) BK636.out (by decide)).1 k_ hs_.symm).2) (fun hs_ => hs_.2.2.2.2.2.2.2.2)))) (fun hn_ => (Kd.freshB (bk_ BK636.out) k_ hn_))⟩)) (below_size bel_)); replace HO_9 := Aside0.mk (Kd.N_elder' (vN_ HO_9.out) (Kd.N_base ho0) hb); replace HB := Aside0.mk (below_step bel_ hb); clear hb ho0; obtain ⟨Ao58, co58, eo58⟩ := Kd.N_slice HO659.out; subst eo58) | (go_at_call 13; (with_reducible refine (jigsawref10_Same.calls kj14 _ _ t644 _ _ t657 t661 _ ?_ ?_ ?_ ?_ A54.out).mono ?_); exact ca_ ((Kd.N_reads' HO_9.out).2.2); exact (Kd.N_reads' HO_9.out).2.1; exact ca_ ((Kd.N_reads' HO659.out).2.2); exact (Kd.N_reads' HO659.out).2.1; rintro e w' ⟨rfl, ⟨nd, rfl⟩⟩))
        go_ret
        exact ⟨by first | rfl | (simp [errW_none, errW_some] <;> rfl) | (simp [*, errW_none, errW_some] <;> rfl), bel_⟩
       ·
        rw [if_neg c53] at H
        exact absurd H (by simp)
   ·
    replace c13 := Bool.eq_false_iff.mpr c13
    subst c13
    have H1 : (none) = some r := by rw [if_neg (show ¬ (false = true) by decide)] at H; exact H
    clear H
    have H := H1
    clear H1
    exact absurd H (by simp)
 ·
  replace c9 := Bool.eq_false_iff.mpr c9
  subst c9
  have H1 : (none) = some r := by rw [if_neg (show ¬ (false = true) by decide)] at H; exact H
  clear H
  have H := H1
  clear H1
  exact absurd H (by simp)

end Go.Proofs.YtmhchlbbfpmdgaaGreatDoor.XClauseFilters
