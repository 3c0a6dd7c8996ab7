-- by xprint.py, a program of this session, over the kit's print
import Derived.Test.YtiofjnhmogeenaaGreatDoorXEXSx0
import Derived.Test.YtiofjnhmogeenaaGreatDoorXEXSx5
import Derived.Test.YtiofjnhmogeenaaGreatDoorXEXSx6
import Derived.Test.YtiofjnhmogeenaaGreatDoorXEXSx9
import Derived.Test.YtiofjnhmogeenaaGreatDoorSq
namespace Go.Proofs.YtiofjnhmogeenaaGreatDoor.XExtFixed
open Go.RowKit Go.Proofs.YtiofjnhmogeenaaGreatDoor.Sq Go.Proofs.YtiofjnhmogeenaaGreatDoorW.PrintWords Go.Proofs.YtiofjnhmogeenaaGreatDoorW.PrintLast Go.Proofs.YtiofjnhmogeenaaGreatDoorW.PrintMore
attribute [local go_sem] max2_int min2_int max_two min_two max_three min_three max_four min_four   -- for this text's walks alone
set_option linter.unusedVariables false
set_option linter.unusedSimpArgs false

/-! ### ext_absolute: function 28 -/
def ext_absolute.l0 : Nat → List Int → List Int → List Int → Int → Int → Int → List Int → Int → Int → Int → Option ((List (S61)) × Bool)
 | 0, _, _, _, _, _, _, _, _, _, _ => none
 | k + 1, x6, x7, x12, x13, x14, x246000, x246001, x246002, x246003, x246004 => if x14 < x13 then (if 0 ≤ x14 then (if x14 < (x12.length : Int) then ((dom_Dom_Has.f x246000 x246001 x246002 x246003 x246004 (mx (rd x12 x14) (wrap64 (-(rd x12 x14))))).bind fun t250 => (if t250 = true then (if x6.length < 17592186044416 then (if x7.length < 17592186044416 then (ext_absolute.l0 k (x6 ++ [rd x12 x14]) (x7 ++ [mx (rd x12 x14) (wrap64 (-(rd x12 x14)))]) x12 x13 (wrap64 (x14 + 1)) x246000 x246001 x246002 x246003 x246004) else (none)) else (none)) else (ext_absolute.l0 k x6 x7 x12 x13 (wrap64 (x14 + 1)) x246000 x246001 x246002 x246003 x246004))) else (none)) else (none)) else ((prop_Made.f k (([x6, x7] : List (List Int)))).bind fun bt260 => (some (bt260.1, bt260.2)))
def ext_absolute.f (k : Nat) (a0_0 : Int) (l0_1 : List Int) (a0_2 : Int) (a0_3 : Int) (a0_4 : Int) (a1_0 : Int) (l1_1 : List Int) (a1_2 : Int) (a1_3 : Int) (a1_4 : Int) : Option ((List (S61)) × Bool) := (dom_Dom_List.f k a0_0 l0_1 a0_2 a0_3 a0_4).bind fun t246 => (ext_absolute.l0 k ([] : List Int) ([] : List Int) t246 (t246.length : Int) 0 a1_0 l1_1 a1_2 a1_3 a1_4)
theorem ext_absolute.mono_l : ∀ k, (∀ y0 y1 y2 y3 y4 y5 y6 y7 y8 y9, LeO (ext_absolute.l0 k y0 y1 y2 y3 y4 y5 y6 y7 y8 y9) (ext_absolute.l0 (k + 1) y0 y1 y2 y3 y4 y5 y6 y7 y8 y9))
 | 0 => fun _ _ _ _ _ _ _ _ _ _ r h => by simp [ext_absolute.l0] at h
 | k + 1 => by
  have ih0 := ext_absolute.mono_l k
  ·
   intro y0 y1 y2 y3 y4 y5 y6 y7 y8 y9
   unfold ext_absolute.l0
   have m0 := @dom_Dom_List.mono
   have m1 := @prop_Made.mono
   exact leo_
theorem ext_absolute.mono : ∀ a0 a1 a2 a3 a4 a5 a6 a7 a8 a9 k, LeO (ext_absolute.f k a0 a1 a2 a3 a4 a5 a6 a7 a8 a9) (ext_absolute.f (k + 1) a0 a1 a2 a3 a4 a5 a6 a7 a8 a9) := by
 intro a0 a1 a2 a3 a4 a5 a6 a7 a8 a9 k
 have ih0 := ext_absolute.mono_l k
 unfold ext_absolute.f
 have m0 := @dom_Dom_List.mono
 have m1 := @prop_Made.mono
 exact leo_
set_option maxHeartbeats 8000000 in
set_option maxRecDepth 100000 in
theorem ext_absolute.calls (k : Nat) (a0_0 : Int) (A0_1 : Option Addr) (c0_1 : Nat) (l0_1 : List Int) (a0_2 : Int) (a0_3 : Int) (a0_4 : Int) (a1_0 : Int) (A1_1 : Option Addr) (c1_1 : Nat) (l1_1 : List Int) (a1_2 : Int) (a1_3 : Int) (a1_4 : Int) (r1 : List (S61)) (r2 : Bool) (w : World) (hr0_1 : Kd.C (Kd.int .u64) w A0_1 l0_1.length l0_1) (hc0_1 : l0_1.length ≤ c0_1) (hr1_1 : Kd.C (Kd.int .u64) w A1_1 l1_1.length l1_1) (hc1_1 : l1_1.length ≤ c1_1) (hrtab : Kd.C (Kd.int .u8) w (some ⟨0, 0, none⟩) tabL.length tabL) (h : ext_absolute.f k a0_0 l0_1 a0_2 a0_3 a0_4 a1_0 l1_1 a1_2 a1_3 a1_4 = some (r1, r2)) :
  Calls Tryz.prog 28 #[.agg #[.int .i64 a0_0, .slice A0_1 l0_1.length c0_1, .int .i64 a0_2, .int .i64 a0_3, .int .i64 a0_4], .agg #[.int .i64 a1_0, .slice A1_1 l1_1.length c1_1, .int .i64 a1_2, .int .i64 a1_3, .int .i64 a1_4]] w fun e w' => ∃ v0_ : Value, e = .returned (.tuple #[v0_, .bool r2]) ∧ Kd.N k61 61 w' w.heap.size (fun k_ => (w.heap.size ≤ k_)) v0_ r1 ∧ Below w.heap.size w w' := by
 have hu61 := Tryz.underlying61
 have HR0_1 := Aside0.mk hr0_1
 have HC0_1 := Aside0.mk hc0_1
 clear hr0_1 hc0_1
 have HR1_1 := Aside0.mk hr1_1
 have HC1_1 := Aside0.mk hc1_1
 clear hr1_1 hc1_1
 have HRtab := Aside0.mk hrtab
 clear hrtab
 have HB := Aside0.mk (Below.refl w.heap.size w)
 have H : ((dom_Dom_List.f k a0_0 l0_1 a0_2 a0_3 a0_4).bind fun t246 => (ext_absolute.l0 k ([] : List Int) ([] : List Int) t246 (t246.length : Int) 0 a1_0 l1_1 a1_2 a1_3 a1_4)) = some (r1, r2) := h
 clear h
 replace H := Option.bind_eq_some_iff.mp H
 obtain ⟨t246, A30, H⟩ := H
 replace H : (ext_absolute.l0 k ([] : List Int) ([] : List Int) t246 (t246.length : Int) 0 a1_0 l1_1 a1_2 a1_3 a1_4) = some (r1, r2) := H
 have A3 := Aside0.mk A30
 clear A30
 have H' := Aside0.mk H
 clear H
 go_enter Tryz.func28, Tryz.ntmps28
 go_wp2_with (first | ((with_reducible refine gate_dst (N := 2) rfl ?_); refine bxe_ (N := 2) (cs := #[.int .i64 a0_0, .slice A0_1 l0_1.length c0_1, .int .i64 a0_2, .int .i64 a0_3, .int .i64 a0_4]) (t := 61) ?_; intro gb244 hg w4 hbox hb; have BK244 := Aside0.mk (hbox); have GW244 := Aside0.mk (by rw [hg]; exact (below_size bel_) : w.heap.size ≤ gb244); have GE244 := GW244; replace HB := Aside0.mk (below_step bel_ hb); clear hb hbox hg) | ((with_reducible refine gate_dst (N := 3) rfl ?_); refine bxe_ (N := 3) (cs := #[.int .i64 a1_0, .slice A1_1 l1_1.length c1_1, .int .i64 a1_2, .int .i64 a1_3, .int .i64 a1_4]) (t := 61) ?_; intro gb245 hg w5 hbox hb; have BK245 := Aside0.mk (hbox); have GW245 := Aside0.mk (by rw [hg]; exact (below_size bel_) : w.heap.size ≤ gb245); have GE245 := GW245; replace HB := Aside0.mk (below_step bel_ hb); have NB244_245 := Aside0.mk ((by rw [hg]; exact Nat.ne_of_lt (blk_lt (bk_ BK244.out)) : gb244 ≠ gb245)); have NB245_244 := Aside0.mk ((by rw [hg]; exact Nat.ne_of_gt (blk_lt (bk_ BK244.out)) : gb245 ≠ gb244)); replace BK244 := Aside0.mk (blk_below (bk_ BK244.out) hb); clear hb hbox hg; have hnb6 := NB244_245.out; have hnc6 := NB245_244.out; obtain ⟨hcz7_0, hcz7_1, hcz7_2, hcz7_3, hcz7_4, hfz7_0, hfz7_1, hfz7_2, hfz7_3, hfz7_4⟩ := cel5_ BK244.out) | ((with_reducible refine gate_callee (f := 23) rfl ?_); refine goesL_ (some 12) rfl rfl Tryz.func23 (by kernel_rfl) rfl #[.agg #[.int .i64 a0_0, .slice A0_1 l0_1.length c0_1, .int .i64 a0_2, .int .i64 a0_3, .int .i64 a0_4]] rfl ar_ ?_; (with_reducible refine (dom_Dom_List.calls k a0_0 _ _ l0_1 a0_2 a0_3 a0_4 t246 _ ?_ ?_ ?_ A3.out).mono ?_); exact ca_ ((Kd.C_below HR0_1.out HB.out)); exact HC0_1.out; exact ca_ ((Kd.C_below HRtab.out HB.out)); rintro e w8 ⟨v247, rfl, ho0, hb⟩; refine ⟨_, rfl, ?_⟩; have HO248 := Aside0.mk (Kd.R_lower (Kd.R_newM (M := fun k_ => (w.heap.size ≤ k_)) ho0 (below_size bel_) (fun k_ h_ => h_)) (below_size bel_)); replace BK244 := Aside0.mk (blk_below (bk_ BK244.out) hb); replace BK245 := Aside0.mk (blk_below (bk_ BK245.out) hb); replace HB := Aside0.mk (below_step bel_ hb); clear hb ho0; obtain ⟨Ao9, co9, eo9⟩ := Kd.R_slice HO248.out; subst eo9))
 go_loopg [6, 7, 14] k (fun kq v6 v7 v14 w' => ∃ (x6_1 : List Int) (x7_1 : List Int) (x14_1 : Int), v14 = .int .i64 x14_1 ∧ Aside0 (ext_absolute.l0 kq x6_1 x7_1 t246 (t246.length : Int) x14_1 a1_0 l1_1 a1_2 a1_3 a1_4 = some (r1, r2)) ∧ Aside0 (kq ≤ k) ∧ Aside0 (Kd.R (Kd.int .i64) 3 w' w.heap.size (fun k_ => (w.heap.size ≤ k_) ∧ some k_ ≠ (v7 : Value).ownBlock ∧ some k_ ≠ ((.slice Ao9 t246.length co9) : Value).ownBlock) v6 x6_1) ∧ Aside0 (Kd.R (Kd.int .i64) 3 w' w.heap.size (fun k_ => (w.heap.size ≤ k_) ∧ some k_ ≠ (v6 : Value).ownBlock ∧ some k_ ≠ ((.slice Ao9 t246.length co9) : Value).ownBlock) v7 x7_1) ∧ Aside0 (Kd.R (Kd.int .i64) 3 w' w.heap.size (fun k_ => (w.heap.size ≤ k_) ∧ some k_ ≠ (v6 : Value).ownBlock ∧ some k_ ≠ (v7 : Value).ownBlock) (.slice Ao9 t246.length co9) t246) ∧ Aside0 (w'.heap[gb244]? = some (.cells #[.int .i64 a0_0, (.slice A0_1 l0_1.length c0_1), .int .i64 a0_2, .int .i64 a0_3, .int .i64 a0_4] 61 (0, 0))) ∧ Aside0 (w'.heap[gb245]? = some (.cells #[.int .i64 a1_0, (.slice A1_1 l1_1.length c1_1), .int .i64 a1_2, .int .i64 a1_3, .int .i64 a1_4] 61 (0, 0))) ∧ Aside0 (Below w.heap.size w w'))
 case atStart => exact ⟨(([] : List Int)), (([] : List Int)), (0), eq_, H', ⟨Nat.le_refl _⟩, ⟨nil_⟩, ⟨nil_⟩, ⟨by refine vR_ ?_; exact Kd.R_mono HO248.out (fun _ hk => ⟨hk.1, ⟨(by simp [Value.ownBlock]), (by simp [Value.ownBlock])⟩⟩)⟩, ⟨by refine bk_ ?_; exact BK244.out⟩, ⟨by refine bk_ ?_; exact BK245.out⟩, ⟨bel_⟩⟩
 case round =>
  clear H'
  try clear c1
  try clear c2
  try clear p2
  try clear c6
  try clear hcz7_0
  try clear hcz7_1
  try clear hcz7_2
  try clear hcz7_3
  try clear hcz7_4
  try clear hfz7_0
  try clear hfz7_1
  try clear hfz7_2
  try clear hfz7_3
  try clear hfz7_4
  obtain ⟨x6_1, x7_1, x14_1, rfl, HA, HK1, HO_6, HO_7, HO_12, BK244, BK245, HB⟩ := hrel
  cases gk with
  | zero => exact absurd HA.out (by simp [ext_absolute.l0])
  | succ k1 =>
   have H := HA.out
   clear HA
   simp only [ext_absolute.l0] at H
   by_cases c10 : x14_1 < (t246.length : Int)
   ·
    rw [if_pos c10] at H
    have c10b0 : decide (x14_1 < (t246.length : Int)) = true := decide_eq_true c10
    clear c10
    by_cases c11 : 0 ≤ x14_1
    ·
     rw [if_pos c11] at H
     have c11b0 : decide (0 ≤ x14_1) = true := decide_eq_true c11
     clear c11
     by_cases c12 : x14_1 < (t246.length : Int)
     ·
      rw [if_pos c12] at H
      have c12b0 : decide (x14_1 < (t246.length : Int)) = true := decide_eq_true c12
      clear c12
      obtain ⟨ji13, hji13⟩ : ∃ j_ : Int, (mx (rd t246 x14_1) (wrap64 (-(rd t246 x14_1)))) = j_ := ⟨_, rfl⟩
      replace H : ((dom_Dom_Has.f a1_0 l1_1 a1_2 a1_3 a1_4 (ji13)).bind fun t250 => (if t250 = true then (if x6_1.length < 17592186044416 then (if x7_1.length < 17592186044416 then (ext_absolute.l0 k1 (x6_1 ++ [rd t246 x14_1]) (x7_1 ++ [ji13]) t246 (t246.length : Int) (wrap64 (x14_1 + 1)) a1_0 l1_1 a1_2 a1_3 a1_4) else (none)) else (none)) else (ext_absolute.l0 k1 x6_1 x7_1 t246 (t246.length : Int) (wrap64 (x14_1 + 1)) a1_0 l1_1 a1_2 a1_3 a1_4))) = some (r1, r2) := by first | (rw [hji13] at H; exact H) | (simp only [hji13] at H ⊢; exact H)
      have hji13_ : (if (rd t246 x14_1) < (wrap64 (-(rd t246 x14_1))) then (wrap64 (-(rd t246 x14_1))) else (rd t246 x14_1)) = ji13 := hji13
      replace H := Option.bind_eq_some_iff.mp H
      obtain ⟨t250, A140, H⟩ := H
      replace H : (if t250 = true then (if x6_1.length < 17592186044416 then (if x7_1.length < 17592186044416 then (ext_absolute.l0 k1 (x6_1 ++ [rd t246 x14_1]) (x7_1 ++ [ji13]) t246 (t246.length : Int) (wrap64 (x14_1 + 1)) a1_0 l1_1 a1_2 a1_3 a1_4) else (none)) else (none)) else (ext_absolute.l0 k1 x6_1 x7_1 t246 (t246.length : Int) (wrap64 (x14_1 + 1)) a1_0 l1_1 a1_2 a1_3 a1_4)) = some (r1, r2) := H
      have A14 := Aside0.mk A140
      clear A140
      by_cases c15 : t250 = true
      ·
       subst c15
       have H1 : (if x6_1.length < 17592186044416 then (if x7_1.length < 17592186044416 then (ext_absolute.l0 k1 (x6_1 ++ [rd t246 x14_1]) (x7_1 ++ [ji13]) t246 (t246.length : Int) (wrap64 (x14_1 + 1)) a1_0 l1_1 a1_2 a1_3 a1_4) else (none)) else (none)) = some (r1, r2) := by rw [if_pos rfl] at H; exact H
       clear H
       have H := H1
       clear H1
       by_cases c16 : x6_1.length < 17592186044416
       ·
        rw [if_pos c16] at H
        have LMc16 := Aside0.mk c16
        clear c16
        obtain ⟨y251, hy251⟩ : ∃ y_ : List Int, y_ = (x6_1 ++ [rd t246 x14_1]) := ⟨_, rfl⟩
        replace H : (if x7_1.length < 17592186044416 then (ext_absolute.l0 k1 y251 (x7_1 ++ [ji13]) t246 (t246.length : Int) (wrap64 (x14_1 + 1)) a1_0 l1_1 a1_2 a1_3 a1_4) else (none)) = some (r1, r2) := by first | (rw [hy251]; with_reducible exact H) | (have H2_ := (Option.bind_some _ _).symm.trans H; rw [hy251]; with_reducible exact H2_) | (have H2_ := (Option.bind_some _ _).symm.trans H; with_reducible exact H2_) | with_reducible exact H | (rw [hy251]; exact H) | exact H
        have Ny251 := Aside0.mk hy251
        clear hy251
        by_cases c17 : x7_1.length < 17592186044416
        ·
         rw [if_pos c17] at H
         have LMc17 := Aside0.mk c17
         clear c17
         obtain ⟨y254, hy254⟩ : ∃ y_ : List Int, y_ = (x7_1 ++ [ji13]) := ⟨_, rfl⟩
         replace H : (ext_absolute.l0 k1 y251 y254 t246 (t246.length : Int) (wrap64 (x14_1 + 1)) a1_0 l1_1 a1_2 a1_3 a1_4) = some (r1, r2) := by first | (rw [hy254]; with_reducible exact H) | (have H2_ := (Option.bind_some _ _).symm.trans H; rw [hy254]; with_reducible exact H2_) | (have H2_ := (Option.bind_some _ _).symm.trans H; with_reducible exact H2_) | with_reducible exact H | (rw [hy254]; exact H) | exact H
         have Ny254 := Aside0.mk hy254
         clear hy254
         have H' := Aside0.mk H
         clear H
         have p249 : 0 ≤ (x14_1 : Int) := dq_
         have q249 : x14_1 < (t246.length : Int) := dq_
         obtain ⟨ad249, e249, hx249_0⟩ := Kd.at_int (Kd.R_reads' HO_12.out).2.2 x14_1 p249 q249
         cases e249
         replace p249 := eq_true p249
         replace q249 := eq_true q249
         have hnb18 := NB245_244.out
         have hnc18 := NB244_245.out
         obtain ⟨_, _, _, _, _, _, _, _, _, _⟩ := cel5_ BK245.out
         go_wp2_with (first | ((with_reducible refine gate_callee (f := 25) rfl ?_); refine goesL_ (some 24) rfl rfl Tryz.func25 (by kernel_rfl) rfl #[.agg #[.int .i64 a1_0, .slice A1_1 l1_1.length c1_1, .int .i64 a1_2, .int .i64 a1_3, .int .i64 a1_4], .int .i64 ji13] rfl (by (try simp only [List.map_toArray, List.map_cons, List.map_nil]); first | done | (simp only [hji13]; rfl) | rfl | (simp only [List.length_drop, List.length_take]; rfl)) ?_; (with_reducible refine (dom_Dom_Has.calls a1_0 _ _ l1_1 a1_2 a1_3 a1_4 ji13 true _ ?_ ?_ A14.out).mono ?_); exact ca_ ((Kd.C_below HR1_1.out HB.out)); exact HC1_1.out; rintro e w20 ⟨rfl, hb⟩; refine ⟨_, rfl, ?_⟩; replace HO_6 := Aside0.mk (Kd.R_below (vR_ HO_6.out) hb); replace HO_7 := Aside0.mk (Kd.R_below (vR_ HO_7.out) hb); replace HO_12 := Aside0.mk (Kd.R_below (vR_ HO_12.out) hb); replace BK244 := Aside0.mk (blk_below (bk_ BK244.out) hb); replace BK245 := Aside0.mk (blk_below (bk_ BK245.out) hb); replace HB := Aside0.mk (below_step bel_ hb); clear hb) | ((with_reducible refine gate_builtin (b := .append) (xs := #[.tmp 25, .tmp 27]) rfl ?_); at_builtin; refine Kd.R_append (Kd.int .i64) (w0 := w) w.heap.size rfl (.tmp 25) (.tmp 27) 30 3 (.int .i64 0) 8 rfl Tryz.underlying30 info3 rfl (by decide) (by omega) u6 x6_1 (rd t246 x14_1) [.int .i64 (rd t246 x14_1)] (fun k_ => (w.heap.size ≤ k_) ∧ some k_ ≠ (u7 : Value).ownBlock ∧ some k_ ≠ (.slice (some ad249) t246.length co9 : Value).ownBlock) (fun _ => False) rfl rfl ?aP (fun _ hk => hk.elim) ?aF ?aO ?aB ?aS ?aL ?_; (case aP => exact rfl); (case aB => exact bel_); (case aF => exact (fun k_ hk => ⟨(Nat.le_trans (below_size bel_) hk), Kd.fresh' (Kd.R_lt (vR_ HO_7.out)) k_ hk, Kd.fresh' (Kd.R_lt (vR_ HO_12.out)) k_ hk⟩)); (case aO => exact (vR_ HO_6.out)); (case aS => exact (below_size bel_)); (case aL => have := LMc16.out; omega); intro v252 w21 ho hb hg hat; rw [← Ny251.out] at ho; replace HO_7 := Aside0.mk (Kd.R_after (ok := (fun k_ => (w.heap.size ≤ k_) ∧ some k_ ≠ (.slice (some ad249) t246.length co9 : Value).ownBlock)) (by refine vR_ ?_; exact Kd.R_mono HO_7.out (fun _ hk => ⟨⟨hk.1, hk.2.2⟩, hk.2.1⟩)) hg hat); replace HO_12 := Aside0.mk (Kd.R_after (ok := (fun k_ => (w.heap.size ≤ k_) ∧ some k_ ≠ (u7 : Value).ownBlock)) (by refine vR_ ?_; exact Kd.R_mono HO_12.out (fun _ hk => ⟨⟨hk.1, hk.2.2⟩, hk.2.1⟩)) hg hat); replace BK244 := Aside0.mk (blk_grown (bk_ BK244.out) hg (Kd.R_ne HO_6.out BK244.out (by decide))); replace BK245 := Aside0.mk (blk_grown (bk_ BK245.out) hg (Kd.R_ne HO_6.out BK245.out (by decide))); replace HB := Aside0.mk (hb); have HO253 := Aside0.mk (ho); clear HO_6; clear ho hb hg hat) | ((with_reducible refine gate_builtin (b := .append) (xs := #[.tmp 29, .tmp 31]) rfl ?_); at_builtin; refine Kd.R_append (Kd.int .i64) (w0 := w) w.heap.size rfl (.tmp 29) (.tmp 31) 30 3 (.int .i64 0) 8 rfl Tryz.underlying30 info3 rfl (by decide) (by omega) u7 x7_1 ji13 [.int .i64 ji13] (fun k_ => (w.heap.size ≤ k_) ∧ some k_ ≠ (.slice (some ad249) t246.length co9 : Value).ownBlock ∧ some k_ ≠ (v252 : Value).ownBlock) (fun _ => False) rfl rfl ?aP (fun _ hk => hk.elim) ?aF ?aO ?aB ?aS ?aL ?_; (case aP => exact rfl); (case aB => exact bel_); (case aF => exact (fun k_ hk => ⟨(Nat.le_trans (below_size bel_) hk), Kd.fresh' (Kd.R_lt (vR_ HO_12.out)) k_ hk, Kd.fresh' (Kd.R_lt (vR_ HO253.out)) k_ hk⟩)); (case aO => exact (by refine vR_ ?_; exact Kd.R_mono HO_7.out (fun _ hk => ⟨hk.1.1, ⟨hk.1.2, hk.2⟩⟩))); (case aS => exact (below_size bel_)); (case aL => have := LMc17.out; omega); intro v255 w22 ho hb hg hat; rw [← Ny254.out] at ho; replace HO_12 := Aside0.mk (Kd.R_after (ok := (fun k_ => (w.heap.size ≤ k_) ∧ some k_ ≠ (v252 : Value).ownBlock)) (by refine vR_ ?_; exact Kd.R_mono HO_12.out (fun _ hk => ⟨⟨hk.1.1, hk.2⟩, hk.1.2⟩)) hg hat); replace BK244 := Aside0.mk (blk_grown (bk_ BK244.out) hg (Kd.R_ne HO_7.out BK244.out (by decide))); replace BK245 := Aside0.mk (blk_grown (bk_ BK245.out) hg (Kd.R_ne HO_7.out BK245.out (by decide))); replace HO253 := Aside0.mk (Kd.R_after (ok := (fun k_ => (w.heap.size ≤ k_) ∧ some k_ ≠ (.slice (some ad249) t246.length co9 : Value).ownBlock)) (by refine vR_ ?_; exact Kd.R_mono HO253.out (fun _ hk => ⟨⟨hk.1, hk.2.2⟩, hk.2.1⟩)) hg hat); replace HB := Aside0.mk (hb); have HO256 := Aside0.mk (ho); clear HO_7; clear ho hb hg hat))
         go_roundg k1
         case measure => have := HK1.out; omega
         case rel => exact ⟨(y251), (y254), (wrap64 (x14_1 + 1)), eq_, H', ⟨by have := HK1.out; omega⟩, ⟨by refine vR_ ?_; exact Kd.R_mono HO253.out (fun _ hk => ⟨hk.1.1, ⟨hk.2, hk.1.2⟩⟩)⟩, ⟨by refine vR_ ?_; exact Kd.R_mono HO256.out (fun _ hk => ⟨hk.1, ⟨hk.2.2, hk.2.1⟩⟩)⟩, ⟨by refine vR_ ?_; exact Kd.R_mono HO_12.out (fun _ hk => ⟨hk.1.1, ⟨hk.1.2, hk.2⟩⟩)⟩, ⟨by refine bk_ ?_; exact BK244.out⟩, ⟨by refine bk_ ?_; exact BK245.out⟩, ⟨bel_⟩⟩
        ·
         rw [if_neg c17] at H
         exact absurd H (by simp)
       ·
        rw [if_neg c16] at H
        exact absurd H (by simp)
      ·
       replace c15 := Bool.eq_false_iff.mpr c15
       subst c15
       have H1 : (ext_absolute.l0 k1 x6_1 x7_1 t246 (t246.length : Int) (wrap64 (x14_1 + 1)) a1_0 l1_1 a1_2 a1_3 a1_4) = some (r1, r2) := by rw [if_neg (show ¬ (false = true) by decide)] at H; exact H
       clear H
       have H := H1
       clear H1
       have H' := Aside0.mk H
       clear H
       have p249 : 0 ≤ (x14_1 : Int) := dq_
       have q249 : x14_1 < (t246.length : Int) := dq_
       obtain ⟨ad249, e249, hx249_0⟩ := Kd.at_int (Kd.R_reads' HO_12.out).2.2 x14_1 p249 q249
       cases e249
       replace p249 := eq_true p249
       replace q249 := eq_true q249
       have hnb23 := NB245_244.out
       have hnc23 := NB244_245.out
       obtain ⟨_, _, _, _, _, _, _, _, _, _⟩ := cel5_ BK245.out
       go_wp2_with (first | ((with_reducible refine gate_callee (f := 25) rfl ?_); refine goesL_ (some 24) rfl rfl Tryz.func25 (by kernel_rfl) rfl #[.agg #[.int .i64 a1_0, .slice A1_1 l1_1.length c1_1, .int .i64 a1_2, .int .i64 a1_3, .int .i64 a1_4], .int .i64 ji13] rfl (by (try simp only [List.map_toArray, List.map_cons, List.map_nil]); first | done | (simp only [hji13]; rfl) | rfl | (simp only [List.length_drop, List.length_take]; rfl)) ?_; (with_reducible refine (dom_Dom_Has.calls a1_0 _ _ l1_1 a1_2 a1_3 a1_4 ji13 false _ ?_ ?_ A14.out).mono ?_); exact ca_ ((Kd.C_below HR1_1.out HB.out)); exact HC1_1.out; rintro e w25 ⟨rfl, hb⟩; refine ⟨_, rfl, ?_⟩; replace HO_6 := Aside0.mk (Kd.R_below (vR_ HO_6.out) hb); replace HO_7 := Aside0.mk (Kd.R_below (vR_ HO_7.out) hb); replace HO_12 := Aside0.mk (Kd.R_below (vR_ HO_12.out) hb); replace BK244 := Aside0.mk (blk_below (bk_ BK244.out) hb); replace BK245 := Aside0.mk (blk_below (bk_ BK245.out) hb); replace HB := Aside0.mk (below_step bel_ hb); clear hb))
       go_roundg k1
       case measure => have := HK1.out; omega
       case rel => exact ⟨(x6_1), (x7_1), (wrap64 (x14_1 + 1)), eq_, H', ⟨by have := HK1.out; omega⟩, ⟨by refine vR_ ?_; exact HO_6.out⟩, ⟨by refine vR_ ?_; exact HO_7.out⟩, ⟨by refine vR_ ?_; exact HO_12.out⟩, ⟨by refine bk_ ?_; exact BK244.out⟩, ⟨by refine bk_ ?_; exact BK245.out⟩, ⟨bel_⟩⟩
     ·
      rw [if_neg c12] at H
      exact absurd H (by simp)
    ·
     rw [if_neg c11] at H
     exact absurd H (by simp)
   ·
    rw [if_neg c10] at H
    have c10b0 : decide (x14_1 < (t246.length : Int)) = false := decide_eq_false c10
    clear c10
    obtain ⟨y257, hy257⟩ : ∃ y_ : List (List Int), y_ = (([x6_1, x7_1] : List (List Int))) := ⟨_, rfl⟩
    replace H : ((prop_Made.f k1 y257).bind fun bt260 => (some (bt260.1, bt260.2))) = some (r1, r2) := by first | (rw [hy257]; with_reducible exact H) | (have H2_ := (Option.bind_some _ _).symm.trans H; rw [hy257]; with_reducible exact H2_) | (have H2_ := (Option.bind_some _ _).symm.trans H; with_reducible exact H2_) | with_reducible exact H | (rw [hy257]; exact H) | exact H
    have Ny257 := Aside0.mk hy257
    clear hy257
    replace H := Option.bind_eq_some_iff.mp H
    obtain ⟨⟨t260, t263⟩, A260, H⟩ := H
    replace H : (some (t260, t263)) = some (r1, r2) := H
    have A26 := Aside0.mk A260
    clear A260
    simp only [Option.some.injEq, Prod.mk.injEq] at H
    obtain ⟨rfl, rfl⟩ := H
    obtain ⟨Ao27, co27, eo27⟩ := Kd.R_slice HO_6.out
    subst eo27
    obtain ⟨Ao28, co28, eo28⟩ := Kd.R_slice HO_7.out
    subst eo28
    go_wp2_with (first | ((with_reducible refine gate_dst (N := 36) rfl ?_); refine Kd.N_lit (Kd.slice 3 (Kd.int .i64)) _ 30 ?hg (N' := 36) ?hd (xs := ([x6_1, x7_1] : List (List Int))) (inner := [.slice Ao27 x6_1.length co27, .slice Ao28 x7_1.length co28]) (ok := (fun k_ => (w.heap.size ≤ k_) ∧ some k_ ≠ (.slice Ao9 t246.length co9 : Value).ownBlock ∧ k_ ≠ gb244 ∧ k_ ≠ gb245)) (okp := (fun k_ => (w.heap.size ≤ k_) ∧ some k_ ≠ (.slice Ao9 t246.length co9 : Value).ownBlock ∧ k_ ≠ gb244 ∧ k_ ≠ gb245)) ?hr ?hp (fun _ hk => hk) ((show ∀ k_, wr.heap.size ≤ k_ → (fun k_ => (w.heap.size ≤ k_) ∧ some k_ ≠ (.slice Ao9 t246.length co9 : Value).ownBlock ∧ k_ ≠ gb244 ∧ k_ ≠ gb245) k_ from fun k_ hk => ⟨(Nat.le_trans (below_size bel_) hk), Kd.fresh' (Kd.R_lt (vR_ HO_12.out)) k_ hk, Kd.freshB (bk_ BK244.out) k_ hk, Kd.freshB (bk_ BK245.out) k_ hk⟩) _ (Nat.le_refl _)) (Below.refl _ _) (Nat.le_refl _) (by simp) ?_; (case hd => rfl); (case hg => rfl); (case hr => first | (go_simp; done) | (go_simp; rfl)); (case hp => exact (Reps.one (show Kd.FK (Kd.slice 3 (Kd.int .i64)) _ _ x6_1 [.slice Ao27 x6_1.length co27] from (Kd.FK_slice_mk (Kd.R_reads' (Kd.R_mono (ok' := (fun k_ => (w.heap.size ≤ k_) ∧ some k_ ≠ (.slice Ao9 t246.length co9 : Value).ownBlock ∧ k_ ≠ gb244 ∧ k_ ≠ gb245)) (Kd.R_types (Kd.R_types (HO_6.out) BK244.out (by decide)) BK245.out (by decide)) (fun k_ hk => ⟨hk.1.1.1, ⟨hk.1.1.2.2, ⟨hk.1.2, hk.2⟩⟩⟩))).2.1 (Kd.R_F (Kd.R_mono (ok' := (fun k_ => (w.heap.size ≤ k_) ∧ some k_ ≠ (.slice Ao9 t246.length co9 : Value).ownBlock ∧ k_ ≠ gb244 ∧ k_ ≠ gb245)) (Kd.R_types (Kd.R_types (HO_6.out) BK244.out (by decide)) BK245.out (by decide)) (fun k_ hk => ⟨hk.1.1.1, ⟨hk.1.1.2.2, ⟨hk.1.2, hk.2⟩⟩⟩))))) (Reps.one (show Kd.FK (Kd.slice 3 (Kd.int .i64)) _ _ x7_1 [.slice Ao28 x7_1.length co28] from (Kd.FK_slice_mk (Kd.R_reads' (Kd.R_mono (ok' := (fun k_ => (w.heap.size ≤ k_) ∧ some k_ ≠ (.slice Ao9 t246.length co9 : Value).ownBlock ∧ k_ ≠ gb244 ∧ k_ ≠ gb245)) (Kd.R_types (Kd.R_types (HO_7.out) BK244.out (by decide)) BK245.out (by decide)) (fun k_ hk => ⟨hk.1.1.1, ⟨hk.1.1.2.2, ⟨hk.1.2, hk.2⟩⟩⟩))).2.1 (Kd.R_F (Kd.R_mono (ok' := (fun k_ => (w.heap.size ≤ k_) ∧ some k_ ≠ (.slice Ao9 t246.length co9 : Value).ownBlock ∧ k_ ≠ gb244 ∧ k_ ≠ gb245)) (Kd.R_types (Kd.R_types (HO_7.out) BK244.out (by decide)) BK245.out (by decide)) (fun k_ hk => ⟨hk.1.1.1, ⟨hk.1.1.2.2, ⟨hk.1.2, hk.2⟩⟩⟩))))) (Reps.none _ _)))); intro v258 w29 ho30 hb hg_ hnew_; clear hg_ hnew_; (first | rw [← Ny257.out] at ho30 | (simp only [Int.reduceToNat] at ho30; rw [← Ny257.out] at ho30)); replace HO_12 := Aside0.mk (Kd.R_below (vR_ HO_12.out) hb); have HO259 := Aside0.mk (Kd.N_lower ho30 (below_size bel_)); replace BK244 := Aside0.mk (blk_below (bk_ BK244.out) hb); replace BK245 := Aside0.mk (blk_below (bk_ BK245.out) hb); replace HB := Aside0.mk (below_step bel_ hb); clear HO_6 HO_7; clear hb ho30; obtain ⟨Ao31, co31, eo31⟩ := Kd.N_slice HO259.out; subst eo31) | ((with_reducible refine gate_callee (f := 65) rfl ?_); refine goesL_ (some 37) rfl rfl Tryz.func65 (by kernel_rfl) rfl #[.slice Ao31 y257.length co31] rfl ar_ ?_; (with_reducible refine (prop_Made.calls k1 _ _ y257 t260 t263 _ ?_ ?_ ?_ A26.out).mono ?_); exact ca_ ((Kd.N_reads' HO259.out).2.2); exact (Kd.N_reads' HO259.out).2.1; exact ca_ ((Kd.C_below HRtab.out HB.out)); rintro e w32 ⟨v261, rfl, ho0, hb⟩; refine ⟨_, rfl, ?_⟩; have HO262 := Aside0.mk (Kd.N_lower (Kd.N_mono (ok' := fun k_ => (w.heap.size ≤ k_) ∧ some k_ ≠ (.slice Ao9 t246.length co9 : Value).ownBlock ∧ some k_ ≠ (.slice Ao31 y257.length co31 : Value).ownBlock ∧ k_ ≠ gb244 ∧ k_ ≠ gb245) ho0 (fun k_ hk_ => ⟨(Nat.le_trans (below_size bel_) hk_), (Kd.fresh' (Kd.R_lt (vR_ HO_12.out)) k_ hk_), (Kd.fresh' (Kd.N_lt (vN_ HO259.out)) k_ hk_), (Kd.freshB (bk_ BK244.out) k_ hk_), (Kd.freshB (bk_ BK245.out) k_ hk_)⟩)) (below_size bel_)); replace HB := Aside0.mk (below_step bel_ hb); clear hb ho0))
    go_ret2
    exact ⟨_, by first | rfl | (simp [errW_none, errW_some] <;> rfl) | (simp [*, errW_none, errW_some] <;> rfl), by refine vN_ ?_; exact Kd.N_mono HO262.out (fun _ hk => hk.1), bel_⟩

/-! ### slices_CloneU64: function 118 -/
def slices_CloneU64.f (l0 : List Int) : Option (List Int) := if l0.length < 17592186044416 then some l0 else none
theorem infoU64 : (Tryz.prog.info? 86).map (fun i => (i.zero, i.size, i.bytes)) = some (some (.int .u64 0), 1, 8) := by kernel_rfl
theorem slices_CloneU64.calls (A0 : Option Addr) (c0 : Nat) (l0 : List Int) (r : List Int) (w : World) (hr0 : Kd.C (Kd.int .u64) w A0 l0.length l0) (hc0 : l0.length ≤ c0) (h : slices_CloneU64.f l0 = some r) :
  Calls Tryz.prog 118 #[.slice A0 l0.length c0] w fun e w' => ∃ v_ : Value, e = .returned v_ ∧ Kd.R (Kd.int .u64) 86 w' w.heap.size (fun _ => True) v_ r ∧ Below w.heap.size w w' := by
 unfold slices_CloneU64.f at h
 by_cases hb : l0.length < 17592186044416
 ·
  rw [if_pos hb] at h
  obtain rfl := Option.some.inj h
  clear h
  rcases A0 with _ | ad
  ·
   have h0 : l0 = [] := by
    rcases Nat.eq_zero_or_pos l0.length with h0 | h0
    ·
     exact List.eq_nil_of_length_eq_zero h0
    ·
     obtain ⟨ad, e, _⟩ := hr0.2.2 h0; cases e
   subst h0
   have qT : ∀ (w : World) (a : Option Addr) (n c n' c' : Nat), (binOp .eql 59 (.slice a n c) (.slice none n' c')).run Tryz.prog w = .ok (.bool a.isNone) w := fun w a n c n' c' => Lib.run_eql_slice_nil w _ _ a n c n' c' Tryz.underlying59
   clear hr0 hb
   go_enter Tryz.func118, Tryz.ntmps118
   go_wp2
   go_ret
   exact ⟨_, rfl, Kd.R_nil _ _ _ _ _, Below.refl _ _⟩
  ·
   have hnil : ∀ (W : World), (binOp .eql 59 (.slice (some ad) l0.length c0) (.slice none 0 0)).run Tryz.prog W = .ok (.bool false) W := fun W => Lib.run_eql_slice_nil W 59 86 (some ad) l0.length c0 0 0 Tryz.underlying59
   have HR := Aside0.mk hr0
   have HL := Aside0.mk hb
   clear hr0 hb
   go_enter Tryz.func118, Tryz.ntmps118
   go_wp2_with (first | ((with_reducible refine gate_dst (N := 5) rfl ?_); refine Kd.R_lit (Kd.int .u64) _ 86 ?hg (N := 5) ?hd (xs := ([] : List Int)) (inner := []) (ok := fun _ => True) (okp := fun _ => True) ?hr ?hp (fun _ hk => hk) trivial (Below.refl _ _) (Nat.le_refl _) (by simp) ?_; (case hd => rfl); (case hg => rfl); (case hr => first | (go_simp; done) | (go_simp; rfl)); (case hp => exact Reps.none _ _); intro v1 w1 hR hB hG hat; have HO := Aside0.mk hR; have HB := Aside0.mk hB; clear hR hB hG hat) | ((with_reducible refine gate_builtin (b := .append) (xs := #[.tmp 5, .tmp 6]) rfl ?_); at_builtin; refine Kd.R_append_row (Value.int .u64) (0 : Int) (h1 := fun _ => rfl) (w0 := w) w.heap.size rfl (.tmp 5) (.tmp 6) 59 86 (.int .u64 0) 8 rfl Tryz.underlying59 infoU64 rfl (by decide) v1 [] l0 (some ad) l0.length c0 (fun _ => True) rfl rfl (fun _ _ => trivial) HO.out (Kd.C_below HR.out HB.out) HB.out HB.out.size (by have := HL.out; simp only [List.length_nil]; omega) ?_; intro v2 w2 hR hB hG hat; have HO2 := Aside0.mk hR; have HB2 := Aside0.mk hB; clear hR hB hG hat))
   go_ret
   exact ⟨_, rfl, HO2.out, HB2.out⟩
 ·
  rw [if_neg hb] at h; cases h

-- NOT PRINTED: function 32 (prop_Pairs)

/-! ### ext_Filter_1: function 33 -/
def ext_Filter_1.f (a0 : Int) (a1 : Int) : Option (Int × Bool) := some (mn a0 a1, true)
set_option maxHeartbeats 8000000 in
set_option maxRecDepth 100000 in
theorem ext_Filter_1.calls (a0 : Int) (a1 : Int) (r1 : Int) (r2 : Bool) (w : World) (h : ext_Filter_1.f a0 a1 = some (r1, r2)) :
  Calls Tryz.prog 33 #[.int .i64 a0, .int .i64 a1] w fun e w' => e = .returned (.tuple #[.int .i64 r1, .bool r2]) ∧ Below w.heap.size w w' := by
 have HB := Aside0.mk (Below.refl w.heap.size w)
 have H : (some (mn a0 a1, true)) = some (r1, r2) := h
 clear h
 obtain ⟨ji3, hji3⟩ : ∃ j_ : Int, (mn a0 a1) = j_ := ⟨_, rfl⟩
 replace H : (some (ji3, true)) = some (r1, r2) := by first | (rw [hji3] at H; exact H) | (simp only [hji3] at H ⊢; exact H)
 have hji3_ : (if a1 < a0 then a1 else a0) = ji3 := hji3
 simp only [Option.some.injEq, Prod.mk.injEq] at H
 obtain ⟨rfl, rfl⟩ := H
 go_enter Tryz.func33, Tryz.ntmps33
 go_wp2
 go_ret2
 exact ⟨by first | rfl | (simp [errW_none, errW_some] <;> rfl) | (simp only [← hji3]; first | rfl | (simp [errW_none, errW_some] <;> rfl)) | (simp [*, errW_none, errW_some] <;> rfl), bel_⟩

/-! ### ext_Filter_2: function 34 -/
def ext_Filter_2.f (a0 : Int) (a1 : Int) : Option (Int × Bool) := some (mx a0 a1, true)
set_option maxHeartbeats 8000000 in
set_option maxRecDepth 100000 in
theorem ext_Filter_2.calls (a0 : Int) (a1 : Int) (r1 : Int) (r2 : Bool) (w : World) (h : ext_Filter_2.f a0 a1 = some (r1, r2)) :
  Calls Tryz.prog 34 #[.int .i64 a0, .int .i64 a1] w fun e w' => e = .returned (.tuple #[.int .i64 r1, .bool r2]) ∧ Below w.heap.size w w' := by
 have HB := Aside0.mk (Below.refl w.heap.size w)
 have H : (some (mx a0 a1, true)) = some (r1, r2) := h
 clear h
 obtain ⟨ji3, hji3⟩ : ∃ j_ : Int, (mx a0 a1) = j_ := ⟨_, rfl⟩
 replace H : (some (ji3, true)) = some (r1, r2) := by first | (rw [hji3] at H; exact H) | (simp only [hji3] at H ⊢; exact H)
 have hji3_ : (if a0 < a1 then a1 else a0) = ji3 := hji3
 simp only [Option.some.injEq, Prod.mk.injEq] at H
 obtain ⟨rfl, rfl⟩ := H
 go_enter Tryz.func34, Tryz.ntmps34
 go_wp2
 go_ret2
 exact ⟨by first | rfl | (simp [errW_none, errW_some] <;> rfl) | (simp only [← hji3]; first | rfl | (simp [errW_none, errW_some] <;> rfl)) | (simp [*, errW_none, errW_some] <;> rfl), bel_⟩

end Go.Proofs.YtiofjnhmogeenaaGreatDoor.XExtFixed
