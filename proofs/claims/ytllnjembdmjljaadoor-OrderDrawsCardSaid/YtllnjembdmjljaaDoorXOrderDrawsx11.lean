-- by xprint.py, a program of this session, over the kit's print
import Derived.Test.YtllnjembdmjljaaDoorXOrderDrawsx0
import Derived.Test.YtllnjembdmjljaaDoorXOrderDrawsx1
import Derived.Test.YtllnjembdmjljaaDoorXOrderDrawsx3
import Derived.Test.YtllnjembdmjljaaDoorXOrderDrawsx10
namespace Go.Proofs.YtllnjembdmjljaaDoor.XOrderDraws
open Go.RowKit Go.Proofs.YtllnjembdmjljaaDoorW.PrintWords Go.Proofs.YtllnjembdmjljaaDoorW.PrintLast Go.Proofs.YtllnjembdmjljaaDoorW.PrintMore
attribute [local go_sem] max2_int min2_int max_two min_two max_three min_three max_four min_four   -- for this text's walks alone
set_option linter.unusedVariables false
set_option linter.unusedSimpArgs false

/-! ### jigsawlaw25_OrderDraws: function 3 -/
mutual
def jigsawlaw25_OrderDraws.l0 : Nat → List Int → Int → List Int → Int → Int → Option (Bool)
  | 0, _, _, _, _, _ => none
  | k + 1, x0, x7, x17, x18, x19 => if x19 < x18 then (if 0 ≤ x19 then (if x19 < (x17.length : Int) then (if (rd x17 x19) ≥ 1 then (jigsawlaw25_OrderDraws.j1 k x0 x7 (rd x17 x19) x17 x18 x19 (decide (x7 < (x0.length : Int)))) else (jigsawlaw25_OrderDraws.j1 k x0 x7 (rd x17 x19) x17 x18 x19 false)) else (none)) else (none)) else ((jigsawlaw25_wakes.f k).bind fun t326 => (some t326))
def jigsawlaw25_OrderDraws.j1 : Nat → List Int → Int → Int → List Int → Int → Int → Bool → Option (Bool)
  | 0, _, _, _, _, _, _, _ => none
  | k + 1, x0, x7, x9, x17, x18, x19, x30 => if x30 = true then (if 0 ≤ x7 then (if x7 < (x0.length : Int) then (if x9 = 0 then (none) else (jigsawlaw25_OrderDraws.l0 k x0 (wrap64 (x7 + 1)) x17 x18 (wrap64 (x19 + 1)))) else (none)) else (none)) else (jigsawlaw25_OrderDraws.l0 k x0 x7 x17 x18 (wrap64 (x19 + 1)))
end
def jigsawlaw25_OrderDraws.f (k : Nat) (l0 : List Int) (l1 : List Int) : Option (Bool) := (order_Drawn.f l0).bind fun t322 => (if 0 ≤ (mn (l1.length : Int) 40) then (if (mn (l1.length : Int) 40) ≤ (l1.length : Int) then (jigsawlaw25_OrderDraws.l0 k l0 0 (l1.take ((mn (l1.length : Int) 40) : Int).toNat) ((l1.take ((mn (l1.length : Int) 40) : Int).toNat).length : Int) 0) else (none)) else (none))
theorem jigsawlaw25_OrderDraws.mono_l : ∀ k, (∀ y0 y1 y2 y3 y4, LeO (jigsawlaw25_OrderDraws.l0 k y0 y1 y2 y3 y4) (jigsawlaw25_OrderDraws.l0 (k + 1) y0 y1 y2 y3 y4)) ∧ (∀ y0 y1 y2 y3 y4 y5 y6, LeO (jigsawlaw25_OrderDraws.j1 k y0 y1 y2 y3 y4 y5 y6) (jigsawlaw25_OrderDraws.j1 (k + 1) y0 y1 y2 y3 y4 y5 y6))
  | 0 => ⟨fun _ _ _ _ _ r h => by simp [jigsawlaw25_OrderDraws.l0] at h, fun _ _ _ _ _ _ _ r h => by simp [jigsawlaw25_OrderDraws.j1] at h⟩
  | k + 1 => by
    obtain ⟨ih0, ih1⟩ := jigsawlaw25_OrderDraws.mono_l k
    refine ⟨?_, ?_⟩
    · intro y0 y1 y2 y3 y4
      unfold jigsawlaw25_OrderDraws.l0
      repeat' first
      | (with_reducible exact ih0 _ _ _ _ _)
      | (with_reducible exact ih1 _ _ _ _ _ _ _)
      | (with_reducible exact jigsawlaw25_wakes.mono _)
      | (with_reducible exact LeO.refl _)
      | (with_reducible exact LeO.none _)
      | (with_reducible refine LeO.ite ?_ ?_)
      | (with_reducible refine LeO.bind ?_ (fun _ => ?_))
      | exact ih0 _ _ _ _ _
      | exact ih1 _ _ _ _ _ _ _
      | exact jigsawlaw25_wakes.mono _
      | exact LeO.none _
      | refine LeO.ite ?_ ?_
      | refine LeO.bind ?_ (fun _ => ?_)
    · intro y0 y1 y2 y3 y4 y5 y6
      unfold jigsawlaw25_OrderDraws.j1
      repeat' first
      | (with_reducible exact ih0 _ _ _ _ _)
      | (with_reducible exact ih1 _ _ _ _ _ _ _)
      | (with_reducible exact jigsawlaw25_wakes.mono _)
      | (with_reducible exact LeO.refl _)
      | (with_reducible exact LeO.none _)
      | (with_reducible refine LeO.ite ?_ ?_)
      | (with_reducible refine LeO.bind ?_ (fun _ => ?_))
      | exact ih0 _ _ _ _ _
      | exact ih1 _ _ _ _ _ _ _
      | exact jigsawlaw25_wakes.mono _
      | exact LeO.none _
      | refine LeO.ite ?_ ?_
      | refine LeO.bind ?_ (fun _ => ?_)
theorem jigsawlaw25_OrderDraws.mono : ∀ a0 a1 k, LeO (jigsawlaw25_OrderDraws.f k a0 a1) (jigsawlaw25_OrderDraws.f (k + 1) a0 a1) := by
  intro a0 a1 k
  obtain ⟨ih0, ih1⟩ := jigsawlaw25_OrderDraws.mono_l k
  unfold jigsawlaw25_OrderDraws.f
  repeat' first
      | (with_reducible exact ih0 _ _ _ _ _)
      | (with_reducible exact ih1 _ _ _ _ _ _ _)
      | (with_reducible exact jigsawlaw25_wakes.mono _)
      | (with_reducible exact LeO.refl _)
      | (with_reducible exact LeO.none _)
      | (with_reducible refine LeO.ite ?_ ?_)
      | (with_reducible refine LeO.bind ?_ (fun _ => ?_))
      | exact ih0 _ _ _ _ _
      | exact ih1 _ _ _ _ _ _ _
      | exact jigsawlaw25_wakes.mono _
      | exact LeO.none _
      | refine LeO.ite ?_ ?_
      | refine LeO.bind ?_ (fun _ => ?_)
theorem drawn_eq {l r : List Int} (h : order_Drawn.f l = some r) : r = l := by
  unfold order_Drawn.f slices_Clone_uint32_uint32.f at h
  simp at h
  exact h.2.symm
theorem next_some {l : List Int} {a b : Int} (h0 : 0 ≤ a) (h1 : a < (l.length : Int)) (h2 : 1 ≤ b) : order_Draws_Next.f (l.drop a.toNat) b = some (Int.tmod (wrap64 (rd l a)) b) := by
  have e : rd (l.drop a.toNat) 0 = rd l a := by
    unfold rd
    rw [Int.toNat_zero, List.getD_eq_getElem?_getD, List.getD_eq_getElem?_getD, List.getElem?_drop, Nat.add_zero]
  have hl : ((l.drop a.toNat).length : Int) = (l.length : Int) - a := by rw [List.length_drop]; omega
  unfold order_Draws_Next.f
  rw [if_neg (by omega), if_neg (by omega), if_pos (by omega), if_neg (by omega), e]
theorem next_none {l : List Int} {a b : Int} (h : (decide (1 ≤ b) && decide (a < (l.length : Int))) = false) : order_Draws_Next.f (l.drop a.toNat) b = some 0 := by
  unfold order_Draws_Next.f
  by_cases hb : b < 1
  · rw [if_pos hb]
  · rw [if_neg hb]
    have ha : ¬ a < (l.length : Int) := by
      intro ha
      rw [decide_eq_true (by omega : 1 ≤ b), decide_eq_true ha] at h
      exact absurd h (by decide)
    rw [if_pos]
    rw [List.length_drop]
    omega
theorem left_step {w : World} {g : Nat} {l : List Int} {a b : Int} (h0 : 0 ≤ a) (h1 : a < (l.length : Int)) (h2 : 1 ≤ b) (hn : (l.length : Int) ≤ 9223372036854775807) (h : Left w g (if b < 1 then l.drop a.toNat else (l.drop a.toNat).tail)) : Left w g (l.drop (wrap64 (a + 1)).toNat) := by
  rw [if_neg (by omega), List.tail_drop] at h
  have : (wrap64 (a + 1)).toNat = a.toNat + 1 := by unfold wrap64; omega
  rw [this]
  exact h
theorem left_same {w : World} {g : Nat} {l : List Int} {a b : Int} (hx : (decide (1 ≤ b) && decide (a < (l.length : Int))) = false) (h : Left w g (if b < 1 then l.drop a.toNat else (l.drop a.toNat).tail)) : Left w g (l.drop a.toNat) := by
  by_cases hb : b < 1
  · rwa [if_pos hb] at h
  · rw [if_neg hb] at h
    have ha : ¬ a < (l.length : Int) := by
      intro ha
      rw [decide_eq_true (by omega : 1 ≤ b), decide_eq_true ha] at hx
      exact absurd hx (by decide)
    have e : l.drop a.toNat = [] := List.drop_eq_nil_of_le (by omega)
    rw [e] at h ⊢
    exact h
set_option maxHeartbeats 8000000 in
set_option maxRecDepth 100000 in
theorem jigsawlaw25_OrderDraws.calls (k : Nat) (A0 : Option Addr) (c0 : Nat) (l0 : List Int) (A1 : Option Addr) (c1 : Nat) (l1 : List Int) (r : Bool) (w : World) (hr0 : Kd.C (Kd.int .u32) w A0 l0.length l0) (hc0 : l0.length ≤ c0) (hr1 : Kd.C (Kd.int .i64) w A1 l1.length l1) (hc1 : l1.length ≤ c1) (hrtab : Kd.C (Kd.int .u8) w (some ⟨0, 0, none⟩) tabL.length tabL) (h : jigsawlaw25_OrderDraws.f k l0 l1 = some r) :
    Calls Tryd.prog 3 #[.slice A0 l0.length c0, .slice A1 l1.length c1] w fun e w' => e = .returned (.bool r) ∧ Below w.heap.size w w' := by
  have HR0 := Aside0.mk hr0
  have HC0 := Aside0.mk hc0
  clear hr0 hc0
  have HR1 := Aside0.mk hr1
  have HC1 := Aside0.mk hc1
  clear hr1 hc1
  have HRtab := Aside0.mk hrtab
  clear hrtab
  have HB := Aside0.mk (Below.refl w.heap.size w)
  have H : ((order_Drawn.f l0).bind fun t322 => (if 0 ≤ (mn (l1.length : Int) 40) then (if (mn (l1.length : Int) 40) ≤ (l1.length : Int) then (jigsawlaw25_OrderDraws.l0 k l0 0 (l1.take ((mn (l1.length : Int) 40) : Int).toNat) ((l1.take ((mn (l1.length : Int) 40) : Int).toNat).length : Int) 0) else (none)) else (none))) = some r := h
  clear h
  replace H := Option.bind_eq_some_iff.mp H
  obtain ⟨t322, A30, H⟩ := H
  replace H : (if 0 ≤ (mn (l1.length : Int) 40) then (if (mn (l1.length : Int) 40) ≤ (l1.length : Int) then (jigsawlaw25_OrderDraws.l0 k l0 0 (l1.take ((mn (l1.length : Int) 40) : Int).toNat) ((l1.take ((mn (l1.length : Int) 40) : Int).toNat).length : Int) 0) else (none)) else (none)) = some r := H
  have A3 := Aside0.mk A30
  clear A30
  obtain rfl : l0 = t322 := (drawn_eq A3.out).symm
  obtain ⟨ji4, hji4⟩ : ∃ j_ : Int, (mn (l1.length : Int) 40) = j_ := ⟨_, rfl⟩
  replace H : (if 0 ≤ (ji4) then (if (ji4) ≤ (l1.length : Int) then (jigsawlaw25_OrderDraws.l0 k l0 0 (l1.take ((ji4) : Int).toNat) ((l1.take ((ji4) : Int).toNat).length : Int) 0) else (none)) else (none)) = some r := by first | (rw [hji4] at H; exact H) | (simp only [hji4] at H ⊢; exact H)
  (try rw [hji4] at A3)
  (try (have hji4h : ji4 ≤ 40 := by (rw [← hji4]; unfold mn; (repeat' split) <;> omega)))
  (try (have hji4g : ji4 ≤ 64 := by omega))
  (try (have hji4l : 0 ≤ ji4 := by (rw [← hji4]; unfold mn; (repeat' split) <;> omega)))
  (try (have hji4m : 0 ≤ ji4 := by omega))
  have hji4_ : (if 40 < (l1.length : Int) then 40 else (l1.length : Int)) = ji4 := hji4
  by_cases c5 : 0 ≤ (ji4)
  · rw [if_pos c5] at H
    have c5b0 := eq_true c5
    have c5b1 : decide (0 ≤ (ji4)) = true := decide_eq_true c5
    clear c5
    by_cases c6 : (ji4) ≤ (l1.length : Int)
    · rw [if_pos c6] at H
      have c6b0 := eq_true c6
      have c6b1 : decide ((ji4) ≤ (l1.length : Int)) = true := decide_eq_true c6
      clear c6
      have H' := Aside0.mk H
      clear H
      go_enter Tryd.func3, Tryd.ntmps3
      go_wp2_with (first | ((with_reducible refine gate_callee (f := 7) rfl ?_); refine goesL_ (some 12) rfl rfl Tryd.func7 (by kernel_rfl) rfl #[.slice A0 l0.length c0] rfl (by (try simp only [List.map_toArray, List.map_cons, List.map_nil]); first | done | rfl | (simp only [List.length_drop, List.length_take]; rfl)) ?_; (with_reducible refine (order_Drawn.calls _ _ l0 l0 _ ?side1 ?side2 A3.out).mono ?_); (case side1 => repeat (first | exact HR0.out | (with_reducible refine Kd.C_alloc ?_ _) | (with_reducible refine Kd.C_drewN ?_ _) | (with_reducible refine Kd.C_drew ?_))); (case side2 => exact HC0.out); rintro e w7 ⟨gD, v323, rfl, hgD, hbkD, ho0, hb⟩; refine ⟨_, rfl, ?_⟩; have n0_ := Aside0.mk (Left.made hbkD ho0); have HGD := Aside0.mk hgD; clear hbkD hgD; have n1_ := Aside0.mk (below_step (by repeat (first | (with_reducible first | exact HB.out | apply below_alloc | apply pw_below_drewN | apply below_drew1) | exact HB.out)) hb); clear HB; have HLf := n0_; have HB := n1_; clear n0_ n1_; (try clear hb); (try clear hb2); (try clear hk); (try clear hi); (try clear ho0); obtain ⟨i08, hi08, _, hsz8, _⟩ := info_parts info3; obtain ⟨hcut8, hA8, hC8⟩ := print_take_of (P := Tryd.prog) (Value.int .i64) 0 23 3 .i64 Tryd.underlying23 hi08 hsz8 A1 c1 l1 (ji4) (of_decide_eq_true (by first | (with_reducible assumption) | assumption)) (of_decide_eq_true (by first | (with_reducible assumption) | assumption)) HC1.out; have HR325 := Aside0.mk (Kd.C_of_reads (h1 := fun _ => rfl) (hA8 _ (Kd.reads_of_C HR1.out))); have HC325 := Aside0.mk hC8; clear hA8 hC8 hi08 hsz8))
      go_loopg [7, 19] k (fun kq v7 v19 w' => ∃ (x7_1 : Int) (x19_1 : Int), v7 = .int .i64 x7_1 ∧ v19 = .int .i64 x19_1 ∧ Aside0 (jigsawlaw25_OrderDraws.l0 kq l0 x7_1 (l1.take ((ji4) : Int).toNat) ((l1.take ((ji4) : Int).toNat).length : Int) x19_1 = some r) ∧ Aside0 (kq ≤ k) ∧ Aside0 (Below w.heap.size w w') ∧ Aside0 (Left w' gD (l0.drop (x7_1 : Int).toNat)))
      case atStart => exact ⟨(0), (0), (by first | rfl | (simp; done) | (simp [*]; done)), (by first | rfl | (simp; done) | (simp [*]; done)), H', ⟨Nat.le_refl _⟩, ⟨by repeat (first | (with_reducible first | exact HB.out | apply below_alloc | apply pw_below_drewN | apply below_drew1) | exact HB.out)⟩, ⟨HLf.out⟩⟩
      case round =>
        clear H'
        try clear c1
        try clear p2
        try clear c3
        try clear c5
        try clear c5b0
        try clear c5b1
        try clear c6
        try clear c6b0
        try clear c6b1
        try clear c7
        obtain ⟨x7_1, x19_1, rfl, rfl, HA, HK1, HB, HLf⟩ := hrel
        cases gk with
        | zero => exact absurd HA.out (by simp [jigsawlaw25_OrderDraws.l0])
        | succ k1 =>
          have H := HA.out
          clear HA
          simp only [jigsawlaw25_OrderDraws.l0] at H
          by_cases c9 : x19_1 < ((l1.take ((ji4) : Int).toNat).length : Int)
          · rw [if_pos c9] at H
            have c9b0 : decide (x19_1 < ((l1.take ((ji4) : Int).toNat).length : Int)) = true := decide_eq_true c9
            have c9b8 : decide (x19_1 < max ji4 0) = true := by
              have h_ := of_decide_eq_true c9b0
              rw [List.length_take] at h_
              exact decide_eq_true (by omega)
            clear c9
            by_cases c10 : 0 ≤ x19_1
            · rw [if_pos c10] at H
              have c10b0 : decide (0 ≤ x19_1) = true := decide_eq_true c10
              clear c10
              by_cases c11 : x19_1 < ((l1.take ((ji4) : Int).toNat).length : Int)
              · rw [if_pos c11] at H
                have c11b0 : decide (x19_1 < ((l1.take ((ji4) : Int).toNat).length : Int)) = true := decide_eq_true c11
                have c11b8 : decide (x19_1 < max ji4 0) = true := by
                  have h_ := of_decide_eq_true c11b0
                  rw [List.length_take] at h_
                  exact decide_eq_true (by omega)
                clear c11
                have HC12 := Aside0.mk H
                clear H
                have p327 : 0 ≤ (x19_1 : Int) := of_decide_eq_true (by first | (with_reducible assumption) | assumption)
                have q327 : x19_1 < ((l1.take ((ji4) : Int).toNat).length : Int) := of_decide_eq_true (by first | (with_reducible assumption) | assumption)
                obtain ⟨ad327, e327, hx327_0⟩ := Kd.at_int HR325.out x19_1 p327 q327
                cases e327
                replace hx327_0 := (HB.out.cell (World.block_lt_of_cell? w _ hx327_0)).trans hx327_0
                replace p327 := eq_true p327
                replace q327 := eq_true q327
                (try have q327m : (x19_1 < max ji4 0) = True := eq_true (by have h_ := of_eq_true q327; rw [List.length_take] at h_; omega))
                go_upto_region 8 with (fail)
                go_cut [30] (fun v30 wc => ∃ (kq : Nat) (x30_11 : Bool), v30 = .bool x30_11 ∧ Aside0 (jigsawlaw25_OrderDraws.j1 kq l0 x7_1 (rd (l1.take ((ji4) : Int).toNat) x19_1) (l1.take ((ji4) : Int).toNat) ((l1.take ((ji4) : Int).toNat).length : Int) x19_1 x30_11 = some r) ∧ Aside0 (kq ≤ k1) ∧ Aside0 (Below w.heap.size w wc) ∧ Aside0 ((x30_11 : Bool) = (decide (1 ≤ (rd (l1.take ((ji4) : Int).toNat) x19_1)) && decide (x7_1 < (l0.length : Int)))) ∧ Aside0 (Left wc gD (l0.drop (x7_1 : Int).toNat)))
                case first =>
                  have H := HC12.out
                  clear HC12
                  by_cases c13 : (rd (l1.take ((ji4) : Int).toNat) x19_1) ≥ 1
                  · rw [if_pos c13] at H
                    have c13b0 : decide (1 ≤ (rd (l1.take ((ji4) : Int).toNat) x19_1)) = true := decide_eq_true c13
                    clear c13
                    (first | rw [c13b0] | (simp only [i64_w, i32_w]; rw [c13b0]) | skip)
                    have H' := Aside0.mk H
                    clear H
                    go_wp2
                    go_meet
                    case rel => exact ⟨_, (decide (x7_1 < (l0.length : Int))), (by first | rfl | (simp; done) | (simp [*]; done)), H', ⟨by have := HK1.out; first | omega | exact Nat.le_refl _⟩, ⟨by repeat (first | (with_reducible first | exact HB.out | apply below_alloc | apply pw_below_drewN | apply below_drew1) | exact HB.out)⟩, ⟨by rw [c13b0, Bool.true_and]⟩, ⟨HLf.out⟩⟩
                  · rw [if_neg c13] at H
                    have c13b0 : decide (1 ≤ (rd (l1.take ((ji4) : Int).toNat) x19_1)) = false := decide_eq_false c13
                    clear c13
                    (first | rw [c13b0] | (simp only [i64_w, i32_w]; rw [c13b0]) | skip)
                    have H' := Aside0.mk H
                    clear H
                    go_wp2
                    go_meet
                    case rel => exact ⟨_, (false), (by first | rfl | (simp; done) | (simp [*]; done)), H', ⟨by have := HK1.out; first | omega | exact Nat.le_refl _⟩, ⟨by repeat (first | (with_reducible first | exact HB.out | apply below_alloc | apply pw_below_drewN | apply below_drew1) | exact HB.out)⟩, ⟨by rw [c13b0, Bool.false_and]⟩, ⟨HLf.out⟩⟩
                case rest =>
                  clear HC12
                  try clear c1
                  try clear p2
                  try clear c3
                  try clear p3
                  try clear q3
                  try clear hx3
                  try clear c5
                  try clear c5b0
                  try clear c5b1
                  try clear c6
                  try clear c6b0
                  try clear c6b1
                  try clear c7
                  try clear c9
                  try clear c9b0
                  try clear c10
                  try clear c10b0
                  try clear c11
                  try clear c11b0
                  try clear c13
                  try clear c13b0
                  try clear hx327_0
                  try clear p2
                  try clear p327
                  try clear q327
                  obtain ⟨kq, x30_11, rfl, HA, HJ11, HB, HX, HLf⟩ := hcut
                  cases kq with
                  | zero => exact absurd HA.out (by simp [jigsawlaw25_OrderDraws.j1])
                  | succ kj11 =>
                    have H := HA.out
                    clear HA
                    simp only [jigsawlaw25_OrderDraws.j1] at H
                    by_cases c14 : x30_11 = true
                    · subst c14
                      have H1 : (if 0 ≤ x7_1 then (if x7_1 < (l0.length : Int) then (if (rd (l1.take ((ji4) : Int).toNat) x19_1) = 0 then (none) else (jigsawlaw25_OrderDraws.l0 kj11 l0 (wrap64 (x7_1 + 1)) (l1.take ((ji4) : Int).toNat) ((l1.take ((ji4) : Int).toNat).length : Int) (wrap64 (x19_1 + 1)))) else (none)) else (none)) = some r := by rw [if_pos rfl] at H; exact H
                      clear H
                      have H := H1
                      clear H1
                      by_cases c15 : 0 ≤ x7_1
                      · rw [if_pos c15] at H
                        have c15b0 : decide (0 ≤ x7_1) = true := decide_eq_true c15
                        clear c15
                        by_cases c16 : x7_1 < (l0.length : Int)
                        · rw [if_pos c16] at H
                          have c16b0 : decide (x7_1 < (l0.length : Int)) = true := decide_eq_true c16
                          clear c16
                          by_cases c17 : (rd (l1.take ((ji4) : Int).toNat) x19_1) = 0
                          · rw [if_pos c17] at H
                            exact absurd H (by simp)
                          · rw [if_neg c17] at H
                            have c17b0 : ((rd (l1.take ((ji4) : Int).toNat) x19_1) == 0) = false := beq_eq_false_iff_ne.mpr c17
                            have c17b1 : ((rd (l1.take ((ji4) : Int).toNat) x19_1) != 0) = true := bne_iff_ne.mpr c17
                            have H' := Aside0.mk H
                            clear H
                            have p328 : 0 ≤ (x7_1 : Int) := of_decide_eq_true (by first | (with_reducible assumption) | assumption)
                            have q328 : x7_1 < (l0.length : Int) := of_decide_eq_true (by first | (with_reducible assumption) | assumption)
                            obtain ⟨ad328, e328, hx328_0⟩ := Kd.at_int HR0.out x7_1 p328 q328
                            cases e328
                            replace hx328_0 := (HB.out.cell (World.block_lt_of_cell? w _ hx328_0)).trans hx328_0
                            replace p328 := eq_true p328
                            replace q328 := eq_true q328
                            have k1 : 1 ≤ (rd (l1.take ((ji4) : Int).toNat) x19_1) := by
                              have hb1 := HX.out
                              by_cases hh : 1 ≤ (rd (l1.take ((ji4) : Int).toNat) x19_1)
                              · exact hh
                              · rw [decide_eq_false hh] at hb1; exact absurd hb1 (by simp)
                            have h70 := of_decide_eq_true c15b0
                            have h7l := of_decide_eq_true c16b0
                            have hNx := Aside0.mk (next_some h70 h7l k1)
                            have hMx := Aside0.mk (And.intro h70 (And.intro h7l k1))
                            have hne := (bne_self_eq_false (Int.tmod (wrap64 (rd l0 x7_1)) (rd (l1.take ((ji4) : Int).toNat) x19_1)))
                            clear k1 h70 h7l
                            go_wp2_with (first | ((with_reducible refine gate_callee (f := 8) rfl ?_); refine goesL_ (some 42) rfl rfl Tryd.func8 (by kernel_rfl) rfl #[.pointer (some ⟨gD, 0, none⟩), .int .i64 (rd (l1.take ((ji4) : Int).toNat) x19_1)] rfl (by (try simp only [List.map_toArray, List.map_cons, List.map_nil]); first | done | rfl) ?_; (with_reducible refine (order_Draws_Next.calls gD _ (rd (l1.take ((ji4) : Int).toNat) x19_1) (Int.tmod (wrap64 (rd l0 x7_1)) (rd (l1.take ((ji4) : Int).toNat) x19_1)) _ HLf.out hNx.out).mono ?_); rintro e wN ⟨rfl, hLN, hKN⟩; refine ⟨_, rfl, ?_⟩; have n0_ := Aside0.mk (still_below HB.out HGD.out hKN); clear HB; have HB := n0_; clear n0_; have HLn := Aside0.mk hLN; clear hLN hKN))
                            refine (order_Draws_Next.calls_nil (rd (l1.take ((ji4) : Int).toNat) x19_1) _).mono ?_
                            rintro e w' ⟨rfl, ⟨nd, rfl⟩⟩
                            go_wp2
                            go_roundg kj11
                            case measure => have := HK1.out; have := HJ11.out; omega
                            case rel => exact ⟨(wrap64 (x7_1 + 1)), (wrap64 (x19_1 + 1)), (by first | rfl | (simp; done) | (simp [*]; done)), (by first | rfl | (simp; done) | (simp [*]; done)), H', ⟨by have := HK1.out; have := HJ11.out; omega⟩, ⟨by repeat (first | (with_reducible first | exact HB.out | apply below_alloc | apply pw_below_drewN | apply below_drew1) | exact HB.out)⟩, ⟨left_step hMx.out.1 hMx.out.2.1 hMx.out.2.2 (by have := Kd.C_max HR0.out; omega) HLn.out⟩⟩
                        · rw [if_neg c16] at H
                          exact absurd H (by simp)
                      · rw [if_neg c15] at H
                        exact absurd H (by simp)
                    · replace c14 := Bool.eq_false_iff.mpr c14
                      subst c14
                      have H1 : (jigsawlaw25_OrderDraws.l0 kj11 l0 x7_1 (l1.take ((ji4) : Int).toNat) ((l1.take ((ji4) : Int).toNat).length : Int) (wrap64 (x19_1 + 1))) = some r := by rw [if_neg (show ¬ (false = true) by decide)] at H; exact H
                      clear H
                      have H := H1
                      clear H1
                      have H' := Aside0.mk H
                      clear H
                      have hNx := Aside0.mk (next_none HX.out.symm)
                      go_wp2_with (first | ((with_reducible refine gate_callee (f := 8) rfl ?_); refine goesL_ (some 42) rfl rfl Tryd.func8 (by kernel_rfl) rfl #[.pointer (some ⟨gD, 0, none⟩), .int .i64 (rd (l1.take ((ji4) : Int).toNat) x19_1)] rfl (by (try simp only [List.map_toArray, List.map_cons, List.map_nil]); first | done | rfl) ?_; (with_reducible refine (order_Draws_Next.calls gD _ (rd (l1.take ((ji4) : Int).toNat) x19_1) 0 _ HLf.out hNx.out).mono ?_); rintro e wN ⟨rfl, hLN, hKN⟩; refine ⟨_, rfl, ?_⟩; have n0_ := Aside0.mk (still_below HB.out HGD.out hKN); clear HB; have HB := n0_; clear n0_; have HLn := Aside0.mk hLN; clear hLN hKN))
                      refine (order_Draws_Next.calls_nil (rd (l1.take ((ji4) : Int).toNat) x19_1) _).mono ?_
                      rintro e w' ⟨rfl, ⟨nd, rfl⟩⟩
                      go_wp2
                      go_roundg kj11
                      case measure => have := HK1.out; have := HJ11.out; omega
                      case rel => exact ⟨(x7_1), (wrap64 (x19_1 + 1)), (by first | rfl | (simp; done) | (simp [*]; done)), (by first | rfl | (simp; done) | (simp [*]; done)), H', ⟨by have := HK1.out; have := HJ11.out; omega⟩, ⟨by repeat (first | (with_reducible first | exact HB.out | apply below_alloc | apply pw_below_drewN | apply below_drew1) | exact HB.out)⟩, ⟨left_same HX.out.symm HLn.out⟩⟩
              · rw [if_neg c11] at H
                exact absurd H (by simp)
            · rw [if_neg c10] at H
              exact absurd H (by simp)
          · rw [if_neg c9] at H
            have c9b0 : decide (x19_1 < ((l1.take ((ji4) : Int).toNat).length : Int)) = false := decide_eq_false c9
            have c9b8 : decide (x19_1 < max ji4 0) = false := by
              have h_ := of_decide_eq_false c9b0
              rw [List.length_take] at h_
              exact decide_eq_false (by omega)
            clear c9
            replace H := Option.bind_eq_some_iff.mp H
            obtain ⟨t326, A180, H⟩ := H
            replace H : (some t326) = some r := H
            have A18 := Aside0.mk A180
            clear A180
            obtain rfl := Option.some.inj H
            go_wp2_with (first | ((with_reducible refine gate_callee (f := 9) rfl ?_); refine goesL_ (some 52) rfl rfl Tryd.func9 (by kernel_rfl) rfl #[] rfl (by (try simp only [List.map_toArray, List.map_cons, List.map_nil]); first | done | rfl | (simp only [List.length_drop, List.length_take]; rfl)) ?_; (with_reducible refine (jigsawlaw25_wakes.calls k1  t326 _ ?side1 A18.out).mono ?_); (case side1 => repeat (first | exact (Kd.C_below HRtab.out HB.out) | (with_reducible refine Kd.C_alloc ?_ _) | (with_reducible refine Kd.C_drewN ?_ _) | (with_reducible refine Kd.C_drew ?_))); rintro e w19 ⟨rfl, hb⟩; refine ⟨_, rfl, ?_⟩; have n0_ := Aside0.mk (below_step (by repeat (first | (with_reducible first | exact HB.out | apply below_alloc | apply pw_below_drewN | apply below_drew1) | exact HB.out)) hb); clear HB; have HB := n0_; clear n0_; (try clear hb); (try clear hb2); (try clear hk); (try clear hi)))
            go_ret
            exact ⟨by first | rfl | (simp [errW_none, errW_some] <;> rfl) | (simp only [← hji4]; first | rfl | (simp [errW_none, errW_some] <;> rfl)) | (simp [*, errW_none, errW_some] <;> rfl), by repeat (first | (with_reducible first | exact HB.out | apply below_alloc | apply pw_below_drewN | apply below_drew1) | exact HB.out)⟩
    · rw [if_neg c6] at H
      exact absurd H (by simp)
  · rw [if_neg c5] at H
    exact absurd H (by simp)

end Go.Proofs.YtllnjembdmjljaaDoor.XOrderDraws
