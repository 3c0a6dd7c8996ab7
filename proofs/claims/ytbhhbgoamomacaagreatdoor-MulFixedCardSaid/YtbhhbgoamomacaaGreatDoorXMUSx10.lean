-- by xprint.py, a program of this session, over the kit's print
import Derived.Test.YtbhhbgoamomacaaGreatDoorXMUSx0
import Derived.Test.YtbhhbgoamomacaaGreatDoorXMUSx5
import Derived.Test.YtbhhbgoamomacaaGreatDoorXMUSx9
import Derived.Test.YtbhhbgoamomacaaGreatDoorSq
namespace Go.Proofs.YtbhhbgoamomacaaGreatDoor.XMulFixed
open Go.RowKit Go.Proofs.YtbhhbgoamomacaaGreatDoor.Sq Go.Proofs.YtbhhbgoamomacaaGreatDoorW.PrintWords Go.Proofs.YtbhhbgoamomacaaGreatDoorW.PrintLast Go.Proofs.YtbhhbgoamomacaaGreatDoorW.PrintMore
attribute [local go_sem] max2_int min2_int max_two min_two max_three min_three max_four min_four   -- for this text's walks alone
set_option linter.unusedVariables false
set_option linter.unusedSimpArgs false

/-! ### prop_Made: function 69 -/
def prop_Made.l0 : Nat → List (S61) → List (List Int) → Int → Int → Option ((List (S61)) × Bool)
 | 0, _, _, _, _ => none
 | k + 1, x4, x9, x10, x11 => if x11 < x10 then (if 0 ≤ x11 then (if x11 < (x9.length : Int) then ((dom_Of.f k (rd_L7 x9 x11)).bind fun bt236 => (if bt236.2.2.2.2.2 = 0 then (if x4.length < 2513169434916 then (prop_Made.l0 k (x4 ++ [(⟨bt236.1, bt236.2.1, bt236.2.2.1, bt236.2.2.2.1, bt236.2.2.2.2.1⟩ : S61)]) x9 x10 (wrap64 (x11 + 1))) else (none)) else (some (([] : List (S61)), false)))) else (none)) else (none)) else (some (x4, true))
def prop_Made.f (k : Nat) (l0 : List (List Int)) : Option ((List (S61)) × Bool) := prop_Made.l0 k ([] : List (S61)) l0 (l0.length : Int) 0
theorem prop_Made.mono_l : ∀ k, (∀ y0 y1 y2 y3, LeO (prop_Made.l0 k y0 y1 y2 y3) (prop_Made.l0 (k + 1) y0 y1 y2 y3))
 | 0 => fun _ _ _ _ r h => by simp [prop_Made.l0] at h
 | k + 1 => by
  have ih0 := prop_Made.mono_l k
  ·
   intro y0 y1 y2 y3
   unfold prop_Made.l0
   have m0 := @dom_Of.mono
   exact leo_
theorem prop_Made.mono : ∀ a0 k, LeO (prop_Made.f k a0) (prop_Made.f (k + 1) a0) := by
 intro a0 k
 have ih0 := prop_Made.mono_l k
 unfold prop_Made.f
 have m0 := @dom_Of.mono
 exact leo_
set_option maxHeartbeats 8000000 in
set_option maxRecDepth 100000 in
theorem prop_Made.calls (k : Nat) (A0 : Option Addr) (c0 : Nat) (l0 : List (List Int)) (r1 : List (S61)) (r2 : Bool) (w : World) (hr0 : Kd.C (Kd.slice 3 (Kd.int .i64)) w A0 l0.length l0) (hc0 : l0.length ≤ c0) (hrtab : Kd.C (Kd.int .u8) w (some ⟨0, 0, none⟩) tabL.length tabL) (h : prop_Made.f k l0 = some (r1, r2)) :
  Calls Tryz.prog 69 #[.slice A0 l0.length c0] w fun e w' => ∃ v0_ : Value, e = .returned (.tuple #[v0_, .bool r2]) ∧ Kd.N k61 61 w' w.heap.size (fun k_ => (w.heap.size ≤ k_)) v0_ r1 ∧ Below w.heap.size w w' := by
 have hu61 := Tryz.underlying61
 have HR0 := Aside0.mk hr0
 have HC0 := Aside0.mk hc0
 clear hr0 hc0
 have HRtab := Aside0.mk hrtab
 clear hrtab
 have HB := Aside0.mk (Below.refl w.heap.size w)
 have H : (prop_Made.l0 k ([] : List (S61)) l0 (l0.length : Int) 0) = some (r1, r2) := h
 clear h
 have H' := Aside0.mk H
 clear H
 go_enter Tryz.func69, Tryz.ntmps69
 go_wp2
 go_loopg [4, 11] k (fun kq v4 v11 w' => ∃ (x4_1 : List (S61)) (x11_1 : Int), v11 = .int .i64 x11_1 ∧ Aside0 (prop_Made.l0 kq x4_1 l0 (l0.length : Int) x11_1 = some (r1, r2)) ∧ Aside0 (kq ≤ k) ∧ Aside0 (Kd.N k61 61 w' w.heap.size (fun k_ => (w.heap.size ≤ k_)) v4 x4_1) ∧ Aside0 (Below w.heap.size w w'))
 case atStart => exact ⟨(([] : List (S61))), (0), eq_, H', ⟨Nat.le_refl _⟩, ⟨nil_⟩, ⟨bel_⟩⟩
 case round =>
  clear H'
  obtain ⟨x4_1, x11_1, rfl, HA, HK1, HO_4, HB⟩ := hrel
  cases gk with
  | zero => exact absurd HA.out (by simp [prop_Made.l0])
  | succ k1 =>
   have H := HA.out
   clear HA
   simp only [prop_Made.l0] at H
   by_cases c2 : x11_1 < (l0.length : Int)
   ·
    rw [if_pos c2] at H
    have c2b0 : decide (x11_1 < (l0.length : Int)) = true := decide_eq_true c2
    clear c2
    by_cases c3 : 0 ≤ x11_1
    ·
     rw [if_pos c3] at H
     have c3b0 : decide (0 ≤ x11_1) = true := decide_eq_true c3
     clear c3
     by_cases c4 : x11_1 < (l0.length : Int)
     ·
      rw [if_pos c4] at H
      have c4b0 : decide (x11_1 < (l0.length : Int)) = true := decide_eq_true c4
      clear c4
      replace H := Option.bind_eq_some_iff.mp H
      obtain ⟨⟨t236, t237, t240, t241, t242, t243⟩, A50, H⟩ := H
      replace H : (if t243 = 0 then (if x4_1.length < 2513169434916 then (prop_Made.l0 k1 (x4_1 ++ [(⟨t236, t237, t240, t241, t242⟩ : S61)]) l0 (l0.length : Int) (wrap64 (x11_1 + 1))) else (none)) else (some (([] : List (S61)), false))) = some (r1, r2) := H
      have A5 := Aside0.mk A50
      clear A50
      by_cases c6 : t243 = 0
      ·
       rw [if_pos c6] at H
       have c6b0 : (t243 == 0) = true := beq_iff_eq.mpr c6
       have c6b1 : (t243 != 0) = false := bne_eq_false_iff_eq.mpr c6
       clear c6
       by_cases c7 : x4_1.length < 2513169434916
       ·
        rw [if_pos c7] at H
        have LMc7 := Aside0.mk c7
        clear c7
        obtain ⟨y245, hy245⟩ : ∃ y_ : List (S61), y_ = (x4_1 ++ [(⟨t236, t237, t240, t241, t242⟩ : S61)]) := ⟨_, rfl⟩
        replace H : (prop_Made.l0 k1 y245 l0 (l0.length : Int) (wrap64 (x11_1 + 1))) = some (r1, r2) := by first | (rw [hy245]; with_reducible exact H) | (have H2_ := (Option.bind_some _ _).symm.trans H; rw [hy245]; with_reducible exact H2_) | (have H2_ := (Option.bind_some _ _).symm.trans H; with_reducible exact H2_) | with_reducible exact H | (rw [hy245]; exact H) | exact H
        have Ny245 := Aside0.mk hy245
        clear hy245
        have H' := Aside0.mk H
        clear H
        have p235 : 0 ≤ (x11_1 : Int) := dq_
        have q235 : x11_1 < (l0.length : Int) := dq_
        obtain ⟨ad235, A235_0, c235_0, e235, hx235_0, hl235_0, hi235_0⟩ := at_L7 HR0.out x11_1 p235 q235
        cases e235
        replace hx235_0 := (HB.out.cell (World.block_lt_of_cell? w _ hx235_0)).trans hx235_0
        have HR235_0 := Aside0.mk hi235_0
        have HC235_0 := Aside0.mk hl235_0
        clear hi235_0 hl235_0
        replace p235 := eq_true p235
        replace q235 := eq_true q235
        go_wp2_with (first | ((with_reducible refine gate_callee (f := 34) rfl ?_); refine goesL_ (some 17) rfl rfl Tryz.func34 (by kernel_rfl) rfl #[.slice A235_0 (rd_L7 l0 x11_1).length c235_0] rfl ar_ ?_; (with_reducible refine (dom_Of.calls k1 _ _ (rd_L7 l0 x11_1) t236 t237 t240 t241 t242 t243 _ ?_ ?_ ?_ A5.out).mono ?_); exact ca_ ((Kd.C_below HR235_0.out HB.out)); exact HC235_0.out; exact ca_ ((Kd.C_below HRtab.out HB.out)); rintro e w8 ⟨v238, rfl, ho0, hb⟩; refine ⟨_, rfl, ?_⟩; have HO239 := Aside0.mk (Kd.V_lower (Kd.V_mono (ok' := fun k_ => (w.heap.size ≤ k_) ∧ some k_ ≠ (u4 : Value).ownBlock) ho0 (fun k_ hk_ => ⟨(Nat.le_trans (below_size bel_) hk_), (Kd.fresh' (Kd.N_lt (vN_ HO_4.out)) k_ hk_)⟩)) (below_size bel_)); replace HO_4 := Aside0.mk (Kd.N_below (vN_ HO_4.out) hb); replace HB := Aside0.mk (below_step bel_ hb); clear hb ho0) | ((with_reducible refine gate_dst (N := 7) rfl ?_); refine bxe_ (N := 7) (cs := #[.int .i64 0, .slice none 0 0, .int .i64 0, .int .i64 0, .int .i64 0]) (t := 61) ?_; intro gb244 hg w9 hbox hb; replace HO_4 := Aside0.mk (Kd.N_below (Kd.N_elderB (vN_ HO_4.out) gb244 (Nat.le_of_eq hg.symm)) hb); replace HO239 := Aside0.mk (Kd.V_below (Kd.V_elderB (vV_ HO239.out) gb244 (Nat.le_of_eq hg.symm)) hb); have BK244 := Aside0.mk (hbox); have GW244 := Aside0.mk (by rw [hg]; exact (below_size bel_) : w.heap.size ≤ gb244); have GE244 := GW244; replace HB := Aside0.mk (below_step bel_ hb); clear hb hbox hg; obtain ⟨_, _, _, _, _, _, _, _, _, _⟩ := cel5_ BK244.out; obtain ⟨Ao11, co11, eo11⟩ := Kd.V_slice HO239.out; subst eo11) | ((with_reducible refine gate_store (t := 61) (p := 7) rfl ?_); refine store_event (t := 61) (p := 7) (v := ?vo_w12) (w1 := (((((w9.setCell ⟨gb244, 0, none⟩ (.int .i64 t236)).setCell ⟨gb244, 1, none⟩ (.slice Ao11 t237.length co11)).setCell ⟨gb244, 2, none⟩ (.int .i64 t240)).setCell ⟨gb244, 3, none⟩ (.int .i64 t241)).setCell ⟨gb244, 4, none⟩ (.int .i64 t242))) ?hg ?ho ?hn ?hr ?_; (case ho => rfl); (case hg => rfl); (case hn => rfl); (case hr => first | (go_simp; done) | (go_simp; rfl)); intro w12 hw; replace HO_4 : Aside0 (Kd.N k61 61 w12 w.heap.size (fun k_ => (w.heap.size ≤ k_) ∧ k_ ≠ gb244) u4 x4_1) := ⟨(by rw [hw]; exact (by refine vN_ ?_; exact Kd.N_mono (Kd.N_far (Kd.N_far (Kd.N_far (Kd.N_far (Kd.N_far (Kd.N_mono HO_4.out (fun k_ hk => (⟨hk, hk.2⟩ : _ ∧ k_ ≠ gb244))) (fun _ hk => hk.2) _) (fun _ hk => hk.2) _) (fun _ hk => hk.2) _) (fun _ hk => hk.2) _) (fun _ hk => hk.2) _) (fun _ hk => ⟨hk.1.1, hk.1.2⟩)))⟩; replace HO239 : Aside0 (Kd.V (Kd.int .u64) 87 w12 w.heap.size (fun k_ => (w.heap.size ≤ k_) ∧ some k_ ≠ (u4 : Value).ownBlock ∧ k_ ≠ gb244) (.slice Ao11 t237.length co11) t237) := ⟨(by rw [hw]; exact (by refine vV_ ?_; exact Kd.V_mono (Kd.V_far (Kd.V_far (Kd.V_far (Kd.V_far (Kd.V_far (Kd.V_mono HO239.out (fun k_ hk => (⟨hk, hk.2⟩ : _ ∧ k_ ≠ gb244))) (fun _ hk => hk.2) _) (fun _ hk => hk.2) _) (fun _ hk => hk.2) _) (fun _ hk => hk.2) _) (fun _ hk => hk.2) _) (fun _ hk => ⟨hk.1.1.1, ⟨hk.1.1.2, hk.1.2⟩⟩)))⟩; replace BK244 : Aside0 (w12.heap[gb244]? = some (.cells #[.int .i64 t236, .slice Ao11 t237.length co11, .int .i64 t240, .int .i64 t241, .int .i64 t242] 61 (0, 0))) := ⟨(by rw [hw]; exact (by refine bk_ ?_; refine blk_put (cs := #[.int .i64 t236, .slice Ao11 t237.length co11, .int .i64 t240, .int .i64 t241, .int .i64 0]) ?_ 4 _ rfl; refine bk_ ?_; refine blk_put (cs := #[.int .i64 t236, .slice Ao11 t237.length co11, .int .i64 t240, .int .i64 0, .int .i64 0]) ?_ 3 _ rfl; refine bk_ ?_; refine blk_put (cs := #[.int .i64 t236, .slice Ao11 t237.length co11, .int .i64 0, .int .i64 0, .int .i64 0]) ?_ 2 _ rfl; refine bk_ ?_; refine blk_put (cs := #[.int .i64 t236, .slice none 0 0, .int .i64 0, .int .i64 0, .int .i64 0]) ?_ 1 _ rfl; refine bk_ ?_; refine blk_put (cs := #[.int .i64 0, .slice none 0 0, .int .i64 0, .int .i64 0, .int .i64 0]) ?_ 0 _ rfl; refine bk_ ?_; exact BK244.out))⟩; replace HB : Aside0 (Below w.heap.size w w12) := ⟨(by rw [hw]; exact bel_)⟩; clear hw; obtain ⟨_, _, _, _, _, _, _, _, _, _⟩ := cel5_ BK244.out) | ((with_reducible refine gate_builtin (b := .append) (xs := #[.tmp 22, .tmp 24]) rfl ?_); at_builtin; refine Kd.N_append k61 (w0 := w) w.heap.size rfl (.tmp 22) (.tmp 24) 36 61 (.agg #[(.int .i64 0), (.slice none 0 0), (.int .i64 0), (.int .i64 0), (.int .i64 0)]) 56 rfl Tryz.underlying36 info61 rfl (by decide) (by omega) u4 x4_1 (⟨t236, t237, t240, t241, t242⟩ : S61) [.int .i64 t236, .slice Ao11 t237.length co11, .int .i64 t240, .int .i64 t241, .int .i64 t242] (fun k_ => (w.heap.size ≤ k_) ∧ k_ ≠ gb244) (fun k_ => ((fun k_ => (w.heap.size ≤ k_) ∧ k_ ≠ gb244)) k_ ∧ some k_ ≠ (u4 : Value).ownBlock) rfl rfl ?aP (fun _ hk => hk) ?aF ?aO ?aB ?aS ?aL ?_; (case aP => exact (k61_mkF _ _ (⟨t236, t237, t240, t241, t242⟩ : S61) (Kd.V_reads' (Kd.V_mono (ok' := (fun k_ => ((fun k_ => (w.heap.size ≤ k_) ∧ k_ ≠ gb244)) k_ ∧ some k_ ≠ (u4 : Value).ownBlock)) (HO239.out) (fun k_ hk => ⟨⟨hk.1, hk.2.2⟩, hk.2.1⟩))).2.1 (Kd.V_F (Kd.V_mono (ok' := (fun k_ => ((fun k_ => (w.heap.size ≤ k_) ∧ k_ ≠ gb244)) k_ ∧ some k_ ≠ (u4 : Value).ownBlock)) (HO239.out) (fun k_ hk => ⟨⟨hk.1, hk.2.2⟩, hk.2.1⟩))))); (case aB => exact bel_); (case aF => exact (fun k_ hk => ⟨(Nat.le_trans (below_size bel_) hk), Kd.freshB (bk_ BK244.out) k_ hk⟩)); (case aO => exact (vN_ HO_4.out)); (case aS => exact (below_size bel_)); (case aL => have := LMc7.out; omega); intro v246 w14 ho hb hg hat; rw [← Ny245.out] at ho; replace HB := Aside0.mk (hb); have HO247 := Aside0.mk (ho); clear HO_4; clear ho hb hg hat))
        go_roundg k1
        case measure => have := HK1.out; omega
        case rel => exact ⟨(y245), (wrap64 (x11_1 + 1)), eq_, H', ⟨by have := HK1.out; omega⟩, ⟨by refine vN_ ?_; exact Kd.N_mono HO247.out (fun _ hk => hk.1)⟩, ⟨bel_⟩⟩
       ·
        rw [if_neg c7] at H
        exact absurd H (by simp)
      ·
       rw [if_neg c6] at H
       have c6b0 : (t243 == 0) = false := beq_eq_false_iff_ne.mpr c6
       have c6b1 : (t243 != 0) = true := bne_iff_ne.mpr c6
       simp only [Option.some.injEq, Prod.mk.injEq] at H
       obtain ⟨rfl, rfl⟩ := H
       have p235 : 0 ≤ (x11_1 : Int) := dq_
       have q235 : x11_1 < (l0.length : Int) := dq_
       obtain ⟨ad235, A235_0, c235_0, e235, hx235_0, hl235_0, hi235_0⟩ := at_L7 HR0.out x11_1 p235 q235
       cases e235
       replace hx235_0 := (HB.out.cell (World.block_lt_of_cell? w _ hx235_0)).trans hx235_0
       have HR235_0 := Aside0.mk hi235_0
       have HC235_0 := Aside0.mk hl235_0
       clear hi235_0 hl235_0
       replace p235 := eq_true p235
       replace q235 := eq_true q235
       go_wp2_with (first | ((with_reducible refine gate_callee (f := 34) rfl ?_); refine goesL_ (some 17) rfl rfl Tryz.func34 (by kernel_rfl) rfl #[.slice A235_0 (rd_L7 l0 x11_1).length c235_0] rfl ar_ ?_; (with_reducible refine (dom_Of.calls k1 _ _ (rd_L7 l0 x11_1) t236 t237 t240 t241 t242 t243 _ ?_ ?_ ?_ A5.out).mono ?_); exact ca_ ((Kd.C_below HR235_0.out HB.out)); exact HC235_0.out; exact ca_ ((Kd.C_below HRtab.out HB.out)); rintro e w15 ⟨v238, rfl, ho0, hb⟩; refine ⟨_, rfl, ?_⟩; have HO239 := Aside0.mk (Kd.V_lower (Kd.V_mono (ok' := fun k_ => (w.heap.size ≤ k_) ∧ some k_ ≠ (u4 : Value).ownBlock) ho0 (fun k_ hk_ => ⟨(Nat.le_trans (below_size bel_) hk_), (Kd.fresh' (Kd.N_lt (vN_ HO_4.out)) k_ hk_)⟩)) (below_size bel_)); replace HB := Aside0.mk (below_step bel_ hb); clear hb ho0) | ((with_reducible refine gate_dst (N := 7) rfl ?_); refine bxe_ (N := 7) (cs := #[.int .i64 0, .slice none 0 0, .int .i64 0, .int .i64 0, .int .i64 0]) (t := 61) ?_; intro gb244 hg w16 hbox hb; replace HO239 := Aside0.mk (Kd.V_below (Kd.V_elderB (vV_ HO239.out) gb244 (Nat.le_of_eq hg.symm)) hb); have BK244 := Aside0.mk (hbox); have GW244 := Aside0.mk (by rw [hg]; exact (below_size bel_) : w.heap.size ≤ gb244); have GE244 := GW244; replace HB := Aside0.mk (below_step bel_ hb); clear hb hbox hg; obtain ⟨_, _, _, _, _, _, _, _, _, _⟩ := cel5_ BK244.out; obtain ⟨Ao18, co18, eo18⟩ := Kd.V_slice HO239.out; subst eo18))
       go_ret2
       exact ⟨_, by first | rfl | (simp [errW_none, errW_some] <;> rfl) | (simp [*, errW_none, errW_some] <;> rfl), by first | exact Kd.S_nil _ _ _ _ _ | exact Kd.N_nil _ _ _ _ _ | exact Kd.V_nil _ _ _ _ _ | exact Kd.Q_nil _ _ _ _ _ | exact Kd.R_nil _ _ _ _ _, bel_⟩
     ·
      rw [if_neg c4] at H
      exact absurd H (by simp)
    ·
     rw [if_neg c3] at H
     exact absurd H (by simp)
   ·
    rw [if_neg c2] at H
    have c2b0 : decide (x11_1 < (l0.length : Int)) = false := decide_eq_false c2
    clear c2
    simp only [Option.some.injEq, Prod.mk.injEq] at H
    obtain ⟨rfl, rfl⟩ := H
    go_wp2
    go_ret2
    exact ⟨_, by first | rfl | (simp [errW_none, errW_some] <;> rfl) | (simp [*, errW_none, errW_some] <;> rfl), by refine vN_ ?_; exact HO_4.out, bel_⟩

-- NOT PRINTED: function 33 (prop_Pairs)

end Go.Proofs.YtbhhbgoamomacaaGreatDoor.XMulFixed
