-- by xprint.py, a program of this session, over the kit's print
import Derived.Test.YtmhchlbbfpmdgaaGreatDoorXCFSx0
import Derived.Test.YtmhchlbbfpmdgaaGreatDoorXCFSx6
import Derived.Test.YtmhchlbbfpmdgaaGreatDoorXCFSx8
import Derived.Test.YtmhchlbbfpmdgaaGreatDoorSq
namespace Go.Proofs.YtmhchlbbfpmdgaaGreatDoor.XClauseFixed
open Go.RowKit Go.Proofs.YtmhchlbbfpmdgaaGreatDoor.Sq Go.Proofs.YtmhchlbbfpmdgaaGreatDoorW.PrintWords Go.Proofs.YtmhchlbbfpmdgaaGreatDoorW.PrintLast Go.Proofs.YtmhchlbbfpmdgaaGreatDoorW.PrintMore
attribute [local go_sem] max2_int min2_int max_two min_two max_three min_three max_four min_four   -- for this text's walks alone
set_option linter.unusedVariables false
set_option linter.unusedSimpArgs false

/-! ### dom_Dom_Only: function 29 -/
def dom_Dom_Only.f (k : Nat) (a0_0 : Int) (l0_1 : List Int) (a0_2 : Int) (a0_3 : Int) (a0_4 : Int) (a1 : Int) : Option (Int × List Int × Int × Int × Int × Int) := (dom_Dom_less_at_dom_Dom_Only_1.f k a0_0 l0_1 a0_2 a0_3 a0_4 a1).bind fun bt188 => (some (bt188.1, bt188.2.1, bt188.2.2.1, bt188.2.2.2.1, bt188.2.2.2.2.1, bt188.2.2.2.2.2))
theorem dom_Dom_Only.mono : ∀ a0 a1 a2 a3 a4 a5 k, LeO (dom_Dom_Only.f k a0 a1 a2 a3 a4 a5) (dom_Dom_Only.f (k + 1) a0 a1 a2 a3 a4 a5) := by
 intro a0 a1 a2 a3 a4 a5 k
 unfold dom_Dom_Only.f
 repeat' first
   | (with_reducible exact dom_Dom_less_at_dom_Dom_Only_1.mono _ _ _ _ _ _ _)
   | (with_reducible exact LeO.refl _)
   | (with_reducible exact LeO.none _)
   | (with_reducible refine LeO.ite ?_ ?_)
   | (with_reducible refine LeO.bind ?_ (fun _ => ?_))
   | exact dom_Dom_less_at_dom_Dom_Only_1.mono _ _ _ _ _ _ _
   | exact LeO.none _
   | refine LeO.ite ?_ ?_
   | refine LeO.bind ?_ (fun _ => ?_)
set_option maxHeartbeats 8000000 in
set_option maxRecDepth 100000 in
theorem dom_Dom_Only.calls (k : Nat) (a0_0 : Int) (P0_1_ : Nat → Prop) (A0_1 : Option Addr) (c0_1 : Nat) (l0_1 : List Int) (a0_2 : Int) (a0_3 : Int) (a0_4 : Int) (a1 : Int) (r1 : Int) (r2 : List Int) (r3 : Int) (r4 : Int) (r5 : Int) (r6 : Int) (w : World) (hs0_1 : Kd.V (Kd.int .u64) 80 w w.heap.size (fun k_ => P0_1_ k_) (.slice A0_1 l0_1.length c0_1) l0_1) (hrtab : Kd.C (Kd.int .u8) w (some ⟨0, 0, none⟩) tabL.length tabL) (h : dom_Dom_Only.f k a0_0 l0_1 a0_2 a0_3 a0_4 a1 = some (r1, r2, r3, r4, r5, r6)) :
  Calls Tryz.prog 29 #[.agg #[.int .i64 a0_0, .slice A0_1 l0_1.length c0_1, .int .i64 a0_2, .int .i64 a0_3, .int .i64 a0_4], .int .i64 a1] w fun e w' => ∃ v1_ : Value, e = .returned (.tuple #[.agg #[.int .i64 r1, v1_, .int .i64 r3, .int .i64 r4, .int .i64 r5], .int .i64 r6]) ∧ Kd.V (Kd.int .u64) 80 w' w.heap.size (fun k_ => (P0_1_ k_ ∨ w.heap.size ≤ k_)) v1_ r2 ∧ Below w.heap.size w w' := by
 have hu58 := Tryz.underlying58
 have HO0_1 := Aside0.mk (show Kd.V (Kd.int .u64) 80 w w.heap.size (fun k_ => (P0_1_ k_ ∨ w.heap.size ≤ k_)) (.slice A0_1 l0_1.length c0_1) l0_1 from Kd.V_mono hs0_1 (fun k_ hk => .inl hk))
 have HRtab := Aside0.mk hrtab
 clear hrtab
 have HB := Aside0.mk (Below.refl w.heap.size w)
 have H : ((dom_Dom_less_at_dom_Dom_Only_1.f k a0_0 l0_1 a0_2 a0_3 a0_4 a1).bind fun bt188 => (some (bt188.1, bt188.2.1, bt188.2.2.1, bt188.2.2.2.1, bt188.2.2.2.2.1, bt188.2.2.2.2.2))) = some (r1, r2, r3, r4, r5, r6) := h
 clear h
 replace H := Option.bind_eq_some_iff.mp H
 obtain ⟨⟨t188, t189, t192, t193, t194, t195⟩, A30, H⟩ := H
 replace H : (some (t188, t189, t192, t193, t194, t195)) = some (r1, r2, r3, r4, r5, r6) := H
 have A3 := Aside0.mk A30
 clear A30
 simp only [Option.some.injEq, Prod.mk.injEq] at H
 obtain ⟨rfl, rfl, rfl, rfl, rfl, rfl⟩ := H
 go_enter Tryz.func29, Tryz.ntmps29
 go_wp2_with (first | ((with_reducible refine gate_dst (N := 2) rfl ?_); refine bxe_ (N := 2) (cs := #[.int .i64 a0_0, .slice A0_1 l0_1.length c0_1, .int .i64 a0_2, .int .i64 a0_3, .int .i64 a0_4]) (t := 58) ?_; intro gb185 hg w4 hbox hb; replace HO0_1 := Aside0.mk (Kd.V_below (Kd.V_elderB (vV_ HO0_1.out) gb185 (Nat.le_of_eq hg.symm)) hb); have BK185 := Aside0.mk (hbox); have GW185 := Aside0.mk (by rw [hg]; exact (below_size bel_) : w.heap.size ≤ gb185); have GE185 := GW185; replace HB := Aside0.mk (below_step bel_ hb); clear hb hbox hg) | ((with_reducible refine gate_dst (N := 3) rfl ?_); refine bxe_ (N := 3) (cs := #[.int .i64 a1]) (t := 3) ?_; intro gb186 hg w5 hbox hb; replace HO0_1 := Aside0.mk (Kd.V_below (Kd.V_elderB (vV_ HO0_1.out) gb186 (Nat.le_of_eq hg.symm)) hb); have BK186 := Aside0.mk (hbox); have GW186 := Aside0.mk (by rw [hg]; exact (below_size bel_) : w.heap.size ≤ gb186); have GE186 := GW186; replace HB := Aside0.mk (below_step bel_ hb); have NB185_186 := Aside0.mk ((by rw [hg]; exact Nat.ne_of_lt (blk_lt (bk_ BK185.out)) : gb185 ≠ gb186)); have NB186_185 := Aside0.mk ((by rw [hg]; exact Nat.ne_of_gt (blk_lt (bk_ BK185.out)) : gb186 ≠ gb185)); replace BK185 := Aside0.mk (blk_below (bk_ BK185.out) hb); clear hb hbox hg) | ((with_reducible refine gate_dst (N := 4) rfl ?_); refine bxe_ (N := 4) (cs := #[.int .i64 0, .slice none 0 0, .int .i64 0, .int .i64 0, .int .i64 0]) (t := 58) ?_; intro gb187 hg w6 hbox hb; replace HO0_1 := Aside0.mk (Kd.V_below (Kd.V_elderB (vV_ HO0_1.out) gb187 (Nat.le_of_eq hg.symm)) hb); have BK187 := Aside0.mk (hbox); have GW187 := Aside0.mk (by rw [hg]; exact (below_size bel_) : w.heap.size ≤ gb187); have GE187 := GW187; replace HB := Aside0.mk (below_step bel_ hb); have NB185_187 := Aside0.mk ((by rw [hg]; exact Nat.ne_of_lt (blk_lt (bk_ BK185.out)) : gb185 ≠ gb187)); have NB187_185 := Aside0.mk ((by rw [hg]; exact Nat.ne_of_gt (blk_lt (bk_ BK185.out)) : gb187 ≠ gb185)); replace BK185 := Aside0.mk (blk_below (bk_ BK185.out) hb); have NB186_187 := Aside0.mk ((by rw [hg]; exact Nat.ne_of_lt (blk_lt (bk_ BK186.out)) : gb186 ≠ gb187)); have NB187_186 := Aside0.mk ((by rw [hg]; exact Nat.ne_of_gt (blk_lt (bk_ BK186.out)) : gb187 ≠ gb186)); replace BK186 := Aside0.mk (blk_below (bk_ BK186.out) hb); clear hb hbox hg; have hnb7 := NB185_186.out; have hnc7 := NB186_185.out; have hnb8 := NB185_187.out; have hnc8 := NB187_185.out; obtain ⟨_, _, _, _, _, _, _, _, _, _⟩ := cel5_ BK185.out) | ((with_reducible refine gate_callee (f := 58) rfl ?_); refine goesL_ (some 8) rfl rfl Tryz.func58 (by kernel_rfl) rfl #[.agg #[.int .i64 a0_0, .slice A0_1 l0_1.length c0_1, .int .i64 a0_2, .int .i64 a0_3, .int .i64 a0_4], .func (.func 59) #[] #[.pointer (some ⟨gb186, 0, none⟩)]] rfl ar_ ?_; (with_reducible refine (dom_Dom_less_at_dom_Dom_Only_1.calls k a0_0 (fun k_ => ((((P0_1_ k_ ∨ w.heap.size ≤ k_) ∧ k_ ≠ gb185) ∧ k_ ≠ gb186) ∧ k_ ≠ gb187)) _ _ l0_1 a0_2 a0_3 a0_4 gb186 a1 t188 t189 t192 t193 t194 t195 _ ?side1 ?side2 ?side3 A3.out).mono ?_); (case side1 => exact HO0_1.out); (case side2 => exact by refine bk_ ?_; exact BK186.out); (case side3 => exact ca_ ((Kd.C_below HRtab.out HB.out))); rintro e w10 ⟨v190, rfl, ho0, hb⟩; refine ⟨_, rfl, ?_⟩; replace HO0_1 := Aside0.mk (Kd.V_below (vV_ HO0_1.out) hb); have HO191 := Aside0.mk (Kd.V_lower (Kd.V_mono (ok' := fun k_ => (P0_1_ k_ ∨ w.heap.size ≤ k_) ∧ k_ ≠ gb185 ∧ k_ ≠ gb186 ∧ k_ ≠ gb187) ho0 (fun k_ hk_ => ⟨Or.elim hk_ (fun hs_ => hs_.1.1.1) (fun hn_ => (.inr (Nat.le_trans (below_size bel_) hn_))), Or.elim hk_ (fun hs_ => hs_.1.1.2) (fun hn_ => (Kd.freshB (bk_ BK185.out) k_ hn_)), Or.elim hk_ (fun hs_ => hs_.1.2) (fun hn_ => (Kd.freshB (bk_ BK186.out) k_ hn_)), Or.elim hk_ (fun hs_ => hs_.2) (fun hn_ => (Kd.freshB (bk_ BK187.out) k_ hn_))⟩)) (below_size bel_)); replace BK185 := Aside0.mk (blk_below (bk_ BK185.out) hb); replace BK186 := Aside0.mk (blk_below (bk_ BK186.out) hb); replace BK187 := Aside0.mk (blk_below (bk_ BK187.out) hb); replace HB := Aside0.mk (below_step bel_ hb); clear hb ho0; have hnb11 := NB187_186.out; have hnc11 := NB186_187.out; obtain ⟨_, _, _, _, _, _, _, _, _, _⟩ := cel5_ BK187.out; obtain ⟨Ao13, co13, eo13⟩ := Kd.V_slice HO191.out; subst eo13))
 refine bodyPost_ret (results_ct rfl _ _ gb187 58 #[.int .i64 t188, .slice Ao13 t189.length co13, .int .i64 t192, .int .i64 t193, .int .i64 t194] (0, 0) _ rfl (by refine bk_ ?_; refine blk_put (cs := #[.int .i64 t188, .slice Ao13 t189.length co13, .int .i64 t192, .int .i64 t193, .int .i64 0]) ?_ 4 _ rfl; refine bk_ ?_; refine blk_put (cs := #[.int .i64 t188, .slice Ao13 t189.length co13, .int .i64 t192, .int .i64 0, .int .i64 0]) ?_ 3 _ rfl; refine bk_ ?_; refine blk_put (cs := #[.int .i64 t188, .slice Ao13 t189.length co13, .int .i64 0, .int .i64 0, .int .i64 0]) ?_ 2 _ rfl; refine bk_ ?_; refine blk_put (cs := #[.int .i64 t188, .slice none 0 0, .int .i64 0, .int .i64 0, .int .i64 0]) ?_ 1 _ rfl; refine bk_ ?_; refine blk_put (cs := #[.int .i64 0, .slice none 0 0, .int .i64 0, .int .i64 0, .int .i64 0]) ?_ 0 _ rfl; refine bk_ ?_; exact BK187.out) Tryz.underlying58 rfl (by kernel_rfl)) rfl ?_
 exact ⟨_, by first | rfl | (simp [errW_none, errW_some] <;> rfl) | (simp [*, errW_none, errW_some] <;> rfl), by refine vV_ ?_; exact Kd.V_mono (Kd.V_far (Kd.V_far (Kd.V_far (Kd.V_far (Kd.V_far (Kd.V_mono HO191.out (fun k_ hk => (⟨hk, hk.2.2.2⟩ : _ ∧ k_ ≠ gb187))) (fun _ hk => hk.2) _) (fun _ hk => hk.2) _) (fun _ hk => hk.2) _) (fun _ hk => hk.2) _) (fun _ hk => hk.2) _) (fun _ hk => hk.1.1), bel_⟩

end Go.Proofs.YtmhchlbbfpmdgaaGreatDoor.XClauseFixed
