-- by xprint.py, a program of this session, over the kit's print
import Derived.Test.YtijjhobjmehhoaaGreatDoorXGAlx0
import Derived.Test.YtijjhobjmehhoaaGreatDoorXGAlx5
import Derived.Test.YtijjhobjmehhoaaGreatDoorXGAlx9
import Derived.Test.YtijjhobjmehhoaaGreatDoorSq
namespace Go.Proofs.YtijjhobjmehhoaaGreatDoor.XGccAll
open Go.RowKit Go.Proofs.YtijjhobjmehhoaaGreatDoor.Sq Go.Proofs.YtijjhobjmehhoaaGreatDoorW.PrintWords Go.Proofs.YtijjhobjmehhoaaGreatDoorW.PrintLast Go.Proofs.YtijjhobjmehhoaaGreatDoorW.PrintMore
attribute [local go_sem] max2_int min2_int max_two min_two max_three min_three max_four min_four   -- for this text's walks alone
set_option linter.unusedVariables false
set_option linter.unusedSimpArgs false

/-! ### dom_Dom_Only: function 60 -/
def dom_Dom_Only.f (k : Nat) (b : Int) (c : List Int) (d : Int) (e : Int) (g : Int) (l : Int) : Option (Int × List Int × Int × Int × Int × Int) := (dom_Dom_less_at_dom_Dom_Only_1.f k b c d e g l).bind fun a => (some (a.1, a.2.1, a.2.2.1, a.2.2.2.1, a.2.2.2.2.1, a.2.2.2.2.2))
theorem dom_Dom_Only.mono : ∀ a b c d e g k, LeO (dom_Dom_Only.f k a b c d e g) (dom_Dom_Only.f (k + 1) a b c d e g) := by
 intro a b c d e g k
 unfold dom_Dom_Only.f
 have m0 := @dom_Dom_less_at_dom_Dom_Only_1.mono
 exact leo_
set_option maxHeartbeats 8000000 in
set_option maxRecDepth 100000 in
theorem dom_Dom_Only.calls (k : Nat) (p : Int) (v : Option Addr) (c0_1 : Nat) (d : List Int) (q : Int) (r : Int) (s : Int) (Q : Int) (r1 : Int) (r2 : List Int) (r3 : Int) (r4 : Int) (r5 : Int) (r6 : Int) (w : World) (K : Kd.C (Kd.int .u64) w v d.length d) (M : d.length ≤ c0_1) (hrtab : Kd.C (Kd.int .u8) w (some ⟨0, 0, none⟩) tabL.length tabL) (h : dom_Dom_Only.f k p d q r s Q = some (r1, r2, r3, r4, r5, r6)) :
  Calls Tryz.prog 60 #[.agg #[.int .i64 p, .slice v d.length c0_1, .int .i64 q, .int .i64 r, .int .i64 s], .int .i64 Q] w fun e w' => ∃ aa : Value, e = .returned (.tuple #[.agg #[.int .i64 r1, aa, .int .i64 r3, .int .i64 r4, .int .i64 r5], .int .i64 r6]) ∧ Kd.V (Kd.int .u64) 84 w' w.heap.size (fun o => (w.heap.size ≤ o)) aa r2 ∧ Below w.heap.size w w' := by
 have hu58 := Tryz.underlying58
 have U := a_ K
 have W := a_ M
 clear K M
 have HRtab := a_ hrtab
 clear hrtab
 have HB := a_ (Below.refl w.heap.size w)
 unfold dom_Dom_Only.f at h
 have H := h
 clear h
 replace H := bs_.mp H
 obtain ⟨⟨n, u, x, J, P, ad⟩, ab, H⟩ := H
 try dsimp only at H
 have A3 := a_ ab
 clear ab
 simp only [Option.some.injEq, Prod.mk.injEq] at H
 obtain ⟨rfl, rfl, rfl, rfl, rfl, rfl⟩ := H
 go_enter Tryz.func60, Tryz.ntmps60
 go_wp2_with (first | ((with_reducible refine gate_dst (N := 2) rfl ?_); refine bxe_ (N := 2) (cs := #[.int .i64 p, .slice v d.length c0_1, .int .i64 q, .int .i64 r, .int .i64 s]) (t := 58) ?_; intro g hg w4 hbox hb; have a := a_ (hbox); have X := a_ (by rw [hg]; exact (bz_ bel_) : w.heap.size ≤ g); have al := X; replace HB := hq_ hb; clear hb hbox hg) | ((with_reducible refine gate_dst (N := 3) rfl ?_); refine bxe_ (N := 3) (cs := #[.int .i64 Q]) (t := 3) ?_; intro b hg w5 hbox hb; have l := a_ (hbox); have Y := a_ (by rw [hg]; exact (bz_ bel_) : w.heap.size ≤ b); have am := Y; replace HB := hq_ hb; have A := a_ ((by rw [hg]; exact Nat.ne_of_lt (blk_lt (bk_ a.out)) : g ≠ b)); have B := a_ ((by rw [hg]; exact Nat.ne_of_gt (blk_lt (bk_ a.out)) : b ≠ g)); replace a := a_ (bq_ a.out hb); clear hb hbox hg) | ((with_reducible refine gate_dst (N := 4) rfl ?_); refine bxe_ (N := 4) (cs := #[.int .i64 0, .slice none 0 0, .int .i64 0, .int .i64 0, .int .i64 0]) (t := 58) ?_; intro c hg w6 hbox hb; have m := a_ (hbox); have Z := a_ (by rw [hg]; exact (bz_ bel_) : w.heap.size ≤ c); have an := Z; replace HB := hq_ hb; have E := a_ ((by rw [hg]; exact Nat.ne_of_lt (blk_lt (bk_ a.out)) : g ≠ c)); have F := a_ ((by rw [hg]; exact Nat.ne_of_gt (blk_lt (bk_ a.out)) : c ≠ g)); replace a := a_ (bq_ a.out hb); have G := a_ ((by rw [hg]; exact Nat.ne_of_lt (blk_lt (bk_ l.out)) : b ≠ c)); have I := a_ ((by rw [hg]; exact Nat.ne_of_gt (blk_lt (bk_ l.out)) : c ≠ b)); replace l := a_ (bq_ l.out hb); clear hb hbox hg; have ar := A.out; have au := B.out; have av := E.out; have aw := F.out; obtain ⟨_, _, _, _, _, _, _, _, _, _⟩ := cel5_ a.out) | ((with_reducible refine gate_callee (f := 84) rfl ?_); refine goesL_ (some 8) rfl rfl Tryz.func84 kr_ rfl #[.agg #[.int .i64 p, .slice v d.length c0_1, .int .i64 q, .int .i64 r, .int .i64 s], .func (.func 86) #[] #[.pointer (some ⟨b, 0, none⟩)]] rfl ar_ ?_; (with_reducible refine (dom_Dom_less_at_dom_Dom_Only_1.calls k p _ _ d q r s b Q n u x J P ad _ ?side1 ?side2 ?side3 ?side4 A3.out).mono ?_); (case side1 => exact ca_ ((cb_ U.out HB.out))); (case side2 => exact W.out); (case side3 => exact bk_ l.out); (case side4 => exact ca_ ((cb_ HRtab.out HB.out))); rintro e w10 ⟨ax, rfl, ac, hb⟩; refine ⟨_, rfl, ?_⟩; have O := a_ (Kd.V_lower (vm_ (ok' := fun o => (w.heap.size ≤ o) ∧ o ≠ g ∧ o ≠ b ∧ o ≠ c) ac (fun o hk_ => ⟨(Nat.le_trans (bz_ bel_) hk_), (Kd.freshB (bk_ a.out) o hk_), (Kd.freshB (bk_ l.out) o hk_), (Kd.freshB (bk_ m.out) o hk_)⟩)) (bz_ bel_)); replace m := a_ (bq_ m.out hb); replace HB := hq_ hb; clear hb ac; have ao := I.out; have ap := G.out; obtain ⟨_, _, _, _, _, _, _, _, _, _⟩ := cel5_ m.out; obtain ⟨y, z, ae⟩ := Kd.V_slice O.out; subst ae))
 refine bodyPost_ret (results_ct rfl _ _ c 58 #[.int .i64 n, .slice y u.length z, .int .i64 x, .int .i64 J, .int .i64 P] (0, 0) _ rfl (by refine bk_ ?_; refine bu_ (cs := #[.int .i64 n, .slice y u.length z, .int .i64 x, .int .i64 J, .int .i64 0]) ?_ 4 _ rfl; refine bk_ ?_; refine bu_ (cs := #[.int .i64 n, .slice y u.length z, .int .i64 x, .int .i64 0, .int .i64 0]) ?_ 3 _ rfl; refine bk_ ?_; refine bu_ (cs := #[.int .i64 n, .slice y u.length z, .int .i64 0, .int .i64 0, .int .i64 0]) ?_ 2 _ rfl; refine bk_ ?_; refine bu_ (cs := #[.int .i64 n, .slice none 0 0, .int .i64 0, .int .i64 0, .int .i64 0]) ?_ 1 _ rfl; refine bk_ ?_; refine bu_ (cs := #[.int .i64 0, .slice none 0 0, .int .i64 0, .int .i64 0, .int .i64 0]) ?_ 0 _ rfl; refine bk_ ?_; exact m.out) Tryz.underlying58 rfl kr_) rfl ?_
 exact ⟨_, er_, by refine vV_ ?_; exact vm_ (fV_ (fV_ (fV_ (fV_ (fV_ (vm_ O.out (fun o hk => (⟨hk, hk.2.2.2⟩ : _ ∧ o ≠ c)))))))) (fun _ hk => hk.1.1), bel_⟩

end Go.Proofs.YtijjhobjmehhoaaGreatDoor.XGccAll
