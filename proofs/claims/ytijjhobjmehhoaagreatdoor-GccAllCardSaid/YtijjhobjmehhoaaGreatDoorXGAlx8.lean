-- by xprint.py, a program of this session, over the kit's print
import Derived.Test.YtijjhobjmehhoaaGreatDoorXGAlx0
import Derived.Test.YtijjhobjmehhoaaGreatDoorXGAlx4
import Derived.Test.YtijjhobjmehhoaaGreatDoorXGAlx5
import Derived.Test.YtijjhobjmehhoaaGreatDoorXGAlx7
import Derived.Test.YtijjhobjmehhoaaGreatDoorSq
namespace Go.Proofs.YtijjhobjmehhoaaGreatDoor.XGccAll
open Go.RowKit Go.Proofs.YtijjhobjmehhoaaGreatDoor.Sq Go.Proofs.YtijjhobjmehhoaaGreatDoorW.PrintWords Go.Proofs.YtijjhobjmehhoaaGreatDoorW.PrintLast Go.Proofs.YtijjhobjmehhoaaGreatDoorW.PrintMore
attribute [local go_sem] max2_int min2_int max_two min_two max_three min_three max_four min_four   -- for this text's walks alone
set_option linter.unusedVariables false
set_option linter.unusedSimpArgs false

/-! ### dom_Dom_Without: function 59 -/
def dom_Dom_Without.f (k : Nat) (b : Int) (c : List Int) (d : Int) (e : Int) (g : Int) (l : Int) : Option (Int × List Int × Int × Int × Int × Int) := (dom_Dom_less_at_dom_Dom_Without_1.f k b c d e g l).bind fun a => (some (a.1, a.2.1, a.2.2.1, a.2.2.2.1, a.2.2.2.2.1, a.2.2.2.2.2))
theorem dom_Dom_Without.mono : ∀ a b c d e g k, LeO (dom_Dom_Without.f k a b c d e g) (dom_Dom_Without.f (k + 1) a b c d e g) := by
 intro a b c d e g k
 unfold dom_Dom_Without.f
 have m0 := @dom_Dom_less_at_dom_Dom_Without_1.mono
 exact leo_
set_option maxHeartbeats 8000000 in
set_option maxRecDepth 100000 in
theorem dom_Dom_Without.calls (k : Nat) (p : Int) (v : Option Addr) (c0_1 : Nat) (d : List Int) (q : Int) (r : Int) (s : Int) (Q : Int) (r1 : Int) (r2 : List Int) (r3 : Int) (r4 : Int) (r5 : Int) (r6 : Int) (w : World) (K : Kd.C (Kd.int .u64) w v d.length d) (M : d.length ≤ c0_1) (hrtab : Kd.C (Kd.int .u8) w (some ⟨0, 0, none⟩) tabL.length tabL) (h : dom_Dom_Without.f k p d q r s Q = some (r1, r2, r3, r4, r5, r6)) :
  Calls Tryz.prog 59 #[.agg #[.int .i64 p, .slice v d.length c0_1, .int .i64 q, .int .i64 r, .int .i64 s], .int .i64 Q] w fun e w' => ∃ aa : Value, e = .returned (.tuple #[.agg #[.int .i64 r1, aa, .int .i64 r3, .int .i64 r4, .int .i64 r5], .int .i64 r6]) ∧ Kd.V (Kd.int .u64) 84 w' w.heap.size (fun o => (w.heap.size ≤ o)) aa r2 ∧ Below w.heap.size w w' := by
 have hu58 := Tryz.underlying58
 have U := a_ K
 have W := a_ M
 clear K M
 have HRtab := a_ hrtab
 clear hrtab
 have HB := a_ (Below.refl w.heap.size w)
 unfold dom_Dom_Without.f at h
 have H := h
 clear h
 replace H := bs_.mp H
 obtain ⟨⟨n, u, x, J, P, ad⟩, ab, H⟩ := H
 try dsimp only at H
 have A3 := a_ ab
 clear ab
 simp only [Option.some.injEq, Prod.mk.injEq] at H
 obtain ⟨rfl, rfl, rfl, rfl, rfl, rfl⟩ := H
 go_enter Tryz.func59, Tryz.ntmps59
 go_wp2_with (first | ((with_reducible refine gate_dst (N := 2) rfl ?_); refine bxe_ (N := 2) (cs := #[.int .i64 p, .slice v d.length c0_1, .int .i64 q, .int .i64 r, .int .i64 s]) (t := 58) ?_; intro g hg w4 hbox hb; have a := a_ (hbox); have X := a_ (by rw [hg]; exact (bz_ bel_) : w.heap.size ≤ g); have al := X; replace HB := hq_ hb; clear hb hbox hg) | ((with_reducible refine gate_dst (N := 3) rfl ?_); refine bxe_ (N := 3) (cs := #[.int .i64 Q]) (t := 3) ?_; intro b hg w5 hbox hb; have l := a_ (hbox); have Y := a_ (by rw [hg]; exact (bz_ bel_) : w.heap.size ≤ b); have am := Y; replace HB := hq_ hb; have A := a_ ((by rw [hg]; exact Nat.ne_of_lt (blk_lt (bk_ a.out)) : g ≠ b)); have B := a_ ((by rw [hg]; exact Nat.ne_of_gt (blk_lt (bk_ a.out)) : b ≠ g)); replace a := a_ (bq_ a.out hb); clear hb hbox hg) | ((with_reducible refine gate_dst (N := 4) rfl ?_); refine bxe_ (N := 4) (cs := #[.int .i64 0, .slice none 0 0, .int .i64 0, .int .i64 0, .int .i64 0]) (t := 58) ?_; intro c hg w6 hbox hb; have m := a_ (hbox); have Z := a_ (by rw [hg]; exact (bz_ bel_) : w.heap.size ≤ c); have an := Z; replace HB := hq_ hb; have E := a_ ((by rw [hg]; exact Nat.ne_of_lt (blk_lt (bk_ a.out)) : g ≠ c)); have F := a_ ((by rw [hg]; exact Nat.ne_of_gt (blk_lt (bk_ a.out)) : c ≠ g)); replace a := a_ (bq_ a.out hb); have G := a_ ((by rw [hg]; exact Nat.ne_of_lt (blk_lt (bk_ l.out)) : b ≠ c)); have I := a_ ((by rw [hg]; exact Nat.ne_of_gt (blk_lt (bk_ l.out)) : c ≠ b)); replace l := a_ (bq_ l.out hb); clear hb hbox hg; have ar := A.out; have au := B.out; have av := E.out; have aw := F.out; obtain ⟨_, _, _, _, _, _, _, _, _, _⟩ := cel5_ a.out) | ((with_reducible refine gate_callee (f := 84) rfl ?_); refine goesL_ (some 8) rfl rfl Tryz.func84 kr_ rfl #[.agg #[.int .i64 p, .slice v d.length c0_1, .int .i64 q, .int .i64 r, .int .i64 s], .func (.func 85) #[] #[.pointer (some ⟨b, 0, none⟩)]] rfl ar_ ?_; (with_reducible refine (dom_Dom_less_at_dom_Dom_Without_1.calls k p _ _ d q r s b Q n u x J P ad _ ?side1 ?side2 ?side3 ?side4 A3.out).mono ?_); (case side1 => exact ca_ ((cb_ U.out HB.out))); (case side2 => exact W.out); (case side3 => exact bk_ l.out); (case side4 => exact ca_ ((cb_ HRtab.out HB.out))); rintro e w10 ⟨ax, rfl, ac, hb⟩; refine ⟨_, rfl, ?_⟩; have O := a_ (Kd.V_lower (vm_ (ok' := fun o => (w.heap.size ≤ o) ∧ o ≠ g ∧ o ≠ b ∧ o ≠ c) ac (fun o hk_ => ⟨(Nat.le_trans (bz_ bel_) hk_), (Kd.freshB (bk_ a.out) o hk_), (Kd.freshB (bk_ l.out) o hk_), (Kd.freshB (bk_ m.out) o hk_)⟩)) (bz_ bel_)); replace m := a_ (bq_ m.out hb); replace HB := hq_ hb; clear hb ac; have ao := I.out; have ap := G.out; obtain ⟨_, _, _, _, _, _, _, _, _, _⟩ := cel5_ m.out; obtain ⟨y, z, ae⟩ := Kd.V_slice O.out; subst ae))
 refine bodyPost_ret (results_ct rfl _ _ c 58 #[.int .i64 n, .slice y u.length z, .int .i64 x, .int .i64 J, .int .i64 P] (0, 0) _ rfl (by refine bk_ ?_; refine bu_ (cs := #[.int .i64 n, .slice y u.length z, .int .i64 x, .int .i64 J, .int .i64 0]) ?_ 4 _ rfl; refine bk_ ?_; refine bu_ (cs := #[.int .i64 n, .slice y u.length z, .int .i64 x, .int .i64 0, .int .i64 0]) ?_ 3 _ rfl; refine bk_ ?_; refine bu_ (cs := #[.int .i64 n, .slice y u.length z, .int .i64 0, .int .i64 0, .int .i64 0]) ?_ 2 _ rfl; refine bk_ ?_; refine bu_ (cs := #[.int .i64 n, .slice none 0 0, .int .i64 0, .int .i64 0, .int .i64 0]) ?_ 1 _ rfl; refine bk_ ?_; refine bu_ (cs := #[.int .i64 0, .slice none 0 0, .int .i64 0, .int .i64 0, .int .i64 0]) ?_ 0 _ rfl; refine bk_ ?_; exact m.out) Tryz.underlying58 rfl kr_) rfl ?_
 exact ⟨_, er_, by refine vV_ ?_; exact vm_ (fV_ (fV_ (fV_ (fV_ (fV_ (vm_ O.out (fun o hk => (⟨hk, hk.2.2.2⟩ : _ ∧ o ≠ c)))))))) (fun _ hk => hk.1.1), bel_⟩

/-! ### dom_Dom_Only_1: function 86 -/
def dom_Dom_Only_1.f (b : Int) (d : Int) (a : Int) : Option (Int) := (dom_place.f a).bind fun c => (if b = c then (if 0 ≤ (wrap64 (a - b)) then (some (shl .u64 1 (wrap64 (a - b)))) else (none)) else (some 0))
set_option maxHeartbeats 8000000 in
set_option maxRecDepth 100000 in
theorem dom_Dom_Only_1.calls (l : Int) (p : Int) (B2 : Nat) (b : Int) (r : Int) (w : World) (hbx2 : w.heap[B2]? = some (.cells #[.int .i64 b] 3 (0, 0))) (h : dom_Dom_Only_1.f l p b = some r) :
  Calls Tryz.prog 86 #[.int .i64 l, .int .u64 p, .pointer (some ⟨B2, 0, none⟩)] w fun e w' => e = .returned (.int .u64 r) ∧ Drawn0 w w' := by
 have BKc2 := a_ hbx2
 clear hbx2
 unfold dom_Dom_Only_1.f at h
 have H := h
 clear h
 replace H := bo_ H
 obtain ⟨c, n, H⟩ := H
 try dsimp only at H
 replace H := ef_ H
 rcases H with ⟨c5, c5b0, c5b1, H⟩ | ⟨-, c5b0, c5b1, H⟩
 ·
  obtain rfl := si_ H
  obtain ⟨_, _⟩ := cel1_ BKc2.out
  go_enter Tryz.func86, Tryz.ntmps86
  go_wp2_with (first | ((with_reducible refine gate_callee (f := 51) rfl ?_); refine goesL_ (some 8) rfl rfl Tryz.func51 kr_ rfl #[.int .i64 b] rfl ar_ ?_; (with_reducible refine (dom_place.calls b c _ n.out).mono ?_); rintro e w' ⟨rfl, ⟨nd, rfl⟩⟩; refine ⟨_, rfl, ?_⟩))
  go_ret
  exact ⟨by first | rfl | (simp; done) | (simp [*]; done), by repeat (first | exact d0_ _ | apply Drawn0.step)⟩
 obtain ⟨a, g⟩ : ∃ j_ : Int, (wrap64 (b - l)) = j_ := ⟨_, rfl⟩
 replace H : (if 0 ≤ (a) then (some (shl .u64 1 (a))) else (none)) = some r := by first | (rw [g] at H; exact H) | (simp only [g] at H ⊢; exact H)
 (try rw [g] at n)
 have hji6w : (IntKind.i64.wrap (b - l)) = a := (i64_w _).trans g
 replace H := ge_ H
 obtain ⟨c7b0, c7b1, H⟩ := H
 obtain ⟨m, d⟩ : ∃ j_ : Int, (shl .u64 1 (a)) = j_ := ⟨_, rfl⟩
 replace H : (some m) = some r := by first | (rw [d] at H; exact H) | (simp only [d] at H ⊢; exact H)
 (try rw [d] at n)
 have o : (IntKind.u64.wrap (1 * 2 ^ min (a).toNat 64)) = m := d
 have hji8z : (a) ≤ 64 → (IntKind.u64.wrap (1 * 2 ^ (a).toNat)) = m := shl_small d
 have hji8u : (IntKind.u64.wrap (2 ^ min (a).toNat 64)) = m := by have h_ := o; rw [Int.one_mul] at h_; exact h_
 have hji8v : (a) ≤ 64 → (IntKind.u64.wrap (2 ^ (a).toNat)) = m := fun hle_ => by have h_ := hji8z hle_; rw [Int.one_mul] at h_; exact h_
 obtain rfl := si_ H
 obtain ⟨_, _⟩ := cel1_ BKc2.out
 go_enter Tryz.func86, Tryz.ntmps86
 go_wp2_with (first | ((with_reducible refine gate_callee (f := 51) rfl ?_); refine goesL_ (some 8) rfl rfl Tryz.func51 kr_ rfl #[.int .i64 b] rfl ar_ ?_; (with_reducible refine (dom_place.calls b c _ n.out).mono ?_); rintro e w' ⟨rfl, ⟨nd, rfl⟩⟩; refine ⟨_, rfl, ?_⟩))
 go_ret
 exact ⟨by first | rfl | (simp; done) | (simp only [← g, ← d] <;> (first | rfl | simp)) | (simp [*]; done), by repeat (first | exact d0_ _ | apply Drawn0.step)⟩

end Go.Proofs.YtijjhobjmehhoaaGreatDoor.XGccAll
