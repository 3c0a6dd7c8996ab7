-- by xprint.py, a program of this session, over the kit's print
import Derived.Test.YtijjhobjmehhoaaGreatDoorXGAlx0
import Derived.Test.YtijjhobjmehhoaaGreatDoorXGAlx5
import Derived.Test.YtijjhobjmehhoaaGreatDoorXGAlx6
import Derived.Test.YtijjhobjmehhoaaGreatDoorSq
namespace Go.Proofs.YtijjhobjmehhoaaGreatDoor.XGccAll
open Go.RowKit Go.Proofs.YtijjhobjmehhoaaGreatDoor.Sq Go.Proofs.YtijjhobjmehhoaaGreatDoorW.PrintWords Go.Proofs.YtijjhobjmehhoaaGreatDoorW.PrintLast Go.Proofs.YtijjhobjmehhoaaGreatDoorW.PrintMore
attribute [local go_sem] max2_int min2_int max_two min_two max_three min_three max_four min_four   -- for this text's walks alone
set_option linter.unusedVariables false
set_option linter.unusedSimpArgs false

/-! ### dom_Dom_less_at_dom_Dom_Without_1: function 84 -/
def dom_Dom_less_at_dom_Dom_Without_1.l0 : Nat → List Int → Int → Int → Int → List Int → Int → Int → Int → Int → Option (Int × List Int × Int × Int × Int × Int)
 | 0, _, _, _, _, _, _, _, _, _ => none
 | k + 1, n, o, c, b, m, e, g, l, d => if c < o then (if 0 ≤ c then (if c < (n.length : Int) then ((dom_Dom_Without_1.f (wrap64 (b + (wrap64 (64 * c)))) (rd n c) d).bind fun p => (dom_Dom_less_at_dom_Dom_Without_1.l0 k (n.set (c : Int).toNat (Go.bits .and .u64 (rd n c) p)) o (wrap64 (c + 1)) b m e g l d)) else (none)) else (none)) else ((dom_made.f k b n).bind fun a => (if a.2.2.2.2 = l then (none) else (if a.2.2.2.2 = 0 then (none) else (if a.2.2.2.2 = 1 then (some (a.1, a.2.1, a.2.2.1, a.2.2.2.1, a.2.2.2.2, 3)) else (if a.2.2.1 = e then (if a.2.2.2.1 = g then (some (a.1, a.2.1, a.2.2.1, a.2.2.2.1, a.2.2.2.2, 1)) else (some (a.1, a.2.1, a.2.2.1, a.2.2.2.1, a.2.2.2.2, 2))) else (some (a.1, a.2.1, a.2.2.1, a.2.2.2.1, a.2.2.2.2, 2)))))))
def dom_Dom_less_at_dom_Dom_Without_1.f (k : Nat) (c : Int) (a : List Int) (d : Int) (e : Int) (g : Int)  (l : Int) : Option (Int × List Int × Int × Int × Int × Int) := (slices_CloneU64.f a).bind fun b => (dom_Dom_less_at_dom_Dom_Without_1.l0 k b (b.length : Int) 0 c a d e g l)
theorem dom_Dom_less_at_dom_Dom_Without_1.mono_l : ∀ k, (∀ a b c d e f g l m, LeO (dom_Dom_less_at_dom_Dom_Without_1.l0 k a b c d e f g l m) (dom_Dom_less_at_dom_Dom_Without_1.l0 (k + 1) a b c d e f g l m))
 | 0 => by intros; exact LeO.none _
 | k + 1 => by
  have ih0 := dom_Dom_less_at_dom_Dom_Without_1.mono_l k
  intro a b c d e f g l m
  unfold dom_Dom_less_at_dom_Dom_Without_1.l0
  have m0 := @dom_made.mono
  exact leo_
theorem dom_Dom_less_at_dom_Dom_Without_1.mono : ∀ a b c d e g k, LeO (dom_Dom_less_at_dom_Dom_Without_1.f k a b c d e g) (dom_Dom_less_at_dom_Dom_Without_1.f (k + 1) a b c d e g) := by
 intro a b c d e g k
 have ih0 := dom_Dom_less_at_dom_Dom_Without_1.mono_l k
 unfold dom_Dom_less_at_dom_Dom_Without_1.f
 have m0 := @dom_made.mono
 exact leo_
set_option maxHeartbeats 8000000 in
set_option maxRecDepth 100000 in
theorem dom_Dom_less_at_dom_Dom_Without_1.calls (k : Nat) (J : Int) (ai : Option Addr) (c0_1 : Nat) (Q : List Int) (U : Int) (W : Int) (ab : Int)  (B2 : Nat) (ag : Int) (r1 : Int) (r2 : List Int) (r3 : Int) (r4 : Int) (r5 : Int) (r6 : Int) (w : World) (ay : Kd.C (Kd.int .u64) w ai Q.length Q) (az : Q.length ≤ c0_1) (hbx2 : w.heap[B2]? = some (.cells #[.int .i64 ag] 3 (0, 0))) (hrtab : Kd.C (Kd.int .u8) w (some ⟨0, 0, none⟩) tabL.length tabL) (h : dom_Dom_less_at_dom_Dom_Without_1.f k J Q U W ab ag = some (r1, r2, r3, r4, r5, r6)) :
  Calls Tryz.prog 84 #[.agg #[.int .i64 J, .slice ai Q.length c0_1, .int .i64 U, .int .i64 W, .int .i64 ab], .func (.func 85) #[] #[.pointer (some ⟨B2, 0, none⟩)]] w fun e w' => ∃ aT : Value, e = .returned (.tuple #[.agg #[.int .i64 r1, aT, .int .i64 r3, .int .i64 r4, .int .i64 r5], .int .i64 r6]) ∧ Kd.V (Kd.int .u64) 84 w' w.heap.size (fun g => (w.heap.size ≤ g)) aT r2 ∧ Below w.heap.size w w' := by
 have hu58 := Tryz.underlying58
 have aN := a_ ay
 have aO := a_ az
 clear ay az
 have BKc2 := a_ hbx2
 clear hbx2
 have HRtab := a_ hrtab
 clear hrtab
 have HB := a_ (Below.refl w.heap.size w)
 unfold dom_Dom_less_at_dom_Dom_Without_1.f at h
 have H := h
 clear h
 replace H := bo_ H
 obtain ⟨af, A4, H⟩ := H
 try dsimp only at H
 have H' := a_ H
 clear H
 go_enter Tryz.func84, Tryz.ntmps84
 go_wp2_with (first | ((with_reducible refine gate_dst (N := 2) rfl ?_); refine bxe_ (N := 2) (cs := #[.int .i64 J, .slice ai Q.length c0_1, .int .i64 U, .int .i64 W, .int .i64 ab]) (t := 58) ?_; intro r hg w5 hbox hb; have a := a_ (hbox); have aP := a_ (by rw [hg]; exact (bz_ bel_) : w.heap.size ≤ r); have a4 := aP; replace HB := hq_ hb; have G := a_ ((by rw [hg]; exact Nat.ne_of_lt (blk_lt (bk_ BKc2.out)) : B2 ≠ r)); have I := a_ ((by rw [hg]; exact Nat.ne_of_gt (blk_lt (bk_ BKc2.out)) : r ≠ B2)); replace BKc2 := a_ (bq_ BKc2.out hb); clear hb hbox hg) | ((with_reducible refine gate_dst (N := 4) rfl ?_); refine bxe_ (N := 4) (cs := #[.int .i64 0, .slice none 0 0, .int .i64 0, .int .i64 0, .int .i64 0]) (t := 58) ?_; intro l hg w6 hbox hb; have b := a_ (hbox); have aQ := a_ (by rw [hg]; exact (bz_ bel_) : w.heap.size ≤ l); have a5 := aQ; replace HB := hq_ hb; have X := a_ ((by rw [hg]; exact Nat.ne_of_lt (blk_lt (bk_ BKc2.out)) : B2 ≠ l)); have Y := a_ ((by rw [hg]; exact Nat.ne_of_gt (blk_lt (bk_ BKc2.out)) : l ≠ B2)); replace BKc2 := a_ (bq_ BKc2.out hb); have K := a_ ((by rw [hg]; exact Nat.ne_of_lt (blk_lt (bk_ a.out)) : r ≠ l)); have O := a_ ((by rw [hg]; exact Nat.ne_of_gt (blk_lt (bk_ a.out)) : l ≠ r)); replace a := a_ (bq_ a.out hb); clear hb hbox hg; have b0 := I.out; have b1 := G.out; have b2 := K.out; have b3 := O.out; obtain ⟨_, _, _, _, _, _, _, _, _, _⟩ := cel5_ a.out) | ((with_reducible refine gate_callee (f := 104) rfl ?_); refine goesL_ (some 12) rfl rfl Tryz.func104 kr_ rfl #[.slice ai Q.length c0_1] rfl ar_ ?_; (with_reducible refine (slices_CloneU64.calls _ _ Q af _ ?_ ?_ A4.out).mono ?_); exact ca_ ((cb_ aN.out HB.out)); exact aO.out; rintro e w10 ⟨b4, rfl, aa, hb⟩; refine ⟨_, rfl, ?_⟩; have aA := a_ (Kd.R_lower (Kd.R_newM (M := fun g => (w.heap.size ≤ g)) aa (bz_ bel_) (fun g h_ => h_)) (bz_ bel_)); replace BKc2 := a_ (bq_ BKc2.out hb); replace a := a_ (bq_ a.out hb); replace b := a_ (bq_ b.out hb); replace HB := hq_ hb; clear hb aa; obtain ⟨ac, Z, aV⟩ := Kd.R_slice aA.out; subst aV))
 go_loopg [15] k (fun kq a1 w' => ∃ (o : List Int) (m : Int), a1 = .int .i64 m ∧ Aside0 (dom_Dom_less_at_dom_Dom_Without_1.l0 kq o (af.length : Int) m J Q U W ab ag = some (r1, r2, r3, r4, r5, r6)) ∧ Aside0 (kq ≤ k) ∧ Aside0 (Kd.R (Kd.int .u64) 84 w' w.heap.size (fun g => (w.heap.size ≤ g)) (.slice ac af.length Z) o) ∧ Aside0 (w'.heap[B2]? = some (.cells #[.int .i64 ag] 3 (0, 0))) ∧ Aside0 (w'.heap[r]? = some (.cells #[.int .i64 J, (.slice ai Q.length c0_1), .int .i64 U, .int .i64 W, .int .i64 ab] 58 (0, 0))) ∧ Aside0 (w'.heap[l]? = some (.cells #[.int .i64 0, (.slice none 0 0), .int .i64 0, .int .i64 0, .int .i64 0] 58 (0, 0))) ∧ Aside0 (Below w.heap.size w w'))
 case atStart => exact ⟨(af), (0), eq_, H', ⟨lr_ _⟩, ⟨by refine vR_ ?_; exact rm_ aA.out (fun _ hk => hk.1)⟩, ⟨bk_ BKc2.out⟩, ⟨bk_ a.out⟩, ⟨bk_ b.out⟩, ⟨bel_⟩⟩
 clear H'
 try clear c1
 try clear c2
 try clear p2
 try clear c7
 try clear c8
 try clear c9
 try clear c10
 obtain ⟨o, m, rfl, HA, aU, HO_6, BKc2, a, b, HB⟩ := hrel
 have P := (rr_ HO_6.out).1
 rw [P] at HO_6
 (try simp only [P])
 (try simp only [P] at BKc2)
 (try simp only [P] at a)
 (try simp only [P] at b)
 cases gk with
 | zero => exact absurd HA.out (by simp [dom_Dom_less_at_dom_Dom_Without_1.l0])
 | succ k1 =>
  have H := HA.out
  clear HA
  simp only [dom_Dom_less_at_dom_Dom_Without_1.l0] at H
  by_cases c12 : m < (af.length : Int)
  ·
   rw [ip_ c12] at H
   have c12b0 : decide (m < (af.length : Int)) = true := dt_ c12
   clear c12
   replace H := gu_ H
   obtain ⟨c13b0, H⟩ := H
   replace H := gu_ H
   obtain ⟨c14b0, H⟩ := H
   replace H := bo_ H
   obtain ⟨ar, a2, H⟩ := H
   try dsimp only at H
   obtain ⟨av, ah⟩ : ∃ y_ : List Int, y_ = (o.set (m : Int).toNat (Go.bits .and .u64 (rd o m) ar)) := ⟨_, rfl⟩
   replace H : (dom_Dom_less_at_dom_Dom_Without_1.l0 k1 av (af.length : Int) (wrap64 (m + 1)) J Q U W ab ag) = some (r1, r2, r3, r4, r5, r6) := h2_ H ah
   have aR := a_ ah
   clear ah
   have H' := a_ H
   clear H
   have p208 : 0 ≤ (m : Int) := dq_
   have aw : m < (o.length : Int) := dq_
   obtain ⟨aS, aW, aC⟩ := ai_ (rr_ HO_6.out).2.2 m p208 aw
   cases aW
   replace p208 := et_ p208
   replace aw := et_ aw
   have a6 := I.out
   have a7 := G.out
   have a8 := K.out
   have a9 := O.out
   obtain ⟨_, _, _, _, _, _, _, _, _, _⟩ := cel5_ a.out
   go_wp2_with (first | (go_at_call 85; (with_reducible refine (dom_Dom_Without_1.calls (wrap64 (J + (wrap64 (64 * m)))) (rd o m) B2 ag ar _ ?side1 a2.out).mono ?_); (case side1 => exact bk_ BKc2.out); rintro e w' ⟨rfl, ⟨nd, rfl⟩⟩; (try (rw [drewN_self wr]; generalize hq_ : World.drewN wr _ = wr; replace HO_6 : Aside0 (Kd.R (Kd.int .u64) 84 wr w.heap.size (fun g => (w.heap.size ≤ g)) (.slice (some aS) o.length Z) o) := ⟨by rw [← hq_]; exact (vR_ HO_6.out)⟩; replace a : Aside0 (wr.heap[r]? = some (.cells #[.int .i64 J, .slice ai Q.length c0_1, .int .i64 U, .int .i64 W, .int .i64 ab] 58 (0, 0))) := ⟨by rw [← hq_]; exact (bk_ a.out)⟩; replace b : Aside0 (wr.heap[l]? = some (.cells #[.int .i64 0, .slice none 0 0, .int .i64 0, .int .i64 0, .int .i64 0] 58 (0, 0))) := ⟨by rw [← hq_]; exact (bk_ b.out)⟩; replace BKc2 : Aside0 (wr.heap[B2]? = some (.cells #[.int .i64 ag] 3 (0, 0))) := ⟨by rw [← hq_]; exact (bk_ BKc2.out)⟩; replace HB : Aside0 (Below w.heap.size w wr) := ⟨by rw [← hq_]; exact bel_⟩; clear hq_)); (try (obtain ⟨_, _⟩ := cel1_ BKc2.out)); (try (obtain ⟨_, _, _, _, _, _, _, _, _, _⟩ := cel5_ a.out)); (try (obtain ⟨_, _, _, _, _, _, _, _, _, _⟩ := cel5_ b.out)); have p16 : 0 ≤ (m : Int) := dq_; have aD : (m : Int) < ((o.length : Int) : Int) := dq_; obtain ⟨go16, b5, aE, aF, gl16, cl16, HG16⟩ := Kd.R_form HO_6.out (by omega); (first | cases aE | (injection aE with ea_ en_ ec_; (first | subst ea_ | (injection ea_ with ea_; subst ea_)); subst ec_; clear en_)); have GB16 := a_ aF; have GG16 := a_ HG16; clear aF gl16 HG16; (first | simp only [add_plain] at aC | skip); obtain ⟨a3, hf16_0⟩ := Kd.R_celln 0 HO_6.out (m : Int) p16 aD; replace p16 := et_ p16; replace aD := et_ aD; obtain ⟨ba, hz23_⟩ := Kd.R_celln 0 HO_6.out (m : Int) (dq_) (dq_); have HP23 := Kd.R_putg HO_6.out (m : Int) (Go.bits .and .u64 (rd o m) ar)) | ((with_reducible refine gate_store (t := 84) (p := 32) rfl ?_); refine store_event (t := 84) (p := 32) (v := ?vo_w24) (w1 := (wr.setCell ⟨go16, (m : Int).toNat, none⟩ (.int .u64 (Go.bits .and .u64 (rd o m) ar)))) ?hg ?ho ?hn ?hr ?_; (case ho => rfl); (case hg => rfl); (case hn => rfl); (case hr => first | (go_simp; done) | (go_simp; rfl)); intro w24 hw; have hg : wr.grownBy w24 (some go16) := (by rw [hw]; exact HP23.2); have hp_ : Kd.R (Kd.int .u64) 84 w24 w.heap.size (fun g => (w.heap.size ≤ g)) (.slice (some ⟨go16, 0, none⟩) o.length Z) av := (by rw [hw, aR.out]; exact HP23.1); clear HP23; replace BKc2 := a_ (blk_grown (bk_ BKc2.out) hg (Kd.R_ne HO_6.out BKc2.out (by decide))); replace a := a_ (blk_grown (bk_ a.out) hg (Kd.R_ne HO_6.out a.out (by decide))); replace b := a_ (blk_grown (bk_ b.out) hg (Kd.R_ne HO_6.out b.out (by decide))); replace HO_6 := a_ (hp_); replace HB := a_ ((by rw [hw]; exact below_set (HB.out) GB16.out : Below w.heap.size w w24)); clear hg hw hp_))
   (try simp only [← P])
   go_roundg k1
   case measure => have := aU.out; omega
   exact ⟨(av), (wrap64 (m + 1)), eq_, H', ⟨by have := aU.out; omega⟩, ⟨by (try simp only [P]); refine vR_ ?_; exact HO_6.out⟩, ⟨by (try simp only [P]); refine bk_ ?_; exact BKc2.out⟩, ⟨by (try simp only [P]); refine bk_ ?_; exact a.out⟩, ⟨by (try simp only [P]); refine bk_ ?_; exact b.out⟩, ⟨bel_⟩⟩
  rw [ig_ c12] at H
  have c12b0 : decide (m < (af.length : Int)) = false := df_ c12
  (try (have c12b0q := c12b0; simp only [P] at c12b0q))
  clear c12
  replace H := bs_.mp H
  obtain ⟨⟨n, s, q, y, x⟩, aG, H⟩ := H
  try dsimp only at H
  have aB := a_ aG
  clear aG
  replace H := gz_ H
  obtain ⟨c26, c26b0, c26b1, H⟩ := H
  replace H := gz_ H
  obtain ⟨c27, c27b0, c27b1, H⟩ := H
  replace H := eg_ H
  rcases H with ⟨-, c28b0, c28b1, H⟩ | ⟨c28, c28b0, c28b1, H⟩
  ·
   simp only [Option.some.injEq, Prod.mk.injEq] at H
   obtain ⟨rfl, rfl, rfl, rfl, rfl, rfl⟩ := H
   have bb := I.out
   have bc := G.out
   have bd := K.out
   have be := O.out
   obtain ⟨_, _, _, _, _, _, _, _, _, _⟩ := cel5_ a.out
   go_wp2_with (first | ((with_reducible refine gate_callee (f := 66) rfl ?_); refine goesL_ (some 37) rfl rfl Tryz.func66 kr_ rfl #[.int .i64 J, .slice ac o.length Z] rfl ar_ ?_; (with_reducible refine (dom_made.calls k1 J (fun g => some g = (.slice ac o.length Z : Value).ownBlock) _ _ o n s q y x _ ?_ ?_ aB.out).mono ?_); exact Kd.R_V (Kd.R_tight rfl (rt_ (rt_ (rt_ (HO_6.out) BKc2.out (by decide)) a.out (by decide)) b.out (by decide))); exact ca_ ((cb_ HRtab.out HB.out)); rintro e w32 ⟨ax, rfl, aa, hb⟩; refine ⟨_, rfl, ?_⟩; have u := a_ (Kd.V_lower (vm_ (ok' := fun g => (w.heap.size ≤ g) ∧ g ≠ r ∧ g ≠ l) aa (fun g hk_ => ⟨Or.elim hk_ (fun hs_ => ((rt_ (rt_ (rt_ (HO_6.out) BKc2.out (by decide)) a.out (by decide)) b.out (by decide)).1 g hs_.symm).1.1.1) (fun hn_ => (Nat.le_trans (bz_ bel_) hn_)), Or.elim hk_ (fun hs_ => ((rt_ (rt_ (rt_ (HO_6.out) BKc2.out (by decide)) a.out (by decide)) b.out (by decide)).1 g hs_.symm).1.2) (fun hn_ => (Kd.freshB (bk_ a.out) g hn_)), Or.elim hk_ (fun hs_ => ((rt_ (rt_ (rt_ (HO_6.out) BKc2.out (by decide)) a.out (by decide)) b.out (by decide)).1 g hs_.symm).2) (fun hn_ => (Kd.freshB (bk_ b.out) g hn_))⟩)) (bz_ bel_)); replace HO_6 := a_ (rb_ (vR_ HO_6.out) hb); replace BKc2 := a_ (bq_ BKc2.out hb); replace a := a_ (bq_ a.out hb); replace b := a_ (bq_ b.out hb); replace HB := hq_ hb; clear hb aa) | ((with_reducible refine gate_dst (N := 9) rfl ?_); refine bxe_ (N := 9) (cs := #[.int .i64 0, .slice none 0 0, .int .i64 0, .int .i64 0, .int .i64 0]) (t := 58) ?_; intro d hg w33 hbox hb; replace HO_6 := a_ (rb_ (vR_ HO_6.out) hb); replace u := a_ (vb_ (Kd.V_elderB (vV_ u.out) d (Nat.le_of_eq hg.symm)) hb); have ad := a_ (hbox); have ae := a_ (by rw [hg]; exact (bz_ bel_) : w.heap.size ≤ d); have au := ae; replace HB := hq_ hb; have z := a_ ((by rw [hg]; exact Nat.ne_of_lt (blk_lt (bk_ BKc2.out)) : B2 ≠ d)); have A := a_ ((by rw [hg]; exact Nat.ne_of_gt (blk_lt (bk_ BKc2.out)) : d ≠ B2)); replace BKc2 := a_ (bq_ BKc2.out hb); have B := a_ ((by rw [hg]; exact Nat.ne_of_lt (blk_lt (bk_ a.out)) : r ≠ d)); have E := a_ ((by rw [hg]; exact Nat.ne_of_gt (blk_lt (bk_ a.out)) : d ≠ r)); replace a := a_ (bq_ a.out hb); have c := a_ ((by rw [hg]; exact Nat.ne_of_lt (blk_lt (bk_ b.out)) : l ≠ d)); have F := a_ ((by rw [hg]; exact Nat.ne_of_gt (blk_lt (bk_ b.out)) : d ≠ l)); replace b := a_ (bq_ b.out hb); clear hb hbox hg; have bf := A.out; have bg := z.out; have bh := E.out; have bi := B.out; have bj := F.out; have bk := c.out; obtain ⟨_, _, _, _, _, _, _, _, _, _⟩ := cel5_ ad.out; obtain ⟨aj, ak, aX⟩ := Kd.V_slice u.out; subst aX; obtain ⟨_, _, _, _, _, _, _, _, _, _⟩ := cel5_ a.out; have bl := Y.out; have bm := X.out; obtain ⟨_, _, _, _, _, _, _, _, _, _⟩ := cel5_ b.out))
   refine bodyPost_ret (results_ct rfl _ _ l 58 #[.int .i64 n, .slice aj s.length ak, .int .i64 q, .int .i64 y, .int .i64 x] (0, 0) _ rfl (by refine bk_ ?_; refine bu_ (cs := #[.int .i64 n, .slice aj s.length ak, .int .i64 q, .int .i64 y, .int .i64 0]) ?_ 4 _ rfl; refine bk_ ?_; refine bu_ (cs := #[.int .i64 n, .slice aj s.length ak, .int .i64 q, .int .i64 0, .int .i64 0]) ?_ 3 _ rfl; refine bk_ ?_; refine bu_ (cs := #[.int .i64 n, .slice aj s.length ak, .int .i64 0, .int .i64 0, .int .i64 0]) ?_ 2 _ rfl; refine bk_ ?_; refine bu_ (cs := #[.int .i64 n, .slice none 0 0, .int .i64 0, .int .i64 0, .int .i64 0]) ?_ 1 _ rfl; refine bk_ ?_; refine bu_ (cs := #[.int .i64 0, .slice none 0 0, .int .i64 0, .int .i64 0, .int .i64 0]) ?_ 0 _ rfl; refine bk_ ?_; refine blk_far ?_ c.out _; refine bk_ ?_; refine blk_far ?_ c.out _; refine bk_ ?_; refine blk_far ?_ c.out _; refine bk_ ?_; refine blk_far ?_ c.out _; refine bk_ ?_; refine blk_far ?_ c.out _; refine bk_ ?_; exact b.out) Tryz.underlying58 rfl kr_) rfl ?_
   exact ⟨_, er_, by refine vV_ ?_; exact vm_ (fV_ (fV_ (fV_ (fV_ (fV_ (Kd.V_far (Kd.V_far (Kd.V_far (Kd.V_far (Kd.V_far (vm_ (vm_ u.out (fun g hk => (⟨hk, hk.2⟩ : _ ∧ g ≠ d))) (fun g hk => (⟨hk, hk.1.1.2.2⟩ : _ ∧ g ≠ l))) (fun _ hk => hk.1.2) (.int .i64 n)) (fun _ hk => hk.1.2) (.slice aj s.length ak)) (fun _ hk => hk.1.2) (.int .i64 q)) (fun _ hk => hk.1.2) (.int .i64 y)) (fun _ hk => hk.1.2) (.int .i64 x))))))) (fun _ hk => hk.1.1.1.1), bel_⟩
  replace H := ef_ H
  rcases H with ⟨c42, c42b0, c42b1, H⟩ | ⟨-, c42b0, c42b1, H⟩
  ·
   simp only [Option.some.injEq, Prod.mk.injEq] at H
   obtain ⟨rfl, rfl, rfl, rfl, rfl, rfl⟩ := H
   have bN := I.out
   have bO := G.out
   have bP := K.out
   have bQ := O.out
   obtain ⟨_, _, _, _, _, _, _, _, _, _⟩ := cel5_ a.out
   go_wp2_with (first | ((with_reducible refine gate_callee (f := 66) rfl ?_); refine goesL_ (some 37) rfl rfl Tryz.func66 kr_ rfl #[.int .i64 J, .slice ac o.length Z] rfl ar_ ?_; (with_reducible refine (dom_made.calls k1 J (fun g => some g = (.slice ac o.length Z : Value).ownBlock) _ _ o n s q y x _ ?_ ?_ aB.out).mono ?_); exact Kd.R_V (Kd.R_tight rfl (rt_ (rt_ (rt_ (HO_6.out) BKc2.out (by decide)) a.out (by decide)) b.out (by decide))); exact ca_ ((cb_ HRtab.out HB.out)); rintro e w73 ⟨ax, rfl, aa, hb⟩; refine ⟨_, rfl, ?_⟩; have u := a_ (Kd.V_lower (vm_ (ok' := fun g => (w.heap.size ≤ g) ∧ g ≠ r ∧ g ≠ l) aa (fun g hk_ => ⟨Or.elim hk_ (fun hs_ => ((rt_ (rt_ (rt_ (HO_6.out) BKc2.out (by decide)) a.out (by decide)) b.out (by decide)).1 g hs_.symm).1.1.1) (fun hn_ => (Nat.le_trans (bz_ bel_) hn_)), Or.elim hk_ (fun hs_ => ((rt_ (rt_ (rt_ (HO_6.out) BKc2.out (by decide)) a.out (by decide)) b.out (by decide)).1 g hs_.symm).1.2) (fun hn_ => (Kd.freshB (bk_ a.out) g hn_)), Or.elim hk_ (fun hs_ => ((rt_ (rt_ (rt_ (HO_6.out) BKc2.out (by decide)) a.out (by decide)) b.out (by decide)).1 g hs_.symm).2) (fun hn_ => (Kd.freshB (bk_ b.out) g hn_))⟩)) (bz_ bel_)); replace BKc2 := a_ (bq_ BKc2.out hb); replace a := a_ (bq_ a.out hb); replace b := a_ (bq_ b.out hb); replace HB := hq_ hb; clear hb aa) | ((with_reducible refine gate_dst (N := 9) rfl ?_); refine bxe_ (N := 9) (cs := #[.int .i64 0, .slice none 0 0, .int .i64 0, .int .i64 0, .int .i64 0]) (t := 58) ?_; intro d hg w74 hbox hb; replace u := a_ (vb_ (Kd.V_elderB (vV_ u.out) d (Nat.le_of_eq hg.symm)) hb); have ad := a_ (hbox); have ae := a_ (by rw [hg]; exact (bz_ bel_) : w.heap.size ≤ d); have au := ae; replace HB := hq_ hb; have z := a_ ((by rw [hg]; exact Nat.ne_of_lt (blk_lt (bk_ BKc2.out)) : B2 ≠ d)); have A := a_ ((by rw [hg]; exact Nat.ne_of_gt (blk_lt (bk_ BKc2.out)) : d ≠ B2)); have B := a_ ((by rw [hg]; exact Nat.ne_of_lt (blk_lt (bk_ a.out)) : r ≠ d)); have E := a_ ((by rw [hg]; exact Nat.ne_of_gt (blk_lt (bk_ a.out)) : d ≠ r)); replace a := a_ (bq_ a.out hb); have c := a_ ((by rw [hg]; exact Nat.ne_of_lt (blk_lt (bk_ b.out)) : l ≠ d)); have F := a_ ((by rw [hg]; exact Nat.ne_of_gt (blk_lt (bk_ b.out)) : d ≠ l)); replace b := a_ (bq_ b.out hb); clear hb hbox hg; have bR := A.out; have bS := z.out; have bT := E.out; have bU := B.out; have bV := F.out; have bW := c.out; obtain ⟨_, _, _, _, _, _, _, _, _, _⟩ := cel5_ ad.out; obtain ⟨ap, aq, a0⟩ := Kd.V_slice u.out; subst a0; obtain ⟨_, _, _, _, _, _, _, _, _, _⟩ := cel5_ a.out; have bX := Y.out; have bY := X.out; obtain ⟨_, _, _, _, _, _, _, _, _, _⟩ := cel5_ b.out))
   refine bodyPost_ret (results_ct rfl _ _ l 58 #[.int .i64 n, .slice ap s.length aq, .int .i64 q, .int .i64 y, .int .i64 x] (0, 0) _ rfl (by refine bk_ ?_; refine bu_ (cs := #[.int .i64 n, .slice ap s.length aq, .int .i64 q, .int .i64 y, .int .i64 0]) ?_ 4 _ rfl; refine bk_ ?_; refine bu_ (cs := #[.int .i64 n, .slice ap s.length aq, .int .i64 q, .int .i64 0, .int .i64 0]) ?_ 3 _ rfl; refine bk_ ?_; refine bu_ (cs := #[.int .i64 n, .slice ap s.length aq, .int .i64 0, .int .i64 0, .int .i64 0]) ?_ 2 _ rfl; refine bk_ ?_; refine bu_ (cs := #[.int .i64 n, .slice none 0 0, .int .i64 0, .int .i64 0, .int .i64 0]) ?_ 1 _ rfl; refine bk_ ?_; refine bu_ (cs := #[.int .i64 0, .slice none 0 0, .int .i64 0, .int .i64 0, .int .i64 0]) ?_ 0 _ rfl; refine bk_ ?_; refine blk_far ?_ c.out _; refine bk_ ?_; refine blk_far ?_ c.out _; refine bk_ ?_; refine blk_far ?_ c.out _; refine bk_ ?_; refine blk_far ?_ c.out _; refine bk_ ?_; refine blk_far ?_ c.out _; refine bk_ ?_; exact b.out) Tryz.underlying58 rfl kr_) rfl ?_
   exact ⟨_, er_, by refine vV_ ?_; exact vm_ (fV_ (fV_ (fV_ (fV_ (fV_ (Kd.V_far (Kd.V_far (Kd.V_far (Kd.V_far (Kd.V_far (vm_ (vm_ u.out (fun g hk => (⟨hk, hk.2⟩ : _ ∧ g ≠ d))) (fun g hk => (⟨hk, hk.1.1.2.2⟩ : _ ∧ g ≠ l))) (fun _ hk => hk.1.2) (.int .i64 n)) (fun _ hk => hk.1.2) (.slice ap s.length aq)) (fun _ hk => hk.1.2) (.int .i64 q)) (fun _ hk => hk.1.2) (.int .i64 y)) (fun _ hk => hk.1.2) (.int .i64 x))))))) (fun _ hk => hk.1.1.1.1), bel_⟩
  replace H := ef_ H
  rcases H with ⟨c43, c43b0, c43b1, H⟩ | ⟨-, c43b0, c43b1, H⟩
  ·
   simp only [Option.some.injEq, Prod.mk.injEq] at H
   obtain ⟨rfl, rfl, rfl, rfl, rfl, rfl⟩ := H
   have bB := I.out
   have bC := G.out
   have bD := K.out
   have bE := O.out
   obtain ⟨_, _, _, _, _, _, _, _, _, _⟩ := cel5_ a.out
   go_wp2_with (first | ((with_reducible refine gate_callee (f := 66) rfl ?_); refine goesL_ (some 37) rfl rfl Tryz.func66 kr_ rfl #[.int .i64 J, .slice ac o.length Z] rfl ar_ ?_; (with_reducible refine (dom_made.calls k1 J (fun g => some g = (.slice ac o.length Z : Value).ownBlock) _ _ o n s q y x _ ?_ ?_ aB.out).mono ?_); exact Kd.R_V (Kd.R_tight rfl (rt_ (rt_ (rt_ (HO_6.out) BKc2.out (by decide)) a.out (by decide)) b.out (by decide))); exact ca_ ((cb_ HRtab.out HB.out)); rintro e w60 ⟨ax, rfl, aa, hb⟩; refine ⟨_, rfl, ?_⟩; have u := a_ (Kd.V_lower (vm_ (ok' := fun g => (w.heap.size ≤ g) ∧ g ≠ r ∧ g ≠ l) aa (fun g hk_ => ⟨Or.elim hk_ (fun hs_ => ((rt_ (rt_ (rt_ (HO_6.out) BKc2.out (by decide)) a.out (by decide)) b.out (by decide)).1 g hs_.symm).1.1.1) (fun hn_ => (Nat.le_trans (bz_ bel_) hn_)), Or.elim hk_ (fun hs_ => ((rt_ (rt_ (rt_ (HO_6.out) BKc2.out (by decide)) a.out (by decide)) b.out (by decide)).1 g hs_.symm).1.2) (fun hn_ => (Kd.freshB (bk_ a.out) g hn_)), Or.elim hk_ (fun hs_ => ((rt_ (rt_ (rt_ (HO_6.out) BKc2.out (by decide)) a.out (by decide)) b.out (by decide)).1 g hs_.symm).2) (fun hn_ => (Kd.freshB (bk_ b.out) g hn_))⟩)) (bz_ bel_)); replace BKc2 := a_ (bq_ BKc2.out hb); replace a := a_ (bq_ a.out hb); replace b := a_ (bq_ b.out hb); replace HB := hq_ hb; clear hb aa) | ((with_reducible refine gate_dst (N := 9) rfl ?_); refine bxe_ (N := 9) (cs := #[.int .i64 0, .slice none 0 0, .int .i64 0, .int .i64 0, .int .i64 0]) (t := 58) ?_; intro d hg w61 hbox hb; replace u := a_ (vb_ (Kd.V_elderB (vV_ u.out) d (Nat.le_of_eq hg.symm)) hb); have ad := a_ (hbox); have ae := a_ (by rw [hg]; exact (bz_ bel_) : w.heap.size ≤ d); have au := ae; replace HB := hq_ hb; have z := a_ ((by rw [hg]; exact Nat.ne_of_lt (blk_lt (bk_ BKc2.out)) : B2 ≠ d)); have A := a_ ((by rw [hg]; exact Nat.ne_of_gt (blk_lt (bk_ BKc2.out)) : d ≠ B2)); have B := a_ ((by rw [hg]; exact Nat.ne_of_lt (blk_lt (bk_ a.out)) : r ≠ d)); have E := a_ ((by rw [hg]; exact Nat.ne_of_gt (blk_lt (bk_ a.out)) : d ≠ r)); replace a := a_ (bq_ a.out hb); have c := a_ ((by rw [hg]; exact Nat.ne_of_lt (blk_lt (bk_ b.out)) : l ≠ d)); have F := a_ ((by rw [hg]; exact Nat.ne_of_gt (blk_lt (bk_ b.out)) : d ≠ l)); replace b := a_ (bq_ b.out hb); clear hb hbox hg; have bF := A.out; have bG := z.out; have bH := E.out; have bI := B.out; have bJ := F.out; have bK := c.out; obtain ⟨_, _, _, _, _, _, _, _, _, _⟩ := cel5_ ad.out; obtain ⟨an, ao, aZ⟩ := Kd.V_slice u.out; subst aZ; obtain ⟨_, _, _, _, _, _, _, _, _, _⟩ := cel5_ a.out; have bL := Y.out; have bM := X.out; obtain ⟨_, _, _, _, _, _, _, _, _, _⟩ := cel5_ b.out))
   refine bodyPost_ret (results_ct rfl _ _ l 58 #[.int .i64 n, .slice an s.length ao, .int .i64 q, .int .i64 y, .int .i64 x] (0, 0) _ rfl (by refine bk_ ?_; refine bu_ (cs := #[.int .i64 n, .slice an s.length ao, .int .i64 q, .int .i64 y, .int .i64 0]) ?_ 4 _ rfl; refine bk_ ?_; refine bu_ (cs := #[.int .i64 n, .slice an s.length ao, .int .i64 q, .int .i64 0, .int .i64 0]) ?_ 3 _ rfl; refine bk_ ?_; refine bu_ (cs := #[.int .i64 n, .slice an s.length ao, .int .i64 0, .int .i64 0, .int .i64 0]) ?_ 2 _ rfl; refine bk_ ?_; refine bu_ (cs := #[.int .i64 n, .slice none 0 0, .int .i64 0, .int .i64 0, .int .i64 0]) ?_ 1 _ rfl; refine bk_ ?_; refine bu_ (cs := #[.int .i64 0, .slice none 0 0, .int .i64 0, .int .i64 0, .int .i64 0]) ?_ 0 _ rfl; refine bk_ ?_; refine blk_far ?_ c.out _; refine bk_ ?_; refine blk_far ?_ c.out _; refine bk_ ?_; refine blk_far ?_ c.out _; refine bk_ ?_; refine blk_far ?_ c.out _; refine bk_ ?_; refine blk_far ?_ c.out _; refine bk_ ?_; exact b.out) Tryz.underlying58 rfl kr_) rfl ?_
   exact ⟨_, er_, by refine vV_ ?_; exact vm_ (fV_ (fV_ (fV_ (fV_ (fV_ (Kd.V_far (Kd.V_far (Kd.V_far (Kd.V_far (Kd.V_far (vm_ (vm_ u.out (fun g hk => (⟨hk, hk.2⟩ : _ ∧ g ≠ d))) (fun g hk => (⟨hk, hk.1.1.2.2⟩ : _ ∧ g ≠ l))) (fun _ hk => hk.1.2) (.int .i64 n)) (fun _ hk => hk.1.2) (.slice an s.length ao)) (fun _ hk => hk.1.2) (.int .i64 q)) (fun _ hk => hk.1.2) (.int .i64 y)) (fun _ hk => hk.1.2) (.int .i64 x))))))) (fun _ hk => hk.1.1.1.1), bel_⟩
  simp only [Option.some.injEq, Prod.mk.injEq] at H
  obtain ⟨rfl, rfl, rfl, rfl, rfl, rfl⟩ := H
  have bn := I.out
  have bo := G.out
  have bp := K.out
  have bq := O.out
  obtain ⟨_, _, _, _, _, _, _, _, _, _⟩ := cel5_ a.out
  go_wp2_with (first | ((with_reducible refine gate_callee (f := 66) rfl ?_); refine goesL_ (some 37) rfl rfl Tryz.func66 kr_ rfl #[.int .i64 J, .slice ac o.length Z] rfl ar_ ?_; (with_reducible refine (dom_made.calls k1 J (fun g => some g = (.slice ac o.length Z : Value).ownBlock) _ _ o n s q y x _ ?_ ?_ aB.out).mono ?_); exact Kd.R_V (Kd.R_tight rfl (rt_ (rt_ (rt_ (HO_6.out) BKc2.out (by decide)) a.out (by decide)) b.out (by decide))); exact ca_ ((cb_ HRtab.out HB.out)); rintro e w47 ⟨ax, rfl, aa, hb⟩; refine ⟨_, rfl, ?_⟩; have u := a_ (Kd.V_lower (vm_ (ok' := fun g => (w.heap.size ≤ g) ∧ g ≠ r ∧ g ≠ l) aa (fun g hk_ => ⟨Or.elim hk_ (fun hs_ => ((rt_ (rt_ (rt_ (HO_6.out) BKc2.out (by decide)) a.out (by decide)) b.out (by decide)).1 g hs_.symm).1.1.1) (fun hn_ => (Nat.le_trans (bz_ bel_) hn_)), Or.elim hk_ (fun hs_ => ((rt_ (rt_ (rt_ (HO_6.out) BKc2.out (by decide)) a.out (by decide)) b.out (by decide)).1 g hs_.symm).1.2) (fun hn_ => (Kd.freshB (bk_ a.out) g hn_)), Or.elim hk_ (fun hs_ => ((rt_ (rt_ (rt_ (HO_6.out) BKc2.out (by decide)) a.out (by decide)) b.out (by decide)).1 g hs_.symm).2) (fun hn_ => (Kd.freshB (bk_ b.out) g hn_))⟩)) (bz_ bel_)); replace HO_6 := a_ (rb_ (vR_ HO_6.out) hb); replace BKc2 := a_ (bq_ BKc2.out hb); replace a := a_ (bq_ a.out hb); replace b := a_ (bq_ b.out hb); replace HB := hq_ hb; clear hb aa) | ((with_reducible refine gate_dst (N := 9) rfl ?_); refine bxe_ (N := 9) (cs := #[.int .i64 0, .slice none 0 0, .int .i64 0, .int .i64 0, .int .i64 0]) (t := 58) ?_; intro d hg w48 hbox hb; replace HO_6 := a_ (rb_ (vR_ HO_6.out) hb); replace u := a_ (vb_ (Kd.V_elderB (vV_ u.out) d (Nat.le_of_eq hg.symm)) hb); have ad := a_ (hbox); have ae := a_ (by rw [hg]; exact (bz_ bel_) : w.heap.size ≤ d); have au := ae; replace HB := hq_ hb; have z := a_ ((by rw [hg]; exact Nat.ne_of_lt (blk_lt (bk_ BKc2.out)) : B2 ≠ d)); have A := a_ ((by rw [hg]; exact Nat.ne_of_gt (blk_lt (bk_ BKc2.out)) : d ≠ B2)); replace BKc2 := a_ (bq_ BKc2.out hb); have B := a_ ((by rw [hg]; exact Nat.ne_of_lt (blk_lt (bk_ a.out)) : r ≠ d)); have E := a_ ((by rw [hg]; exact Nat.ne_of_gt (blk_lt (bk_ a.out)) : d ≠ r)); replace a := a_ (bq_ a.out hb); have c := a_ ((by rw [hg]; exact Nat.ne_of_lt (blk_lt (bk_ b.out)) : l ≠ d)); have F := a_ ((by rw [hg]; exact Nat.ne_of_gt (blk_lt (bk_ b.out)) : d ≠ l)); replace b := a_ (bq_ b.out hb); clear hb hbox hg; have br := A.out; have bs := z.out; have bu := E.out; have bv := B.out; have bw := F.out; have bx := c.out; obtain ⟨_, _, _, _, _, _, _, _, _, _⟩ := cel5_ ad.out; obtain ⟨al, am, aY⟩ := Kd.V_slice u.out; subst aY; obtain ⟨_, _, _, _, _, _, _, _, _, _⟩ := cel5_ a.out; have bz := Y.out; have bA := X.out; obtain ⟨_, _, _, _, _, _, _, _, _, _⟩ := cel5_ b.out))
  refine bodyPost_ret (results_ct rfl _ _ l 58 #[.int .i64 n, .slice al s.length am, .int .i64 q, .int .i64 y, .int .i64 x] (0, 0) _ rfl (by refine bk_ ?_; refine bu_ (cs := #[.int .i64 n, .slice al s.length am, .int .i64 q, .int .i64 y, .int .i64 0]) ?_ 4 _ rfl; refine bk_ ?_; refine bu_ (cs := #[.int .i64 n, .slice al s.length am, .int .i64 q, .int .i64 0, .int .i64 0]) ?_ 3 _ rfl; refine bk_ ?_; refine bu_ (cs := #[.int .i64 n, .slice al s.length am, .int .i64 0, .int .i64 0, .int .i64 0]) ?_ 2 _ rfl; refine bk_ ?_; refine bu_ (cs := #[.int .i64 n, .slice none 0 0, .int .i64 0, .int .i64 0, .int .i64 0]) ?_ 1 _ rfl; refine bk_ ?_; refine bu_ (cs := #[.int .i64 0, .slice none 0 0, .int .i64 0, .int .i64 0, .int .i64 0]) ?_ 0 _ rfl; refine bk_ ?_; refine blk_far ?_ c.out _; refine bk_ ?_; refine blk_far ?_ c.out _; refine bk_ ?_; refine blk_far ?_ c.out _; refine bk_ ?_; refine blk_far ?_ c.out _; refine bk_ ?_; refine blk_far ?_ c.out _; refine bk_ ?_; exact b.out) Tryz.underlying58 rfl kr_) rfl ?_
  exact ⟨_, er_, by refine vV_ ?_; exact vm_ (fV_ (fV_ (fV_ (fV_ (fV_ (Kd.V_far (Kd.V_far (Kd.V_far (Kd.V_far (Kd.V_far (vm_ (vm_ u.out (fun g hk => (⟨hk, hk.2⟩ : _ ∧ g ≠ d))) (fun g hk => (⟨hk, hk.1.1.2.2⟩ : _ ∧ g ≠ l))) (fun _ hk => hk.1.2) (.int .i64 n)) (fun _ hk => hk.1.2) (.slice al s.length am)) (fun _ hk => hk.1.2) (.int .i64 q)) (fun _ hk => hk.1.2) (.int .i64 y)) (fun _ hk => hk.1.2) (.int .i64 x))))))) (fun _ hk => hk.1.1.1.1), bel_⟩

end Go.Proofs.YtijjhobjmehhoaaGreatDoor.XGccAll
