-- by xprint.py, a program of this session, over the kit's print
import Derived.Test.YtmhchlbbfpmdgaaGreatDoorXCRex0
import Derived.Test.YtmhchlbbfpmdgaaGreatDoorXCRex10
import Derived.Test.YtmhchlbbfpmdgaaGreatDoorXCRex11
import Derived.Test.YtmhchlbbfpmdgaaGreatDoorSq
namespace Go.Proofs.YtmhchlbbfpmdgaaGreatDoor.XClauseRefuses
open Go.RowKit Go.Proofs.YtmhchlbbfpmdgaaGreatDoor.Sq Go.Proofs.YtmhchlbbfpmdgaaGreatDoorW.PrintWords Go.Proofs.YtmhchlbbfpmdgaaGreatDoorW.PrintLast Go.Proofs.YtmhchlbbfpmdgaaGreatDoorW.PrintMore
attribute [local go_sem] max2_int min2_int max_two min_two max_three min_three max_four min_four   -- for this text's walks alone
set_option linter.unusedVariables false
set_option linter.unusedSimpArgs false

/-! ### dom_Dom_less_at_dom_Dom_Only_1: function 58 -/
def dom_Dom_less_at_dom_Dom_Only_1.l0 : Nat → List Int → Int → Int → Int → List Int → Int → Int → Int → Int → Option (Int × List Int × Int × Int × Int × Int)
 | 0, _, _, _, _, _, _, _, _, _ => none
 | k + 1, n, o, d, b, g, l, m, c, e => if d < o then (if 0 ≤ d then (if d < (n.length : Int) then ((dom_Dom_Only_1.f (wrap64 (b + (wrap64 (64 * d)))) (rd n d) e).bind fun p => (dom_Dom_less_at_dom_Dom_Only_1.l0 k (n.set (d : Int).toNat (Go.bits .and .u64 (rd n d) p)) o (wrap64 (d + 1)) b g l m c e)) else (none)) else (none)) else ((dom_made.f k b n).bind fun a => (if a.2.2.2.2 = c then (some (b, g, l, m, c, 0)) else (if a.2.2.2.2 = 0 then (none) else (if a.2.2.2.2 = 1 then (some (a.1, a.2.1, a.2.2.1, a.2.2.2.1, a.2.2.2.2, 3)) else (none)))))
def dom_Dom_less_at_dom_Dom_Only_1.f (k : Nat) (c : Int) (a : List Int) (d : Int) (e : Int) (g : Int)  (l : Int) : Option (Int × List Int × Int × Int × Int × Int) := (slices_CloneU64.f a).bind fun b => (dom_Dom_less_at_dom_Dom_Only_1.l0 k b (b.length : Int) 0 c a d e g l)
theorem dom_Dom_less_at_dom_Dom_Only_1.mono_l : ∀ k, (∀ a b c d e f g l m, LeO (dom_Dom_less_at_dom_Dom_Only_1.l0 k a b c d e f g l m) (dom_Dom_less_at_dom_Dom_Only_1.l0 (k + 1) a b c d e f g l m))
 | 0 => by intros; exact LeO.none _
 | k + 1 => by
  have ih0 := dom_Dom_less_at_dom_Dom_Only_1.mono_l k
  intro a b c d e f g l m
  unfold dom_Dom_less_at_dom_Dom_Only_1.l0
  have m0 := @dom_made.mono
  exact leo_
theorem dom_Dom_less_at_dom_Dom_Only_1.mono : ∀ a b c d e g k, LeO (dom_Dom_less_at_dom_Dom_Only_1.f k a b c d e g) (dom_Dom_less_at_dom_Dom_Only_1.f (k + 1) a b c d e g) := by
 intro a b c d e g k
 have ih0 := dom_Dom_less_at_dom_Dom_Only_1.mono_l k
 unfold dom_Dom_less_at_dom_Dom_Only_1.f
 have m0 := @dom_made.mono
 exact leo_
set_option maxHeartbeats 8000000 in
set_option maxRecDepth 100000 in
theorem dom_Dom_less_at_dom_Dom_Only_1.calls (k : Nat) (r : Int) (P0_1_ : Nat → Prop) (x : Option Addr) (c0_1 : Nat) (q : List Int) (J : Int) (K : Int) (y : Int)  (B2 : Nat) (aa : Int) (r1 : Int) (r2 : List Int) (r3 : Int) (r4 : Int) (r5 : Int) (r6 : Int) (w : World) (aE : Kd.V (Kd.int .u64) 80 w w.heap.size (fun d => P0_1_ d) (.slice x q.length c0_1) q) (hbx2 : w.heap[B2]? = some (.cells #[.int .i64 aa] 3 (0, 0))) (hrtab : Kd.C (Kd.int .u8) w (some ⟨0, 0, none⟩) tabL.length tabL) (h : dom_Dom_less_at_dom_Dom_Only_1.f k r q J K y aa = some (r1, r2, r3, r4, r5, r6)) :
  Calls Tryz.prog 58 #[.agg #[.int .i64 r, .slice x q.length c0_1, .int .i64 J, .int .i64 K, .int .i64 y], .func (.func 59) #[] #[.pointer (some ⟨B2, 0, none⟩)]] w fun e w' => ∃ aJ : Value, e = .returned (.tuple #[.agg #[.int .i64 r1, aJ, .int .i64 r3, .int .i64 r4, .int .i64 r5], .int .i64 r6]) ∧ Kd.V (Kd.int .u64) 80 w' w.heap.size (fun d => (P0_1_ d ∨ w.heap.size ≤ d)) aJ r2 ∧ Below w.heap.size w w' := by
 have hu58 := Tryz.underlying58
 have z := a_ (show Kd.V (Kd.int .u64) 80 w w.heap.size (fun d => (P0_1_ d ∨ w.heap.size ≤ d)) (.slice x q.length c0_1) q from vm_ aE (fun d hk => .inl hk))
 have BKc2 := a_ hbx2
 clear hbx2
 have HRtab := a_ hrtab
 clear hrtab
 have HB := a_ (Below.refl w.heap.size w)
 unfold dom_Dom_less_at_dom_Dom_Only_1.f at h
 have H := h
 clear h
 replace H := bo_ H
 obtain ⟨O, A4, H⟩ := H
 try dsimp only at H
 have H' := a_ H
 clear H
 go_enter Tryz.func58, Tryz.ntmps58
 go_wp2_with (first | ((with_reducible refine gate_dst (N := 2) rfl ?_); refine bxe_ (N := 2) (cs := #[.int .i64 r, .slice x q.length c0_1, .int .i64 J, .int .i64 K, .int .i64 y]) (t := 58) ?_; intro o hg w5 hbox hb; replace z := a_ (vb_ (Kd.V_elderB (vV_ z.out) o (Nat.le_of_eq hg.symm)) hb); have a := a_ (hbox); have aF := a_ (by rw [hg]; exact (bz_ bel_) : w.heap.size ≤ o); have aW := aF; replace HB := hq_ hb; have A := a_ ((by rw [hg]; exact Nat.ne_of_lt (blk_lt (bk_ BKc2.out)) : B2 ≠ o)); have B := a_ ((by rw [hg]; exact Nat.ne_of_gt (blk_lt (bk_ BKc2.out)) : o ≠ B2)); replace BKc2 := a_ (bq_ BKc2.out hb); clear hb hbox hg) | ((with_reducible refine gate_dst (N := 4) rfl ?_); refine bxe_ (N := 4) (cs := #[.int .i64 0, .slice none 0 0, .int .i64 0, .int .i64 0, .int .i64 0]) (t := 58) ?_; intro l hg w6 hbox hb; replace z := a_ (vb_ (Kd.V_elderB (vV_ z.out) l (Nat.le_of_eq hg.symm)) hb); have b := a_ (hbox); have aG := a_ (by rw [hg]; exact (bz_ bel_) : w.heap.size ≤ l); have aX := aG; replace HB := hq_ hb; have ac := a_ ((by rw [hg]; exact Nat.ne_of_lt (blk_lt (bk_ BKc2.out)) : B2 ≠ l)); have ad := a_ ((by rw [hg]; exact Nat.ne_of_gt (blk_lt (bk_ BKc2.out)) : l ≠ B2)); replace BKc2 := a_ (bq_ BKc2.out hb); have F := a_ ((by rw [hg]; exact Nat.ne_of_lt (blk_lt (bk_ a.out)) : o ≠ l)); have G := a_ ((by rw [hg]; exact Nat.ne_of_gt (blk_lt (bk_ a.out)) : l ≠ o)); replace a := a_ (bq_ a.out hb); clear hb hbox hg; have bs := B.out; have bu := A.out; have bv := F.out; have bw := G.out; obtain ⟨_, _, _, _, _, _, _, _, _, _⟩ := cel5_ a.out) | ((with_reducible refine gate_callee (f := 82) rfl ?_); refine goesL_ (some 12) rfl rfl Tryz.func82 kr_ rfl #[.slice x q.length c0_1] rfl ar_ ?_; (with_reducible refine (slices_CloneU64.calls _ _ q O _ ?_ ?_ A4.out).mono ?_); exact ca_ ((Kd.V_reads' z.out).2.2); exact (Kd.V_reads' z.out).2.1; rintro e w10 ⟨bx, rfl, ae, hb⟩; refine ⟨_, rfl, ?_⟩; replace z := a_ (Kd.V_elder' (vV_ z.out) (rs_ ae) hb); have ap := a_ (Kd.R_lower (Kd.R_newM (M := fun d => (w.heap.size ≤ d)) ae (bz_ bel_) (fun d h_ => h_)) (bz_ bel_)); replace BKc2 := a_ (bq_ BKc2.out hb); replace a := a_ (bq_ a.out hb); replace b := a_ (bq_ b.out hb); replace HB := hq_ hb; clear hb ae; obtain ⟨ag, E, aM⟩ := Kd.R_slice ap.out; subst aM))
 go_loopg [15] k (fun kq aT w' => ∃ (n : List Int) (c : Int), aT = .int .i64 c ∧ Aside0 (dom_Dom_less_at_dom_Dom_Only_1.l0 kq n (O.length : Int) c r q J K y aa = some (r1, r2, r3, r4, r5, r6)) ∧ Aside0 (kq ≤ k) ∧ Aside0 (Kd.R (Kd.int .u64) 80 w' w.heap.size (fun d => (w.heap.size ≤ d)) (.slice ag O.length E) n) ∧ Aside0 (Kd.V (Kd.int .u64) 80 w' w.heap.size (fun d => (P0_1_ d ∨ w.heap.size ≤ d) ∧ some d ≠ ((.slice ag O.length E) : Value).ownBlock ∧ d ≠ o ∧ d ≠ l) (.slice x q.length c0_1) q) ∧ Aside0 (w'.heap[B2]? = some (.cells #[.int .i64 aa] 3 (0, 0))) ∧ Aside0 (w'.heap[o]? = some (.cells #[.int .i64 r, (.slice x q.length c0_1), .int .i64 J, .int .i64 K, .int .i64 y] 58 (0, 0))) ∧ Aside0 (w'.heap[l]? = some (.cells #[.int .i64 0, (.slice none 0 0), .int .i64 0, .int .i64 0, .int .i64 0] 58 (0, 0))) ∧ Aside0 (Below w.heap.size w w'))
 case atStart => exact ⟨(O), (0), eq_, H', ⟨lr_ _⟩, ⟨by refine vR_ ?_; exact rm_ ap.out (fun _ hk => hk.1)⟩, ⟨by refine vV_ ?_; exact vm_ z.out (fun _ hk => ⟨hk.1.1.1, ⟨hk.2, ⟨hk.1.1.2, hk.1.2⟩⟩⟩)⟩, ⟨bk_ BKc2.out⟩, ⟨bk_ a.out⟩, ⟨bk_ b.out⟩, ⟨bel_⟩⟩
 clear H'
 try clear c2
 try clear p2
 try clear c7
 try clear c8
 try clear c9
 obtain ⟨n, c, rfl, HA, aK, HO_6, HO_359001, BKc2, a, b, HB⟩ := hrel
 have s := (rr_ HO_6.out).1
 rw [s] at HO_6
 (try simp only [s])
 (try simp only [s] at BKc2)
 (try simp only [s] at a)
 (try simp only [s] at b)
 (try simp only [s] at HO_359001)
 cases gk with
 | zero => exact absurd HA.out (by simp [dom_Dom_less_at_dom_Dom_Only_1.l0])
 | succ k1 =>
  have H := HA.out
  clear HA
  simp only [dom_Dom_less_at_dom_Dom_Only_1.l0] at H
  by_cases c12 : c < (O.length : Int)
  ·
   rw [ip_ c12] at H
   have c12b0 : decide (c < (O.length : Int)) = true := dt_ c12
   clear c12
   by_cases c13 : 0 ≤ c
   rotate_left
   ·
    rw [ig_ c13] at H
    exact absurd H (by simp)
   rw [ip_ c13] at H
   have c13b0 : decide (0 ≤ c) = true := dt_ c13
   clear c13
   by_cases c14 : c < (n.length : Int)
   rotate_left
   ·
    rw [ig_ c14] at H
    exact absurd H (by simp)
   rw [ip_ c14] at H
   have c14b0 : decide (c < (n.length : Int)) = true := dt_ c14
   clear c14
   replace H := bo_ H
   obtain ⟨ak, aU, H⟩ := H
   try dsimp only at H
   obtain ⟨an, af⟩ : ∃ y_ : List Int, y_ = (n.set (c : Int).toNat (Go.bits .and .u64 (rd n c) ak)) := ⟨_, rfl⟩
   replace H : (dom_Dom_less_at_dom_Dom_Only_1.l0 k1 an (O.length : Int) (wrap64 (c + 1)) r q J K y aa) = some (r1, r2, r3, r4, r5, r6) := by first | (rw [af]; with_reducible exact H) | (have H2_ := (ob_ _ _).symm.trans H; rw [af]; with_reducible exact H2_) | (have H2_ := (ob_ _ _).symm.trans H; with_reducible exact H2_) | with_reducible exact H | (rw [af]; exact H) | exact H
   have aH := a_ af
   clear af
   have H' := a_ H
   clear H
   have p363 : 0 ≤ (c : Int) := dq_
   have ao : c < (n.length : Int) := dq_
   obtain ⟨aq, aN, ar⟩ := ai_ (rr_ HO_6.out).2.2 c p363 ao
   cases aN
   replace p363 := et_ p363
   replace ao := et_ ao
   have aY := B.out
   have aZ := A.out
   have a0 := F.out
   have a1 := G.out
   obtain ⟨_, _, _, _, _, _, _, _, _, _⟩ := cel5_ a.out
   go_wp2_with (first | (go_at_call 59; (with_reducible refine (dom_Dom_Only_1.calls (wrap64 (r + (wrap64 (64 * c)))) (rd n c) B2 aa ak _ ?side1 aU.out).mono ?_); (case side1 => exact bk_ BKc2.out); rintro e w' ⟨rfl, ⟨nd, rfl⟩⟩; (try (rw [drewN_self wr]; generalize hq_ : World.drewN wr _ = wr; replace HO_359001 : Aside0 (Kd.V (Kd.int .u64) 80 wr w.heap.size (fun d => (P0_1_ d ∨ w.heap.size ≤ d) ∧ some d ≠ (.slice (some aq) n.length E : Value).ownBlock ∧ d ≠ o ∧ d ≠ l) (.slice x q.length c0_1) q) := ⟨by rw [← hq_]; exact (vV_ HO_359001.out)⟩; replace HO_6 : Aside0 (Kd.R (Kd.int .u64) 80 wr w.heap.size (fun d => (w.heap.size ≤ d)) (.slice (some aq) n.length E) n) := ⟨by rw [← hq_]; exact (vR_ HO_6.out)⟩; replace a : Aside0 (wr.heap[o]? = some (.cells #[.int .i64 r, .slice x q.length c0_1, .int .i64 J, .int .i64 K, .int .i64 y] 58 (0, 0))) := ⟨by rw [← hq_]; exact (bk_ a.out)⟩; replace b : Aside0 (wr.heap[l]? = some (.cells #[.int .i64 0, .slice none 0 0, .int .i64 0, .int .i64 0, .int .i64 0] 58 (0, 0))) := ⟨by rw [← hq_]; exact (bk_ b.out)⟩; replace BKc2 : Aside0 (wr.heap[B2]? = some (.cells #[.int .i64 aa] 3 (0, 0))) := ⟨by rw [← hq_]; exact (bk_ BKc2.out)⟩; replace HB : Aside0 (Below w.heap.size w wr) := ⟨by rw [← hq_]; exact bel_⟩; clear hq_)); (try (obtain ⟨_, _⟩ := cel1_ BKc2.out)); (try (obtain ⟨_, _, _, _, _, _, _, _, _, _⟩ := cel5_ a.out)); (try (obtain ⟨_, _, _, _, _, _, _, _, _, _⟩ := cel5_ b.out)); have p16 : 0 ≤ (c : Int) := dq_; have au : (c : Int) < ((n.length : Int) : Int) := dq_; obtain ⟨go16, bz, av, aw, gl16, cl16, HG16⟩ := Kd.R_form HO_6.out (by omega); (first | cases av | (injection av with ea_ en_ ec_; (first | subst ea_ | (injection ea_ with ea_; subst ea_)); subst ec_; clear en_)); have GB16 := a_ aw; have GG16 := a_ HG16; clear aw gl16 HG16; (first | simp only [add_plain] at ar | skip); obtain ⟨aV, hf16_0⟩ := Kd.R_celln 0 HO_6.out (c : Int) p16 au; replace p16 := et_ p16; replace au := et_ au; obtain ⟨a2, hz23_⟩ := Kd.R_celln 0 HO_6.out (c : Int) (dq_) (dq_); have HP23 := Kd.R_putg HO_6.out (c : Int) (Go.bits .and .u64 (rd n c) ak)) | ((with_reducible refine gate_store (t := 80) (p := 32) rfl ?_); refine store_event (t := 80) (p := 32) (v := ?vo_w24) (w1 := (wr.setCell ⟨go16, (c : Int).toNat, none⟩ (.int .u64 (Go.bits .and .u64 (rd n c) ak)))) ?hg ?ho ?hn ?hr ?_; (case ho => rfl); (case hg => rfl); (case hn => rfl); (case hr => first | (go_simp; done) | (go_simp; rfl)); intro w24 hw; have hg : wr.grownBy w24 (some go16) := (by rw [hw]; exact HP23.2); have hp_ : Kd.R (Kd.int .u64) 80 w24 w.heap.size (fun d => (w.heap.size ≤ d)) (.slice (some ⟨go16, 0, none⟩) n.length E) an := (by rw [hw, aH.out]; exact HP23.1); clear HP23; replace HO_359001 := a_ (Kd.V_afterv (v := (.slice (some ⟨go16, 0, none⟩) n.length E)) (v1 := (.slice (some ⟨go16, 0, none⟩) n.length E)) (ok := (fun d => (P0_1_ d ∨ w.heap.size ≤ d) ∧ d ≠ o ∧ d ≠ l)) (by refine vV_ ?_; exact vm_ HO_359001.out (fun _ hk => ⟨⟨hk.1, ⟨hk.2.2.1, hk.2.2.2⟩⟩, hk.2.1⟩)) hg (.inl rfl)); replace BKc2 := a_ (blk_grown (bk_ BKc2.out) hg (Kd.R_ne HO_6.out BKc2.out (by decide))); replace a := a_ (blk_grown (bk_ a.out) hg (Kd.R_ne HO_6.out a.out (by decide))); replace b := a_ (blk_grown (bk_ b.out) hg (Kd.R_ne HO_6.out b.out (by decide))); replace HO_6 := a_ (hp_); replace HB := a_ ((by rw [hw]; exact below_set (HB.out) GB16.out : Below w.heap.size w w24)); clear hg hw hp_))
   (try simp only [← s])
   go_roundg k1
   case measure => have := aK.out; omega
   exact ⟨(an), (wrap64 (c + 1)), eq_, H', ⟨by have := aK.out; omega⟩, ⟨by (try simp only [s]); refine vR_ ?_; exact HO_6.out⟩, ⟨by (try simp only [s]); refine vV_ ?_; exact vm_ HO_359001.out (fun _ hk => ⟨hk.1.1, ⟨hk.2, ⟨hk.1.2.1, hk.1.2.2⟩⟩⟩)⟩, ⟨by (try simp only [s]); refine bk_ ?_; exact BKc2.out⟩, ⟨by (try simp only [s]); refine bk_ ?_; exact a.out⟩, ⟨by (try simp only [s]); refine bk_ ?_; exact b.out⟩, ⟨bel_⟩⟩
  rw [ig_ c12] at H
  have c12b0 : decide (c < (O.length : Int)) = false := df_ c12
  (try (have c12b0q := c12b0; simp only [s] at c12b0q))
  clear c12
  replace H := bs_.mp H
  obtain ⟨⟨P, W, ab, ah, u⟩, ax, H⟩ := H
  try dsimp only at H
  have aL := a_ ax
  clear ax
  by_cases c26 : u = y
  ·
   rw [ip_ c26] at H
   have c26b0 : (u == y) = true := beq_iff_eq.mpr c26
   have c26b1 : (u != y) = false := bn_.mpr c26
   clear c26
   simp only [Option.some.injEq, Prod.mk.injEq] at H
   obtain ⟨rfl, rfl, rfl, rfl, rfl, rfl⟩ := H
   have a3 := B.out
   have a4 := A.out
   have a5 := F.out
   have a6 := G.out
   obtain ⟨_, _, _, _, _, _, _, _, _, _⟩ := cel5_ a.out
   go_wp2_with (first | ((with_reducible refine gate_callee (f := 65) rfl ?_); refine goesL_ (some 37) rfl rfl Tryz.func65 kr_ rfl #[.int .i64 r, .slice ag n.length E] rfl ar_ ?_; (with_reducible refine (dom_made.calls k1 r (fun d => some d = (.slice ag n.length E : Value).ownBlock) _ _ n P W ab ah u _ ?_ ?_ aL.out).mono ?_); exact Kd.R_V (Kd.R_tight rfl (rt_ (rt_ (rt_ (HO_6.out) BKc2.out (by decide)) a.out (by decide)) b.out (by decide))); exact ca_ ((cb_ HRtab.out HB.out)); rintro e w30 ⟨aO, rfl, ae, hb⟩; refine ⟨_, rfl, ?_⟩; replace HO_359001 := a_ (vb_ (vV_ HO_359001.out) hb); have I := a_ (Kd.V_lower (vm_ (ok' := fun d => (P0_1_ d ∨ w.heap.size ≤ d) ∧ d ≠ o ∧ d ≠ l) ae (fun d hk_ => ⟨Or.elim hk_ (fun hs_ => (.inr (((rt_ (rt_ (rt_ (HO_6.out) BKc2.out (by decide)) a.out (by decide)) b.out (by decide)).1 d hs_.symm).1.1.1))) (fun hn_ => (.inr (Nat.le_trans (bz_ bel_) hn_))), Or.elim hk_ (fun hs_ => ((rt_ (rt_ (rt_ (HO_6.out) BKc2.out (by decide)) a.out (by decide)) b.out (by decide)).1 d hs_.symm).1.2) (fun hn_ => (Kd.freshB (bk_ a.out) d hn_)), Or.elim hk_ (fun hs_ => ((rt_ (rt_ (rt_ (HO_6.out) BKc2.out (by decide)) a.out (by decide)) b.out (by decide)).1 d hs_.symm).2) (fun hn_ => (Kd.freshB (bk_ b.out) d hn_))⟩)) (bz_ bel_)); replace HO_6 := a_ (rb_ (vR_ HO_6.out) hb); replace BKc2 := a_ (bq_ BKc2.out hb); replace a := a_ (bq_ a.out hb); replace b := a_ (bq_ b.out hb); replace HB := hq_ hb; clear hb ae) | ((with_reducible refine gate_dst (N := 9) rfl ?_); refine bxe_ (N := 9) (cs := #[.int .i64 0, .slice none 0 0, .int .i64 0, .int .i64 0, .int .i64 0]) (t := 58) ?_; intro m hg w31 hbox hb; replace HO_6 := a_ (rb_ (vR_ HO_6.out) hb); replace HO_359001 := a_ (vb_ (Kd.V_elderB (vV_ HO_359001.out) m (Nat.le_of_eq hg.symm)) hb); replace I := a_ (vb_ (Kd.V_elderB (vV_ I.out) m (Nat.le_of_eq hg.symm)) hb); have al := a_ (hbox); have am := a_ (by rw [hg]; exact (bz_ bel_) : w.heap.size ≤ m); have aI := am; replace HB := hq_ hb; have Q := a_ ((by rw [hg]; exact Nat.ne_of_lt (blk_lt (bk_ BKc2.out)) : B2 ≠ m)); have U := a_ ((by rw [hg]; exact Nat.ne_of_gt (blk_lt (bk_ BKc2.out)) : m ≠ B2)); replace BKc2 := a_ (bq_ BKc2.out hb); have X := a_ ((by rw [hg]; exact Nat.ne_of_lt (blk_lt (bk_ a.out)) : o ≠ m)); have Y := a_ ((by rw [hg]; exact Nat.ne_of_gt (blk_lt (bk_ a.out)) : m ≠ o)); replace a := a_ (bq_ a.out hb); have g := a_ ((by rw [hg]; exact Nat.ne_of_lt (blk_lt (bk_ b.out)) : l ≠ m)); have Z := a_ ((by rw [hg]; exact Nat.ne_of_gt (blk_lt (bk_ b.out)) : m ≠ l)); replace b := a_ (bq_ b.out hb); clear hb hbox hg; have a7 := U.out; have a8 := Q.out; have a9 := Y.out; have ba := X.out; have bb := Z.out; have bc := g.out; obtain ⟨_, _, _, _, _, _, _, _, _, _⟩ := cel5_ al.out; obtain ⟨aP, aQ, aR⟩ := Kd.V_slice I.out; subst aR; obtain ⟨_, _, _, _, _, _, _, _, _, _⟩ := cel5_ a.out; have bd := ad.out; have be := ac.out; obtain ⟨_, _, _, _, _, _, _, _, _, _⟩ := cel5_ b.out))
   refine bodyPost_ret (results_ct rfl _ _ l 58 #[.int .i64 r, .slice x q.length c0_1, .int .i64 J, .int .i64 K, .int .i64 y] (0, 0) _ rfl (by refine bk_ ?_; refine bu_ (cs := #[.int .i64 r, .slice x q.length c0_1, .int .i64 J, .int .i64 K, .int .i64 0]) ?_ 4 _ rfl; refine bk_ ?_; refine bu_ (cs := #[.int .i64 r, .slice x q.length c0_1, .int .i64 J, .int .i64 0, .int .i64 0]) ?_ 3 _ rfl; refine bk_ ?_; refine bu_ (cs := #[.int .i64 r, .slice x q.length c0_1, .int .i64 0, .int .i64 0, .int .i64 0]) ?_ 2 _ rfl; refine bk_ ?_; refine bu_ (cs := #[.int .i64 r, .slice none 0 0, .int .i64 0, .int .i64 0, .int .i64 0]) ?_ 1 _ rfl; refine bk_ ?_; refine bu_ (cs := #[.int .i64 0, .slice none 0 0, .int .i64 0, .int .i64 0, .int .i64 0]) ?_ 0 _ rfl; refine bk_ ?_; refine blk_far ?_ g.out _; refine bk_ ?_; refine blk_far ?_ g.out _; refine bk_ ?_; refine blk_far ?_ g.out _; refine bk_ ?_; refine blk_far ?_ g.out _; refine bk_ ?_; refine blk_far ?_ g.out _; refine bk_ ?_; exact b.out) Tryz.underlying58 rfl kr_) rfl ?_
   exact ⟨_, er_, by refine vV_ ?_; exact vm_ (fV_ (fV_ (fV_ (fV_ (fV_ (Kd.V_far (Kd.V_far (Kd.V_far (Kd.V_far (Kd.V_far (vm_ (vm_ HO_359001.out (fun d hk => (⟨hk, hk.2⟩ : _ ∧ d ≠ m))) (fun d hk => (⟨hk, hk.1.1.2.2.2⟩ : _ ∧ d ≠ l))) (fun _ hk => hk.1.2) (.int .i64 P)) (fun _ hk => hk.1.2) (.slice aP W.length aQ)) (fun _ hk => hk.1.2) (.int .i64 ab)) (fun _ hk => hk.1.2) (.int .i64 ah)) (fun _ hk => hk.1.2) (.int .i64 u))))))) (fun _ hk => hk.1.1.1.1), bel_⟩
  rw [ig_ c26] at H
  have c26b0 : (u == y) = false := be_.mpr c26
  have c26b1 : (u != y) = true := ni_.mpr c26
  by_cases c40 : u = 0
  ·
   rw [ip_ c40] at H
   exact absurd H (by simp)
  rw [ig_ c40] at H
  have c40b0 : (u == 0) = false := be_.mpr c40
  have c40b1 : (u != 0) = true := ni_.mpr c40
  by_cases c41 : u = 1
  rotate_left
  ·
   rw [ig_ c41] at H
   exact absurd H (by simp)
  rw [ip_ c41] at H
  have c41b0 : (u == 1) = true := beq_iff_eq.mpr c41
  have c41b1 : (u != 1) = false := bn_.mpr c41
  clear c41
  simp only [Option.some.injEq, Prod.mk.injEq] at H
  obtain ⟨rfl, rfl, rfl, rfl, rfl, rfl⟩ := H
  have bf := B.out
  have bg := A.out
  have bh := F.out
  have bi := G.out
  obtain ⟨_, _, _, _, _, _, _, _, _, _⟩ := cel5_ a.out
  go_wp2_with (first | ((with_reducible refine gate_callee (f := 65) rfl ?_); refine goesL_ (some 37) rfl rfl Tryz.func65 kr_ rfl #[.int .i64 r, .slice ag n.length E] rfl ar_ ?_; (with_reducible refine (dom_made.calls k1 r (fun d => some d = (.slice ag n.length E : Value).ownBlock) _ _ n P W ab ah u _ ?_ ?_ aL.out).mono ?_); exact Kd.R_V (Kd.R_tight rfl (rt_ (rt_ (rt_ (HO_6.out) BKc2.out (by decide)) a.out (by decide)) b.out (by decide))); exact ca_ ((cb_ HRtab.out HB.out)); rintro e w45 ⟨aO, rfl, ae, hb⟩; refine ⟨_, rfl, ?_⟩; have I := a_ (Kd.V_lower (vm_ (ok' := fun d => (P0_1_ d ∨ w.heap.size ≤ d) ∧ d ≠ o ∧ d ≠ l) ae (fun d hk_ => ⟨Or.elim hk_ (fun hs_ => (.inr (((rt_ (rt_ (rt_ (HO_6.out) BKc2.out (by decide)) a.out (by decide)) b.out (by decide)).1 d hs_.symm).1.1.1))) (fun hn_ => (.inr (Nat.le_trans (bz_ bel_) hn_))), Or.elim hk_ (fun hs_ => ((rt_ (rt_ (rt_ (HO_6.out) BKc2.out (by decide)) a.out (by decide)) b.out (by decide)).1 d hs_.symm).1.2) (fun hn_ => (Kd.freshB (bk_ a.out) d hn_)), Or.elim hk_ (fun hs_ => ((rt_ (rt_ (rt_ (HO_6.out) BKc2.out (by decide)) a.out (by decide)) b.out (by decide)).1 d hs_.symm).2) (fun hn_ => (Kd.freshB (bk_ b.out) d hn_))⟩)) (bz_ bel_)); replace BKc2 := a_ (bq_ BKc2.out hb); replace a := a_ (bq_ a.out hb); replace b := a_ (bq_ b.out hb); replace HB := hq_ hb; clear hb ae) | ((with_reducible refine gate_dst (N := 9) rfl ?_); refine bxe_ (N := 9) (cs := #[.int .i64 0, .slice none 0 0, .int .i64 0, .int .i64 0, .int .i64 0]) (t := 58) ?_; intro m hg w46 hbox hb; replace I := a_ (vb_ (Kd.V_elderB (vV_ I.out) m (Nat.le_of_eq hg.symm)) hb); have al := a_ (hbox); have am := a_ (by rw [hg]; exact (bz_ bel_) : w.heap.size ≤ m); have aI := am; replace HB := hq_ hb; have Q := a_ ((by rw [hg]; exact Nat.ne_of_lt (blk_lt (bk_ BKc2.out)) : B2 ≠ m)); have U := a_ ((by rw [hg]; exact Nat.ne_of_gt (blk_lt (bk_ BKc2.out)) : m ≠ B2)); have X := a_ ((by rw [hg]; exact Nat.ne_of_lt (blk_lt (bk_ a.out)) : o ≠ m)); have Y := a_ ((by rw [hg]; exact Nat.ne_of_gt (blk_lt (bk_ a.out)) : m ≠ o)); replace a := a_ (bq_ a.out hb); have g := a_ ((by rw [hg]; exact Nat.ne_of_lt (blk_lt (bk_ b.out)) : l ≠ m)); have Z := a_ ((by rw [hg]; exact Nat.ne_of_gt (blk_lt (bk_ b.out)) : m ≠ l)); replace b := a_ (bq_ b.out hb); clear hb hbox hg; have bj := U.out; have bk := Q.out; have bl := Y.out; have bm := X.out; have bn := Z.out; have bo := g.out; obtain ⟨_, _, _, _, _, _, _, _, _, _⟩ := cel5_ al.out; obtain ⟨ai, aj, aS⟩ := Kd.V_slice I.out; subst aS; obtain ⟨_, _, _, _, _, _, _, _, _, _⟩ := cel5_ a.out; have bp := ad.out; have bq := ac.out; obtain ⟨_, _, _, _, _, _, _, _, _, _⟩ := cel5_ b.out))
  refine bodyPost_ret (results_ct rfl _ _ l 58 #[.int .i64 P, .slice ai W.length aj, .int .i64 ab, .int .i64 ah, .int .i64 u] (0, 0) _ rfl (by refine bk_ ?_; refine bu_ (cs := #[.int .i64 P, .slice ai W.length aj, .int .i64 ab, .int .i64 ah, .int .i64 0]) ?_ 4 _ rfl; refine bk_ ?_; refine bu_ (cs := #[.int .i64 P, .slice ai W.length aj, .int .i64 ab, .int .i64 0, .int .i64 0]) ?_ 3 _ rfl; refine bk_ ?_; refine bu_ (cs := #[.int .i64 P, .slice ai W.length aj, .int .i64 0, .int .i64 0, .int .i64 0]) ?_ 2 _ rfl; refine bk_ ?_; refine bu_ (cs := #[.int .i64 P, .slice none 0 0, .int .i64 0, .int .i64 0, .int .i64 0]) ?_ 1 _ rfl; refine bk_ ?_; refine bu_ (cs := #[.int .i64 0, .slice none 0 0, .int .i64 0, .int .i64 0, .int .i64 0]) ?_ 0 _ rfl; refine bk_ ?_; refine blk_far ?_ g.out _; refine bk_ ?_; refine blk_far ?_ g.out _; refine bk_ ?_; refine blk_far ?_ g.out _; refine bk_ ?_; refine blk_far ?_ g.out _; refine bk_ ?_; refine blk_far ?_ g.out _; refine bk_ ?_; exact b.out) Tryz.underlying58 rfl kr_) rfl ?_
  exact ⟨_, er_, by refine vV_ ?_; exact vm_ (fV_ (fV_ (fV_ (fV_ (fV_ (Kd.V_far (Kd.V_far (Kd.V_far (Kd.V_far (Kd.V_far (vm_ (vm_ I.out (fun d hk => (⟨hk, hk.2⟩ : _ ∧ d ≠ m))) (fun d hk => (⟨hk, hk.1.1.2.2⟩ : _ ∧ d ≠ l))) (fun _ hk => hk.1.2) (.int .i64 P)) (fun _ hk => hk.1.2) (.slice ai W.length aj)) (fun _ hk => hk.1.2) (.int .i64 ab)) (fun _ hk => hk.1.2) (.int .i64 ah)) (fun _ hk => hk.1.2) (.int .i64 u))))))) (fun _ hk => hk.1.1.1.1), bel_⟩

/-! ### dom_Dom_Only: function 29 -/
def dom_Dom_Only.f (k : Nat) (b : Int) (c : List Int) (d : Int) (e : Int) (g : Int) (l : Int) : Option (Int × List Int × Int × Int × Int × Int) := (dom_Dom_less_at_dom_Dom_Only_1.f k b c d e g l).bind fun a => (some (a.1, a.2.1, a.2.2.1, a.2.2.2.1, a.2.2.2.2.1, a.2.2.2.2.2))
theorem dom_Dom_Only.mono : ∀ a b c d e g k, LeO (dom_Dom_Only.f k a b c d e g) (dom_Dom_Only.f (k + 1) a b c d e g) := by
 intro a b c d e g k
 unfold dom_Dom_Only.f
 have m0 := @dom_Dom_less_at_dom_Dom_Only_1.mono
 exact leo_
set_option maxHeartbeats 8000000 in
set_option maxRecDepth 100000 in
theorem dom_Dom_Only.calls (k : Nat) (q : Int) (P0_1_ : Nat → Prop) (r : Option Addr) (c0_1 : Nat) (l : List Int) (s : Int) (u : Int) (v : Int) (P : Int) (r1 : Int) (r2 : List Int) (r3 : Int) (r4 : Int) (r5 : Int) (r6 : Int) (w : World) (Q : Kd.V (Kd.int .u64) 80 w w.heap.size (fun d => P0_1_ d) (.slice r l.length c0_1) l) (hrtab : Kd.C (Kd.int .u8) w (some ⟨0, 0, none⟩) tabL.length tabL) (h : dom_Dom_Only.f k q l s u v P = some (r1, r2, r3, r4, r5, r6)) :
  Calls Tryz.prog 29 #[.agg #[.int .i64 q, .slice r l.length c0_1, .int .i64 s, .int .i64 u, .int .i64 v], .int .i64 P] w fun e w' => ∃ Y : Value, e = .returned (.tuple #[.agg #[.int .i64 r1, Y, .int .i64 r3, .int .i64 r4, .int .i64 r5], .int .i64 r6]) ∧ Kd.V (Kd.int .u64) 80 w' w.heap.size (fun d => (P0_1_ d ∨ w.heap.size ≤ d)) Y r2 ∧ Below w.heap.size w w' := by
 have hu58 := Tryz.underlying58
 have m := a_ (show Kd.V (Kd.int .u64) 80 w w.heap.size (fun d => (P0_1_ d ∨ w.heap.size ≤ d)) (.slice r l.length c0_1) l from vm_ Q (fun d hk => .inl hk))
 have HRtab := a_ hrtab
 clear hrtab
 have HB := a_ (Below.refl w.heap.size w)
 unfold dom_Dom_Only.f at h
 have H := h
 clear h
 replace H := bs_.mp H
 obtain ⟨⟨p, x, y, K, O, ab⟩, Z, H⟩ := H
 try dsimp only at H
 have A3 := a_ Z
 clear Z
 simp only [Option.some.injEq, Prod.mk.injEq] at H
 obtain ⟨rfl, rfl, rfl, rfl, rfl, rfl⟩ := H
 go_enter Tryz.func29, Tryz.ntmps29
 go_wp2_with (first | ((with_reducible refine gate_dst (N := 2) rfl ?_); refine bxe_ (N := 2) (cs := #[.int .i64 q, .slice r l.length c0_1, .int .i64 s, .int .i64 u, .int .i64 v]) (t := 58) ?_; intro g hg w4 hbox hb; replace m := a_ (vb_ (Kd.V_elderB (vV_ m.out) g (Nat.le_of_eq hg.symm)) hb); have a := a_ (hbox); have U := a_ (by rw [hg]; exact (bz_ bel_) : w.heap.size ≤ g); have aj := U; replace HB := hq_ hb; clear hb hbox hg) | ((with_reducible refine gate_dst (N := 3) rfl ?_); refine bxe_ (N := 3) (cs := #[.int .i64 P]) (t := 3) ?_; intro b hg w5 hbox hb; replace m := a_ (vb_ (Kd.V_elderB (vV_ m.out) b (Nat.le_of_eq hg.symm)) hb); have n := a_ (hbox); have W := a_ (by rw [hg]; exact (bz_ bel_) : w.heap.size ≤ b); have ak := W; replace HB := hq_ hb; have B := a_ ((by rw [hg]; exact Nat.ne_of_lt (blk_lt (bk_ a.out)) : g ≠ b)); have E := a_ ((by rw [hg]; exact Nat.ne_of_gt (blk_lt (bk_ a.out)) : b ≠ g)); replace a := a_ (bq_ a.out hb); clear hb hbox hg) | ((with_reducible refine gate_dst (N := 4) rfl ?_); refine bxe_ (N := 4) (cs := #[.int .i64 0, .slice none 0 0, .int .i64 0, .int .i64 0, .int .i64 0]) (t := 58) ?_; intro c hg w6 hbox hb; replace m := a_ (vb_ (Kd.V_elderB (vV_ m.out) c (Nat.le_of_eq hg.symm)) hb); have o := a_ (hbox); have X := a_ (by rw [hg]; exact (bz_ bel_) : w.heap.size ≤ c); have al := X; replace HB := hq_ hb; have F := a_ ((by rw [hg]; exact Nat.ne_of_lt (blk_lt (bk_ a.out)) : g ≠ c)); have G := a_ ((by rw [hg]; exact Nat.ne_of_gt (blk_lt (bk_ a.out)) : c ≠ g)); replace a := a_ (bq_ a.out hb); have I := a_ ((by rw [hg]; exact Nat.ne_of_lt (blk_lt (bk_ n.out)) : b ≠ c)); have J := a_ ((by rw [hg]; exact Nat.ne_of_gt (blk_lt (bk_ n.out)) : c ≠ b)); replace n := a_ (bq_ n.out hb); clear hb hbox hg; have ap := B.out; have aq := E.out; have ar := F.out; have au := G.out; obtain ⟨_, _, _, _, _, _, _, _, _, _⟩ := cel5_ a.out) | ((with_reducible refine gate_callee (f := 58) rfl ?_); refine goesL_ (some 8) rfl rfl Tryz.func58 kr_ rfl #[.agg #[.int .i64 q, .slice r l.length c0_1, .int .i64 s, .int .i64 u, .int .i64 v], .func (.func 59) #[] #[.pointer (some ⟨b, 0, none⟩)]] rfl ar_ ?_; (with_reducible refine (dom_Dom_less_at_dom_Dom_Only_1.calls k q (fun d => ((((P0_1_ d ∨ w.heap.size ≤ d) ∧ d ≠ g) ∧ d ≠ b) ∧ d ≠ c)) _ _ l s u v b P p x y K O ab _ ?side1 ?side2 ?side3 A3.out).mono ?_); (case side1 => exact m.out); (case side2 => exact bk_ n.out); (case side3 => exact ca_ ((cb_ HRtab.out HB.out))); rintro e w10 ⟨av, rfl, aa, hb⟩; refine ⟨_, rfl, ?_⟩; have M := a_ (Kd.V_lower (vm_ (ok' := fun d => (P0_1_ d ∨ w.heap.size ≤ d) ∧ d ≠ g ∧ d ≠ b ∧ d ≠ c) aa (fun d hk_ => ⟨Or.elim hk_ (fun hs_ => hs_.1.1.1) (fun hn_ => (.inr (Nat.le_trans (bz_ bel_) hn_))), Or.elim hk_ (fun hs_ => hs_.1.1.2) (fun hn_ => (Kd.freshB (bk_ a.out) d hn_)), Or.elim hk_ (fun hs_ => hs_.1.2) (fun hn_ => (Kd.freshB (bk_ n.out) d hn_)), Or.elim hk_ (fun hs_ => hs_.2) (fun hn_ => (Kd.freshB (bk_ o.out) d hn_))⟩)) (bz_ bel_)); replace o := a_ (bq_ o.out hb); replace HB := hq_ hb; clear hb aa; have am := J.out; have an := I.out; obtain ⟨_, _, _, _, _, _, _, _, _, _⟩ := cel5_ o.out; obtain ⟨z, A, ac⟩ := Kd.V_slice M.out; subst ac))
 refine bodyPost_ret (results_ct rfl _ _ c 58 #[.int .i64 p, .slice z x.length A, .int .i64 y, .int .i64 K, .int .i64 O] (0, 0) _ rfl (by refine bk_ ?_; refine bu_ (cs := #[.int .i64 p, .slice z x.length A, .int .i64 y, .int .i64 K, .int .i64 0]) ?_ 4 _ rfl; refine bk_ ?_; refine bu_ (cs := #[.int .i64 p, .slice z x.length A, .int .i64 y, .int .i64 0, .int .i64 0]) ?_ 3 _ rfl; refine bk_ ?_; refine bu_ (cs := #[.int .i64 p, .slice z x.length A, .int .i64 0, .int .i64 0, .int .i64 0]) ?_ 2 _ rfl; refine bk_ ?_; refine bu_ (cs := #[.int .i64 p, .slice none 0 0, .int .i64 0, .int .i64 0, .int .i64 0]) ?_ 1 _ rfl; refine bk_ ?_; refine bu_ (cs := #[.int .i64 0, .slice none 0 0, .int .i64 0, .int .i64 0, .int .i64 0]) ?_ 0 _ rfl; refine bk_ ?_; exact o.out) Tryz.underlying58 rfl kr_) rfl ?_
 exact ⟨_, er_, by refine vV_ ?_; exact vm_ (fV_ (fV_ (fV_ (fV_ (fV_ (vm_ M.out (fun d hk => (⟨hk, hk.2.2.2⟩ : _ ∧ d ≠ c)))))))) (fun _ hk => hk.1.1), bel_⟩

end Go.Proofs.YtmhchlbbfpmdgaaGreatDoor.XClauseRefuses
