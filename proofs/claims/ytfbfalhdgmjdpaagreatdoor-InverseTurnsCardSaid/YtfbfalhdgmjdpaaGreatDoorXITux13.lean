-- by xprint.py, a program of this session, over the kit's print
import Derived.Test.YtfbfalhdgmjdpaaGreatDoorXITux0
import Derived.Test.YtfbfalhdgmjdpaaGreatDoorXITux8
import Derived.Test.YtfbfalhdgmjdpaaGreatDoorXITux12
import Derived.Test.YtfbfalhdgmjdpaaGreatDoorSq
namespace Go.Proofs.YtfbfalhdgmjdpaaGreatDoor.XInverseTurns
open Go.RowKit Go.Proofs.YtfbfalhdgmjdpaaGreatDoor.Sq Go.Proofs.YtfbfalhdgmjdpaaGreatDoorW.PrintWords Go.Proofs.YtfbfalhdgmjdpaaGreatDoorW.PrintLast Go.Proofs.YtfbfalhdgmjdpaaGreatDoorW.PrintMore
attribute [local go_sem] max2_int min2_int max_two min_two max_three min_three max_four min_four   -- for this text's walks alone
set_option linter.unusedVariables false
set_option linter.unusedSimpArgs false

/-! ### inverse_Filter: function 10 -/
/-- Both windows of one row: the first one turned, the other one turned. -/
theorem iw_left {α : Type} {xa xb Dc r : List α} (h : IW (xa ++ xb) Dc 0 xa.length xa.length r xb) : Dc = r ++ xb ∧ r.length = xa.length := by
 obtain ⟨h1, h2, h3, h4, _⟩ := h
 refine ⟨List.ext_getElem? fun j => ?_, h1⟩
 rw [List.length_append] at h2
 rcases Nat.lt_or_ge j r.length with hj | hj
 ·
  rw [List.getElem?_append_left hj]
  have := h3 j hj
  rwa [Nat.zero_add] at this
 rw [List.getElem?_append_right hj]
 rcases Nat.lt_or_ge (j - r.length) xb.length with hk | hk
 ·
  have := h4 (j - r.length) hk
  rwa [← h1, Nat.add_sub_cancel' hj] at this
 rw [List.getElem?_eq_none (by omega), List.getElem?_eq_none (by omega)]
theorem iw_right {α : Type} {xa xb Dc r : List α} (h : IW (xa ++ xb) Dc xa.length 0 xb.length r xa) : Dc = xa ++ r ∧ r.length = xb.length := by
 obtain ⟨h1, h2, h3, h4, _⟩ := h
 refine ⟨List.ext_getElem? fun j => ?_, h1⟩
 rw [List.length_append] at h2
 rcases Nat.lt_or_ge j xa.length with hj | hj
 ·
  rw [List.getElem?_append_left hj]
  have := h4 j hj
  rwa [Nat.zero_add] at this
 rw [List.getElem?_append_right hj]
 rcases Nat.lt_or_ge (j - xa.length) r.length with hk | hk
 ·
  have := h3 (j - xa.length) hk
  rwa [Nat.add_sub_cancel' hj] at this
 rw [List.getElem?_eq_none (by omega), List.getElem?_eq_none (by omega)]
theorem win_left {α : Type} (xa xb : List α) : Win (xa ++ xb) 0 xa := fun i hi => by rw [Nat.zero_add, List.getElem?_append_left hi]
theorem win_right {α : Type} (xa xb : List α) : Win (xa ++ xb) xa.length xb := fun i hi => by rw [List.getElem?_append_right (by omega), Nat.add_sub_cancel_left]
theorem inverse_side.calls_win (k : Nat) (P0_ : Nat → Prop) (g m cap n1 c0 n2 c1 : Nat) (xa xb Dc r1 : List (S58)) (r2 r3 : Bool) (w wq : World) (hO : Kd.N k58 58 wq w.heap.size (fun k_ => (P0_ k_ ∨ w.heap.size ≤ k_)) (.slice (some ⟨g, 0, none⟩) m cap) Dc) (hD : Dc = xa ++ xb) (hn1 : xa.length = n1) (hn2 : xb.length = n2) (hB0 : Below w.heap.size w wq) (hrtab : Kd.C (Kd.int .u8) w (some ⟨0, 0, none⟩) tabL.length tabL) (h : inverse_side.f k xa xb = some (r1, r2, r3)) :
  Calls Tryz.prog 30 #[.slice (some ⟨g, 0, none⟩) n1 c0, .slice (some ⟨g, n1 * 5, none⟩) n2 c1] wq fun e w' => e = .returned (.tuple #[.bool r2, .bool r3]) ∧ Kd.N k58 58 w' w.heap.size (fun k_ => (P0_ k_ ∨ w.heap.size ≤ k_)) (.slice (some ⟨g, 0, none⟩) m cap) (r1 ++ xb) ∧ r1.length = n1 ∧ Below w.heap.size w w' := by
 subst hD hn1 hn2
 refine (inverse_side.calls k P0_ g m cap 0 0 c0 xa.length (xa.length * 5) c1 (xa ++ xb) xa xb r1 r2 r3 w wq hO rfl rfl (win_left _ _) (win_right _ _) (.inl (by omega)) hB0 hrtab h).mono ?_
 rintro e w' ⟨h1, ⟨Dc, h2, h3⟩, h4⟩
 obtain ⟨rfl, h5⟩ := iw_left h3
 exact ⟨h1, h2, h5, h4⟩
theorem inverse_side.calls_win2 (k : Nat) (P0_ : Nat → Prop) (g m cap n1 c0 n2 c1 : Nat) (xa xb Dc r1 : List (S58)) (r2 r3 : Bool) (w wq : World) (hO : Kd.N k58 58 wq w.heap.size (fun k_ => (P0_ k_ ∨ w.heap.size ≤ k_)) (.slice (some ⟨g, 0, none⟩) m cap) Dc) (hD : Dc = xa ++ xb) (hn1 : xa.length = n1) (hn2 : xb.length = n2) (hB0 : Below w.heap.size w wq) (hrtab : Kd.C (Kd.int .u8) w (some ⟨0, 0, none⟩) tabL.length tabL) (h : inverse_side.f k xb xa = some (r1, r2, r3)) :
  Calls Tryz.prog 30 #[.slice (some ⟨g, n1 * 5, none⟩) n2 c1, .slice (some ⟨g, 0, none⟩) n1 c0] wq fun e w' => e = .returned (.tuple #[.bool r2, .bool r3]) ∧ Kd.N k58 58 w' w.heap.size (fun k_ => (P0_ k_ ∨ w.heap.size ≤ k_)) (.slice (some ⟨g, 0, none⟩) m cap) (xa ++ r1) ∧ r1.length = n2 ∧ Below w.heap.size w w' := by
 subst hD hn1 hn2
 refine (inverse_side.calls k P0_ g m cap xa.length (xa.length * 5) c1 0 0 c0 (xa ++ xb) xb xa r1 r2 r3 w wq hO rfl rfl (win_right _ _) (win_left _ _) (.inr (by omega)) hB0 hrtab h).mono ?_
 rintro e w' ⟨h1, ⟨Dc, h2, h3⟩, h4⟩
 obtain ⟨rfl, h5⟩ := iw_right h3
 exact ⟨h1, h2, h5, h4⟩
def inverse_Filter.l0 : Nat → List (S58) → List (S58) → Option ((List (S58)) × Bool)
 | 0, _, _ => none
 | k + 1, xa, xb => (inverse_side.f k xa xb).bind fun ra => (if ra.2.2 = true then ((inverse_side.f k xb ra.1).bind fun rb => (if rb.2.2 = true then (if ra.2.1 = true then (inverse_Filter.l0 k ra.1 rb.1) else (if rb.2.1 = true then (inverse_Filter.l0 k ra.1 rb.1) else (some (ra.1 ++ rb.1, true)))) else (some (([] : List (S58)), false)))) else (some (([] : List (S58)), false)))
def inverse_Filter.f (k : Nat) (c : Int) (a : List Int) (d : List Int) (e : List Int) (g : List Int) (l : List Int) (m : Int) (n : List (List Int)) (p : List (S58)) : Option ((List (S58)) × Bool) := (prop_Fits.f k c a d e g l m n p 23 23).bind fun o => (if o = true then ((slices_CloneDom.f p).bind fun b => (if 0 ≤ (a.length : Int) then (if (a.length : Int) ≤ (b.length : Int) then (if a.length < b.length then (inverse_Filter.l0 k (b.take ((a.length : Int) : Int).toNat) (b.drop ((a.length : Int) : Int).toNat)) else (none)) else (none)) else (none))) else (some (([] : List (S58)), false)))
theorem inverse_Filter.mono_l : ∀ k, (∀ a b, LeO (inverse_Filter.l0 k a b) (inverse_Filter.l0 (k + 1) a b))
 | 0 => by intros; exact LeO.none _
 | k + 1 => by
  have ih0 := inverse_Filter.mono_l k
  intro a b
  unfold inverse_Filter.l0
  have m0 := @inverse_side.mono
  have m1 := @prop_Fits.mono
  exact leo_
theorem inverse_Filter.mono : ∀ a b c d e g l m n k, LeO (inverse_Filter.f k a b c d e g l m n) (inverse_Filter.f (k + 1) a b c d e g l m n) := by
 intro a b c d e g l m n k
 have ih0 := inverse_Filter.mono_l k
 unfold inverse_Filter.f
 have m0 := @inverse_side.mono
 have m1 := @prop_Fits.mono
 exact leo_
set_option maxHeartbeats 8000000 in
set_option maxRecDepth 100000 in
theorem inverse_Filter.calls (k : Nat) (E : Int) (aa : Option Addr) (c0_1 : Nat) (a : List Int) (ab : Option Addr) (c0_2 : Nat) (x : List Int) (ac : Option Addr) (c0_3 : Nat) (y : List Int) (ad : Option Addr) (c0_4 : Nat) (z : List Int) (ae : Option Addr) (c0_5 : Nat) (A : List Int) (G : Int) (af : Option Addr) (c0_7 : Nat) (B : List (List Int)) (P1_ : Nat → Prop) (A1 : Option Addr) (c1 : Nat) (l1 : List (S58)) (r1 : List (S58)) (r2 : Bool) (w : World) (aF : Kd.C (Kd.int .i64) w aa a.length a) (aG : a.length ≤ c0_1) (aH : Kd.C (Kd.int .i64) w ab x.length x) (aI : x.length ≤ c0_2) (aJ : Kd.C (Kd.int .i64) w ac y.length y) (aK : y.length ≤ c0_3) (aL : Kd.C (Kd.int .i64) w ad z.length z) (aM : z.length ≤ c0_4) (aN : Kd.C (Kd.int .i64) w ae A.length A) (aO : A.length ≤ c0_5) (aP : Kd.C (Kd.slice 3 (Kd.int .i64)) w af B.length B) (aQ : B.length ≤ c0_7) (a5 : Kd.V k58 58 w w.heap.size (fun s => P1_ s) (.slice A1 l1.length c1) l1) (hrtab : Kd.C (Kd.int .u8) w (some ⟨0, 0, none⟩) tabL.length tabL) (h : inverse_Filter.f k E a x y z A G B l1 = some (r1, r2)) :
  Calls Tryz.prog 10 #[.agg #[.int .i64 E, .slice aa a.length c0_1, .slice ab x.length c0_2, .slice ac y.length c0_3, .slice ad z.length c0_4, .slice ae A.length c0_5, .int .i64 G, .slice af B.length c0_7], .slice A1 l1.length c1] w fun e w' => ∃ a1 : Value, e = .returned (.tuple #[a1, .bool r2]) ∧ Kd.N k58 58 w' w.heap.size (fun s => (P1_ s ∨ w.heap.size ≤ s)) a1 r1 ∧ Below w.heap.size w w' := by
 have hu32 := Tryz.underlying32
 have ah := a_ aF
 have ai := a_ aG
 clear aF aG
 have aj := a_ aH
 have ak := a_ aI
 clear aH aI
 have al := a_ aJ
 have am := a_ aK
 clear aJ aK
 have an := a_ aL
 have ao := a_ aM
 clear aL aM
 have ap := a_ aN
 have aq := a_ aO
 clear aN aO
 have ar := a_ aP
 have au := a_ aQ
 clear aP aQ
 have n := a_ (show Kd.V k58 58 w w.heap.size (fun s => (P1_ s ∨ w.heap.size ≤ s)) (.slice A1 l1.length c1) l1 from vm_ a5 (fun s hk => .inl hk))
 have HRtab := a_ hrtab
 clear hrtab
 have HB := a_ (Below.refl w.heap.size w)
 unfold inverse_Filter.f at h
 have H := h
 clear h
 replace H := bo_ H
 obtain ⟨a3, A3, H⟩ := H
 try dsimp only at H
 by_cases c4 : a3 = true
 rotate_left
 ·
  replace c4 := bf_.mpr c4
  subst c4
  have H1 : (some (([] : List (S58)), false)) = some (r1, r2) := by rw [ig_ (show ¬ (false = true) by decide)] at H; exact H
  clear H
  have H := H1
  clear H1
  simp only [Option.some.injEq, Prod.mk.injEq] at H
  obtain ⟨rfl, rfl⟩ := H
  go_enter Tryz.func10, Tryz.ntmps10
  go_wp2_with (first | ((with_reducible refine gate_dst (N := 2) rfl ?_); refine bxe_ (N := 2) (cs := #[.int .i64 E, .slice aa a.length c0_1, .slice ab x.length c0_2, .slice ac y.length c0_3, .slice ad z.length c0_4, .slice ae A.length c0_5, .int .i64 G, .slice af B.length c0_7]) (t := 32) ?_; intro o hg w33 hbox hb; replace n := a_ (vb_ (Kd.V_elderB (vV_ n.out) o (Nat.le_of_eq hg.symm)) hb); have l := a_ (hbox); have I := a_ (by rw [hg]; exact (bz_ bel_) : w.heap.size ≤ o); have az := I; replace HB := hq_ hb; clear hb hbox hg; obtain ⟨_, _, _, _, _, _, _, _, _, _, _, _, _, _, _, _⟩ := cel8_ l.out) | (go_at_call 28; (with_reducible refine (prop_Fits.calls k E _ _ a _ _ x _ _ y _ _ z _ _ A G _ _ B _ _ l1 23 23 false _ ?_ ?_ ?_ ?_ ?_ ?_ ?_ ?_ ?_ ?_ ?_ ?_ ?_ ?_ A3.out).mono ?_); exact ca_ ((cb_ ah.out HB.out)); exact ai.out; exact ca_ ((cb_ aj.out HB.out)); exact ak.out; exact ca_ ((cb_ al.out HB.out)); exact am.out; exact ca_ ((cb_ an.out HB.out)); exact ao.out; exact ca_ ((cb_ ap.out HB.out)); exact aq.out; exact ca_ ((cb_ ar.out HB.out)); exact au.out; exact ca_ ((Kd.V_reads' n.out).2.2); exact (Kd.V_reads' n.out).2.1; rintro e w35 ⟨rfl, hb⟩; replace n := a_ (vb_ (vV_ n.out) hb); replace l := a_ (bq_ l.out hb); replace HB := hq_ hb; clear hb))
  repeat (go_quiet (first | ((with_reducible refine gate_dst (N := 2) rfl ?_); refine bxe_ (N := 2) (cs := #[.int .i64 E, .slice aa a.length c0_1, .slice ab x.length c0_2, .slice ac y.length c0_3, .slice ad z.length c0_4, .slice ae A.length c0_5, .int .i64 G, .slice af B.length c0_7]) (t := 32) ?_; intro o hg w33 hbox hb; replace n := a_ (vb_ (Kd.V_elderB (vV_ n.out) o (Nat.le_of_eq hg.symm)) hb); have l := a_ (hbox); have I := a_ (by rw [hg]; exact (bz_ bel_) : w.heap.size ≤ o); have az := I; replace HB := hq_ hb; clear hb hbox hg; obtain ⟨_, _, _, _, _, _, _, _, _, _, _, _, _, _, _, _⟩ := cel8_ l.out) | (go_at_call 28; (with_reducible refine (prop_Fits.calls k E _ _ a _ _ x _ _ y _ _ z _ _ A G _ _ B _ _ l1 23 23 false _ ?_ ?_ ?_ ?_ ?_ ?_ ?_ ?_ ?_ ?_ ?_ ?_ ?_ ?_ A3.out).mono ?_); exact ca_ ((cb_ ah.out HB.out)); exact ai.out; exact ca_ ((cb_ aj.out HB.out)); exact ak.out; exact ca_ ((cb_ al.out HB.out)); exact am.out; exact ca_ ((cb_ an.out HB.out)); exact ao.out; exact ca_ ((cb_ ap.out HB.out)); exact aq.out; exact ca_ ((cb_ ar.out HB.out)); exact au.out; exact ca_ ((Kd.V_reads' n.out).2.2); exact (Kd.V_reads' n.out).2.1; rintro e w35 ⟨rfl, hb⟩; replace n := a_ (vb_ (vV_ n.out) hb); replace l := a_ (bq_ l.out hb); replace HB := hq_ hb; clear hb)); try go_wp2_with (first | ((with_reducible refine gate_dst (N := 2) rfl ?_); refine bxe_ (N := 2) (cs := #[.int .i64 E, .slice aa a.length c0_1, .slice ab x.length c0_2, .slice ac y.length c0_3, .slice ad z.length c0_4, .slice ae A.length c0_5, .int .i64 G, .slice af B.length c0_7]) (t := 32) ?_; intro o hg w33 hbox hb; replace n := a_ (vb_ (Kd.V_elderB (vV_ n.out) o (Nat.le_of_eq hg.symm)) hb); have l := a_ (hbox); have I := a_ (by rw [hg]; exact (bz_ bel_) : w.heap.size ≤ o); have az := I; replace HB := hq_ hb; clear hb hbox hg; obtain ⟨_, _, _, _, _, _, _, _, _, _, _, _, _, _, _, _⟩ := cel8_ l.out) | (go_at_call 28; (with_reducible refine (prop_Fits.calls k E _ _ a _ _ x _ _ y _ _ z _ _ A G _ _ B _ _ l1 23 23 false _ ?_ ?_ ?_ ?_ ?_ ?_ ?_ ?_ ?_ ?_ ?_ ?_ ?_ ?_ A3.out).mono ?_); exact ca_ ((cb_ ah.out HB.out)); exact ai.out; exact ca_ ((cb_ aj.out HB.out)); exact ak.out; exact ca_ ((cb_ al.out HB.out)); exact am.out; exact ca_ ((cb_ an.out HB.out)); exact ao.out; exact ca_ ((cb_ ap.out HB.out)); exact aq.out; exact ca_ ((cb_ ar.out HB.out)); exact au.out; exact ca_ ((Kd.V_reads' n.out).2.2); exact (Kd.V_reads' n.out).2.1; rintro e w35 ⟨rfl, hb⟩; replace HB := hq_ hb; clear hb)))
  go_ret2
  exact ⟨_, er_, by first | exact Kd.S_nil _ _ _ _ _ | exact Kd.N_nil _ _ _ _ _ | exact Kd.V_nil _ _ _ _ _ | exact Kd.Q_nil _ _ _ _ _ | exact Kd.R_nil _ _ _ _ _, bel_⟩
 subst c4
 rw [ip_ rfl] at H
 replace H := bo_ H
 obtain ⟨b, A5, H⟩ := H
 try dsimp only at H
 by_cases c6 : 0 ≤ (a.length : Int)
 rotate_left
 ·
  rw [ig_ c6] at H
  exact ab_ H
 rw [ip_ c6] at H
 have c6b0 := et_ c6
 have c6b1 : decide (0 ≤ (a.length : Int)) = true := dt_ c6
 clear c6
 by_cases c7 : (a.length : Int) ≤ (b.length : Int)
 rotate_left
 ·
  rw [ig_ c7] at H
  exact ab_ H
 rw [ip_ c7] at H
 have c7b0 := et_ c7
 have c7b1 : decide ((a.length : Int) ≤ (b.length : Int)) = true := dt_ c7
 clear c7
 by_cases hlt : a.length < b.length
 rotate_left
 ·
  rw [ig_ hlt] at H
  exact ab_ H
 rw [ip_ hlt] at H
 have HLT := a_ hlt
 clear hlt
 obtain ⟨u, ax⟩ : ∃ y_ : List (S58), y_ = (b.take ((a.length : Int) : Int).toNat) := ⟨_, rfl⟩
 replace H : (inverse_Filter.l0 k u (b.drop ((a.length : Int) : Int).toNat)) = some (r1, r2) := h2_ H ax
 have Y := a_ ax
 clear ax
 have c8b0 := et_ (dq_ : 0 ≤ (a.length : Int))
 have c9b0 := et_ (dq_ : (a.length : Int) ≤ (b.length : Int))
 obtain ⟨p, ay⟩ : ∃ y_ : List (S58), y_ = (b.drop ((a.length : Int) : Int).toNat) := ⟨_, rfl⟩
 replace H : (inverse_Filter.l0 k u p) = some (r1, r2) := h2_ H ay
 have Z := a_ ay
 clear ay
 have H' := a_ H
 clear H
 go_enter Tryz.func10, Tryz.ntmps10
 go_wp2_with (first | ((with_reducible refine gate_dst (N := 2) rfl ?_); refine bxe_ (N := 2) (cs := #[.int .i64 E, .slice aa a.length c0_1, .slice ab x.length c0_2, .slice ac y.length c0_3, .slice ad z.length c0_4, .slice ae A.length c0_5, .int .i64 G, .slice af B.length c0_7]) (t := 32) ?_; intro o hg w10 hbox hb; replace n := a_ (vb_ (Kd.V_elderB (vV_ n.out) o (Nat.le_of_eq hg.symm)) hb); have l := a_ (hbox); have I := a_ (by rw [hg]; exact (bz_ bel_) : w.heap.size ≤ o); have az := I; replace HB := hq_ hb; clear hb hbox hg; obtain ⟨_, _, _, _, _, _, _, _, _, _, _, _, _, _, _, _⟩ := cel8_ l.out) | (go_at_call 28; (with_reducible refine (prop_Fits.calls k E _ _ a _ _ x _ _ y _ _ z _ _ A G _ _ B _ _ l1 23 23 true _ ?_ ?_ ?_ ?_ ?_ ?_ ?_ ?_ ?_ ?_ ?_ ?_ ?_ ?_ A3.out).mono ?_); exact ca_ ((cb_ ah.out HB.out)); exact ai.out; exact ca_ ((cb_ aj.out HB.out)); exact ak.out; exact ca_ ((cb_ al.out HB.out)); exact am.out; exact ca_ ((cb_ an.out HB.out)); exact ao.out; exact ca_ ((cb_ ap.out HB.out)); exact aq.out; exact ca_ ((cb_ ar.out HB.out)); exact au.out; exact ca_ ((Kd.V_reads' n.out).2.2); exact (Kd.V_reads' n.out).2.1; rintro e w12 ⟨rfl, hb⟩; replace n := a_ (vb_ (vV_ n.out) hb); replace l := a_ (bq_ l.out hb); replace HB := hq_ hb; clear hb) | (go_at_call 29; (with_reducible refine (slices_CloneDom.calls (fun s => ((P1_ s ∨ w.heap.size ≤ s) ∧ s ≠ o)) _ _ l1 b _ ?_ A5.out).mono ?_); exact n.out; rintro e w13 ⟨aY, rfl, av, hb⟩; replace n := a_ (Kd.V_elder' (vV_ n.out) (Kd.N_base av) hb); have q := a_ (Kd.N_lower (nm_ (ok' := fun s => (P1_ s ∨ w.heap.size ≤ s) ∧ s ≠ o) av (fun s hk_ => ⟨Or.elim hk_ (fun hs_ => hs_.1) (fun hn_ => (.inr (Nat.le_trans (bz_ bel_) hn_))), Or.elim hk_ (fun hs_ => hs_.2) (fun hn_ => (Kd.freshB (bk_ l.out) s hn_))⟩)) (bz_ bel_)); replace l := a_ (bq_ l.out hb); replace HB := hq_ hb; clear hb av; obtain ⟨_, _, _, _, _, _, _, _, _, _, _, _, _, _, _, _⟩ := cel8_ l.out; obtain ⟨v, d, aB⟩ := Kd.N_slice q.out; subst aB; have W : ((a.length : Int) : Int) ≤ ((b.length : Int) : Int) := dq_; obtain ⟨i015, Q, _, hsz15, _⟩ := info_parts info58; have hroom15 : b.length ≤ d := (Kd.N_reads' q.out).2.1; have hC15 : Kd.F k58 _ _ v b.length b := (Kd.V_at (base := w.heap.size) (Kd.N_V q.out)).2.2; have hcut15 := cut_to (P := Tryz.prog) 36 58 .i64 Tryz.underlying36 Q v b.length d (a.length : Int) (dq_) W hroom15; have ag := Kd.F_take (m := ((a.length : Int) : Int).toNat) hC15 (by omega); have M : u.length = ((a.length : Int) : Int).toNat := (by rw [Y.out, List.length_take]; omega); rw [← Y.out] at ag; rw [← M] at hcut15; have aR := a_ (show u.length ≤ d from by omega); clear ag hC15 hroom15 Q hsz15; have KY15 := a_ M; clear M; replace W := et_ W; have X : ((a.length : Int) : Int) ≤ ((b.length : Int) : Int) := dq_; obtain ⟨i017, U, _, hsz17, _⟩ := info_parts info58; have hroom17 : b.length ≤ d := (Kd.N_reads' q.out).2.1; have hC17 : Kd.F k58 _ _ v b.length b := (Kd.V_at (base := w.heap.size) (Kd.N_V q.out)).2.2; have aA : (0 : Int) ≤ ((a.length : Int) : Int) := dq_; have hcut17 := cut_from (P := Tryz.prog) 36 58 .i64 Tryz.underlying36 U 5 hsz17 v b.length d (a.length : Int) aA X; have J := Kd.F_cut (m := ((a.length : Int) : Int).toNat) (c := d) hC17 (by omega) hroom17; obtain ⟨aC, hA17⟩ : ∃ aD, aD = (if d = ((a.length : Int) : Int).toNat then v else (v : Option Addr).map (·.add (((a.length : Int) : Int).toNat * 5))) := ⟨_, rfl⟩; obtain ⟨c17, O⟩ : ∃ c1_, c1_ = d - ((a.length : Int) : Int).toNat := ⟨_, rfl⟩; have K : p.length = b.length - ((a.length : Int) : Int).toNat := (by rw [Z.out, List.length_drop] <;> omega); rw [show (b).drop ((a.length : Int) : Int).toNat = p from Z.out.symm] at J; replace J : Kd.F k58 _ _ aC p.length p := (by rw [hA17]; exact J); rw [← K, ← hA17, ← O] at hcut17; have aS := a_ (show p.length ≤ c17 from by rw [K, O]; exact Nat.sub_le_sub_right hroom17 _); clear J hC17 hroom17 U hsz17 O; have KY17 := a_ K; have KA17 := a_ hA17; clear K hA17; replace X := et_ X))
 repeat (go_quiet (first | ((with_reducible refine gate_dst (N := 2) rfl ?_); refine bxe_ (N := 2) (cs := #[.int .i64 E, .slice aa a.length c0_1, .slice ab x.length c0_2, .slice ac y.length c0_3, .slice ad z.length c0_4, .slice ae A.length c0_5, .int .i64 G, .slice af B.length c0_7]) (t := 32) ?_; intro o hg w10 hbox hb; replace n := a_ (vb_ (Kd.V_elderB (vV_ n.out) o (Nat.le_of_eq hg.symm)) hb); have l := a_ (hbox); have I := a_ (by rw [hg]; exact (bz_ bel_) : w.heap.size ≤ o); have az := I; replace HB := hq_ hb; clear hb hbox hg; obtain ⟨_, _, _, _, _, _, _, _, _, _, _, _, _, _, _, _⟩ := cel8_ l.out) | (go_at_call 28; (with_reducible refine (prop_Fits.calls k E _ _ a _ _ x _ _ y _ _ z _ _ A G _ _ B _ _ l1 23 23 true _ ?_ ?_ ?_ ?_ ?_ ?_ ?_ ?_ ?_ ?_ ?_ ?_ ?_ ?_ A3.out).mono ?_); exact ca_ ((cb_ ah.out HB.out)); exact ai.out; exact ca_ ((cb_ aj.out HB.out)); exact ak.out; exact ca_ ((cb_ al.out HB.out)); exact am.out; exact ca_ ((cb_ an.out HB.out)); exact ao.out; exact ca_ ((cb_ ap.out HB.out)); exact aq.out; exact ca_ ((cb_ ar.out HB.out)); exact au.out; exact ca_ ((Kd.V_reads' n.out).2.2); exact (Kd.V_reads' n.out).2.1; rintro e w12 ⟨rfl, hb⟩; replace n := a_ (vb_ (vV_ n.out) hb); replace l := a_ (bq_ l.out hb); replace HB := hq_ hb; clear hb) | (go_at_call 29; (with_reducible refine (slices_CloneDom.calls (fun s => ((P1_ s ∨ w.heap.size ≤ s) ∧ s ≠ o)) _ _ l1 b _ ?_ A5.out).mono ?_); exact n.out; rintro e w13 ⟨aY, rfl, av, hb⟩; replace n := a_ (Kd.V_elder' (vV_ n.out) (Kd.N_base av) hb); have q := a_ (Kd.N_lower (nm_ (ok' := fun s => (P1_ s ∨ w.heap.size ≤ s) ∧ s ≠ o) av (fun s hk_ => ⟨Or.elim hk_ (fun hs_ => hs_.1) (fun hn_ => (.inr (Nat.le_trans (bz_ bel_) hn_))), Or.elim hk_ (fun hs_ => hs_.2) (fun hn_ => (Kd.freshB (bk_ l.out) s hn_))⟩)) (bz_ bel_)); replace l := a_ (bq_ l.out hb); replace HB := hq_ hb; clear hb av; obtain ⟨_, _, _, _, _, _, _, _, _, _, _, _, _, _, _, _⟩ := cel8_ l.out; obtain ⟨v, d, aB⟩ := Kd.N_slice q.out; subst aB; have W : ((a.length : Int) : Int) ≤ ((b.length : Int) : Int) := dq_; obtain ⟨i015, Q, _, hsz15, _⟩ := info_parts info58; have hroom15 : b.length ≤ d := (Kd.N_reads' q.out).2.1; have hC15 : Kd.F k58 _ _ v b.length b := (Kd.V_at (base := w.heap.size) (Kd.N_V q.out)).2.2; have hcut15 := cut_to (P := Tryz.prog) 36 58 .i64 Tryz.underlying36 Q v b.length d (a.length : Int) (dq_) W hroom15; have ag := Kd.F_take (m := ((a.length : Int) : Int).toNat) hC15 (by omega); have M : u.length = ((a.length : Int) : Int).toNat := (by rw [Y.out, List.length_take]; omega); rw [← Y.out] at ag; rw [← M] at hcut15; have aR := a_ (show u.length ≤ d from by omega); clear ag hC15 hroom15 Q hsz15; have KY15 := a_ M; clear M; replace W := et_ W; have X : ((a.length : Int) : Int) ≤ ((b.length : Int) : Int) := dq_; obtain ⟨i017, U, _, hsz17, _⟩ := info_parts info58; have hroom17 : b.length ≤ d := (Kd.N_reads' q.out).2.1; have hC17 : Kd.F k58 _ _ v b.length b := (Kd.V_at (base := w.heap.size) (Kd.N_V q.out)).2.2; have aA : (0 : Int) ≤ ((a.length : Int) : Int) := dq_; have hcut17 := cut_from (P := Tryz.prog) 36 58 .i64 Tryz.underlying36 U 5 hsz17 v b.length d (a.length : Int) aA X; have J := Kd.F_cut (m := ((a.length : Int) : Int).toNat) (c := d) hC17 (by omega) hroom17; obtain ⟨aC, hA17⟩ : ∃ aD, aD = (if d = ((a.length : Int) : Int).toNat then v else (v : Option Addr).map (·.add (((a.length : Int) : Int).toNat * 5))) := ⟨_, rfl⟩; obtain ⟨c17, O⟩ : ∃ c1_, c1_ = d - ((a.length : Int) : Int).toNat := ⟨_, rfl⟩; have K : p.length = b.length - ((a.length : Int) : Int).toNat := (by rw [Z.out, List.length_drop] <;> omega); rw [show (b).drop ((a.length : Int) : Int).toNat = p from Z.out.symm] at J; replace J : Kd.F k58 _ _ aC p.length p := (by rw [hA17]; exact J); rw [← K, ← hA17, ← O] at hcut17; have aS := a_ (show p.length ≤ c17 from by rw [K, O]; exact Nat.sub_le_sub_right hroom17 _); clear J hC17 hroom17 U hsz17 O; have KY17 := a_ K; have KA17 := a_ hA17; clear K hA17; replace X := et_ X)); try go_wp2_with (first | ((with_reducible refine gate_dst (N := 2) rfl ?_); refine bxe_ (N := 2) (cs := #[.int .i64 E, .slice aa a.length c0_1, .slice ab x.length c0_2, .slice ac y.length c0_3, .slice ad z.length c0_4, .slice ae A.length c0_5, .int .i64 G, .slice af B.length c0_7]) (t := 32) ?_; intro o hg w10 hbox hb; replace n := a_ (vb_ (Kd.V_elderB (vV_ n.out) o (Nat.le_of_eq hg.symm)) hb); have l := a_ (hbox); have I := a_ (by rw [hg]; exact (bz_ bel_) : w.heap.size ≤ o); have az := I; replace HB := hq_ hb; clear hb hbox hg; obtain ⟨_, _, _, _, _, _, _, _, _, _, _, _, _, _, _, _⟩ := cel8_ l.out) | (go_at_call 28; (with_reducible refine (prop_Fits.calls k E _ _ a _ _ x _ _ y _ _ z _ _ A G _ _ B _ _ l1 23 23 true _ ?_ ?_ ?_ ?_ ?_ ?_ ?_ ?_ ?_ ?_ ?_ ?_ ?_ ?_ A3.out).mono ?_); exact ca_ ((cb_ ah.out HB.out)); exact ai.out; exact ca_ ((cb_ aj.out HB.out)); exact ak.out; exact ca_ ((cb_ al.out HB.out)); exact am.out; exact ca_ ((cb_ an.out HB.out)); exact ao.out; exact ca_ ((cb_ ap.out HB.out)); exact aq.out; exact ca_ ((cb_ ar.out HB.out)); exact au.out; exact ca_ ((Kd.V_reads' n.out).2.2); exact (Kd.V_reads' n.out).2.1; rintro e w12 ⟨rfl, hb⟩; replace n := a_ (vb_ (vV_ n.out) hb); replace l := a_ (bq_ l.out hb); replace HB := hq_ hb; clear hb) | (go_at_call 29; (with_reducible refine (slices_CloneDom.calls (fun s => ((P1_ s ∨ w.heap.size ≤ s) ∧ s ≠ o)) _ _ l1 b _ ?_ A5.out).mono ?_); exact n.out; rintro e w13 ⟨aY, rfl, av, hb⟩; have q := a_ (Kd.N_lower (nm_ (ok' := fun s => (P1_ s ∨ w.heap.size ≤ s) ∧ s ≠ o) av (fun s hk_ => ⟨Or.elim hk_ (fun hs_ => hs_.1) (fun hn_ => (.inr (Nat.le_trans (bz_ bel_) hn_))), Or.elim hk_ (fun hs_ => hs_.2) (fun hn_ => (Kd.freshB (bk_ l.out) s hn_))⟩)) (bz_ bel_)); replace l := a_ (bq_ l.out hb); replace HB := hq_ hb; clear hb av; obtain ⟨_, _, _, _, _, _, _, _, _, _, _, _, _, _, _, _⟩ := cel8_ l.out; obtain ⟨v, d, aB⟩ := Kd.N_slice q.out; subst aB; have W : ((a.length : Int) : Int) ≤ ((b.length : Int) : Int) := dq_; obtain ⟨i015, Q, _, hsz15, _⟩ := info_parts info58; have hroom15 : b.length ≤ d := (Kd.N_reads' q.out).2.1; have hC15 : Kd.F k58 _ _ v b.length b := (Kd.V_at (base := w.heap.size) (Kd.N_V q.out)).2.2; have hcut15 := cut_to (P := Tryz.prog) 36 58 .i64 Tryz.underlying36 Q v b.length d (a.length : Int) (dq_) W hroom15; have ag := Kd.F_take (m := ((a.length : Int) : Int).toNat) hC15 (by omega); have M : u.length = ((a.length : Int) : Int).toNat := (by rw [Y.out, List.length_take]; omega); rw [← Y.out] at ag; rw [← M] at hcut15; have aR := a_ (show u.length ≤ d from by omega); clear ag hC15 hroom15 Q hsz15; have KY15 := a_ M; clear M; replace W := et_ W; have X : ((a.length : Int) : Int) ≤ ((b.length : Int) : Int) := dq_; obtain ⟨i017, U, _, hsz17, _⟩ := info_parts info58; have hroom17 : b.length ≤ d := (Kd.N_reads' q.out).2.1; have hC17 : Kd.F k58 _ _ v b.length b := (Kd.V_at (base := w.heap.size) (Kd.N_V q.out)).2.2; have aA : (0 : Int) ≤ ((a.length : Int) : Int) := dq_; have hcut17 := cut_from (P := Tryz.prog) 36 58 .i64 Tryz.underlying36 U 5 hsz17 v b.length d (a.length : Int) aA X; have J := Kd.F_cut (m := ((a.length : Int) : Int).toNat) (c := d) hC17 (by omega) hroom17; obtain ⟨aC, hA17⟩ : ∃ aD, aD = (if d = ((a.length : Int) : Int).toNat then v else (v : Option Addr).map (·.add (((a.length : Int) : Int).toNat * 5))) := ⟨_, rfl⟩; obtain ⟨c17, O⟩ : ∃ c1_, c1_ = d - ((a.length : Int) : Int).toNat := ⟨_, rfl⟩; have K : p.length = b.length - ((a.length : Int) : Int).toNat := (by rw [Z.out, List.length_drop] <;> omega); rw [show (b).drop ((a.length : Int) : Int).toNat = p from Z.out.symm] at J; replace J : Kd.F k58 _ _ aC p.length p := (by rw [hA17]; exact J); rw [← K, ← hA17, ← O] at hcut17; have aS := a_ (show p.length ≤ c17 from by rw [K, O]; exact Nat.sub_le_sub_right hroom17 _); clear J hC17 hroom17 U hsz17 O; have KY17 := a_ K; have KA17 := a_ hA17; clear K hA17; replace X := et_ X)))
 obtain ⟨g, cap, eg, gb_, gl_, hcl_, HG_⟩ := Kd.N_form q.out (by have := HLT.out; omega)
 injection eg with eg1 eg2 eg3
 subst eg1
 subst eg3
 have hA17 : aC = some ⟨g, u.length * 5, none⟩ := by
  have h2 := (Kd.N_reads' q.out).2.1
  have h3 := HLT.out
  have h4 := KY15.out
  rw [KA17.out, ig_ (by omega), h4]
  simp [Addr.add]
  omega
 subst hA17
 clear gb_ gl_ HG_ KA17
 go_loopg [] k (fun kq w' => ∃ (xa : List (S58)) (xb : List (S58)) (Dc : List (S58)), Aside0 (inverse_Filter.l0 kq xa xb = some (r1, r2)) ∧ Aside0 (kq ≤ k) ∧ Aside0 (Kd.N k58 58 w' w.heap.size (fun s => (P1_ s ∨ w.heap.size ≤ s)) (.slice (some ⟨g, 0, none⟩) b.length d) Dc) ∧ Aside0 (Dc = xa ++ xb ∧ xa.length = u.length ∧ xb.length = p.length) ∧ Aside0 (Below w.heap.size w w'))
 case atStart => exact ⟨u, p, b, H', ⟨lr_ _⟩, ⟨by refine vN_ ?_; exact nm_ q.out (fun _ hk => hk.1)⟩, ⟨by rw [Y.out, Z.out, List.take_append_drop], rfl, rfl⟩, ⟨bel_⟩⟩
 clear H'
 try clear c1
 try clear q1
 try clear p2
 try clear c4
 try clear c6
 try clear c6b0
 try clear c6b1
 try clear c7
 try clear c7b0
 try clear c7b1
 try clear c8
 try clear c8b0
 try clear c9
 try clear c9b0
 try clear c10
 try clear W
 try clear c17
 try clear X
 try clear aA
 try clear W
 try clear X
 obtain ⟨xa, xb, Dc, HA, aT, HO_6, HW, HB⟩ := hrel
 cases gk with
 | zero => exact absurd HA.out (by simp [inverse_Filter.l0])
 | succ k1 =>
  have H := HA.out
  clear HA
  simp only [inverse_Filter.l0] at H
  replace H := bs_.mp H
  obtain ⟨⟨ra, ca, oka⟩, aZ, H⟩ := H
  have aE := a_ aZ
  clear aZ
  cases oka with
  | false =>
   rw [ig_ (show ¬ (false = true) by decide)] at H
   simp only [Option.some.injEq, Prod.mk.injEq] at H
   obtain ⟨rfl, rfl⟩ := H
   go_wp2_with (first | (go_at_call 30; (with_reducible refine (inverse_side.calls_win k1 P1_ g b.length d u.length d p.length c17 xa xb Dc ra ca false w wr HO_6.out HW.out.1 HW.out.2.1 HW.out.2.2 HB.out HRtab.out aE.out).mono ?_); rintro e w23 ⟨rfl, hN1_, r, hb1_⟩; have n0_ := a_ hN1_; have n1_ := a_ hb1_; clear HO_6; clear HB; have HB := n1_; clear n0_ n1_ hN1_ hb1_ r))
   go_ret2
   exact ⟨_, er_, Kd.N_nil _ _ _ _ _, bel_⟩
  | true =>
   rw [ip_ rfl] at H
   replace H := bs_.mp H
   obtain ⟨⟨rb, cb, okb⟩, a0, H⟩ := H
   have aU := a_ a0
   clear a0
   cases okb with
   | false =>
    rw [ig_ (show ¬ (false = true) by decide)] at H
    simp only [Option.some.injEq, Prod.mk.injEq] at H
    obtain ⟨rfl, rfl⟩ := H
    go_wp2_with (first | (go_at_call 30; (with_reducible refine (inverse_side.calls_win k1 P1_ g b.length d u.length d p.length c17 xa xb Dc ra ca true w wr HO_6.out HW.out.1 HW.out.2.1 HW.out.2.2 HB.out HRtab.out aE.out).mono ?_); rintro e w23 ⟨rfl, hN1_, r, hb1_⟩; have n0_ := a_ hN1_; have n1_ := a_ hb1_; have HL1 := a_ r; clear HO_6; clear HB; have HO_6 := n0_; have HB := n1_; clear n0_ n1_ hN1_ hb1_ r) | (go_at_call 30; (with_reducible refine (inverse_side.calls_win2 k1 P1_ g b.length d u.length d p.length c17 ra xb (ra ++ xb) rb cb false w w23 HO_6.out rfl HL1.out HW.out.2.2 HB.out HRtab.out aU.out).mono ?_); rintro e w24 ⟨rfl, hN1_, r, hb1_⟩; have n0_ := a_ hN1_; have n1_ := a_ hb1_; clear HO_6; clear HB; have HB := n1_; clear n0_ n1_ hN1_ hb1_ r))
    go_ret2
    exact ⟨_, er_, Kd.N_nil _ _ _ _ _, bel_⟩
   | true =>
    rw [ip_ rfl] at H
    cases ca with
    | true =>
     rw [ip_ rfl] at H
     have H' := a_ H
     clear H
     go_wp2_with (first | (go_at_call 30; (with_reducible refine (inverse_side.calls_win k1 P1_ g b.length d u.length d p.length c17 xa xb Dc ra true true w wr HO_6.out HW.out.1 HW.out.2.1 HW.out.2.2 HB.out HRtab.out aE.out).mono ?_); rintro e w23 ⟨rfl, hN1_, r, hb1_⟩; have n0_ := a_ hN1_; have n1_ := a_ hb1_; have HL1 := a_ r; clear HO_6; clear HB; have HO_6 := n0_; have HB := n1_; clear n0_ n1_ hN1_ hb1_ r) | (go_at_call 30; (with_reducible refine (inverse_side.calls_win2 k1 P1_ g b.length d u.length d p.length c17 ra xb (ra ++ xb) rb cb true w w23 HO_6.out rfl HL1.out HW.out.2.2 HB.out HRtab.out aU.out).mono ?_); rintro e w24 ⟨rfl, hN1_, r, hb1_⟩; have n0_ := a_ hN1_; have n1_ := a_ hb1_; have HL2 := a_ r; clear HO_6; clear HB; have HO_6 := n0_; have HB := n1_; clear n0_ n1_ hN1_ hb1_ r))
     go_roundg k1
     case measure => have := aT.out; omega
     case rel => exact ⟨ra, rb, _, H', ⟨by have := aT.out; omega⟩, ⟨(vN_ HO_6.out)⟩, ⟨rfl, HL1.out, HL2.out⟩, ⟨bel_⟩⟩
    | false =>
     rw [ig_ (show ¬ (false = true) by decide)] at H
     cases cb with
     | true =>
      rw [ip_ rfl] at H
      have H' := a_ H
      clear H
      go_wp2_with (first | (go_at_call 30; (with_reducible refine (inverse_side.calls_win k1 P1_ g b.length d u.length d p.length c17 xa xb Dc ra false true w wr HO_6.out HW.out.1 HW.out.2.1 HW.out.2.2 HB.out HRtab.out aE.out).mono ?_); rintro e w23 ⟨rfl, hN1_, r, hb1_⟩; have n0_ := a_ hN1_; have n1_ := a_ hb1_; have HL1 := a_ r; clear HO_6; clear HB; have HO_6 := n0_; have HB := n1_; clear n0_ n1_ hN1_ hb1_ r) | (go_at_call 30; (with_reducible refine (inverse_side.calls_win2 k1 P1_ g b.length d u.length d p.length c17 ra xb (ra ++ xb) rb true true w w23 HO_6.out rfl HL1.out HW.out.2.2 HB.out HRtab.out aU.out).mono ?_); rintro e w24 ⟨rfl, hN1_, r, hb1_⟩; have n0_ := a_ hN1_; have n1_ := a_ hb1_; have HL2 := a_ r; clear HO_6; clear HB; have HO_6 := n0_; have HB := n1_; clear n0_ n1_ hN1_ hb1_ r))
      go_roundg k1
      case measure => have := aT.out; omega
      case rel => exact ⟨ra, rb, _, H', ⟨by have := aT.out; omega⟩, ⟨(vN_ HO_6.out)⟩, ⟨rfl, HL1.out, HL2.out⟩, ⟨bel_⟩⟩
     | false =>
      rw [ig_ (show ¬ (false = true) by decide)] at H
      simp only [Option.some.injEq, Prod.mk.injEq] at H
      obtain ⟨rfl, rfl⟩ := H
      go_wp2_with (first | (go_at_call 30; (with_reducible refine (inverse_side.calls_win k1 P1_ g b.length d u.length d p.length c17 xa xb Dc ra false true w wr HO_6.out HW.out.1 HW.out.2.1 HW.out.2.2 HB.out HRtab.out aE.out).mono ?_); rintro e w23 ⟨rfl, hN1_, r, hb1_⟩; have n0_ := a_ hN1_; have n1_ := a_ hb1_; have HL1 := a_ r; clear HO_6; clear HB; have HO_6 := n0_; have HB := n1_; clear n0_ n1_ hN1_ hb1_ r) | (go_at_call 30; (with_reducible refine (inverse_side.calls_win2 k1 P1_ g b.length d u.length d p.length c17 ra xb (ra ++ xb) rb false true w w23 HO_6.out rfl HL1.out HW.out.2.2 HB.out HRtab.out aU.out).mono ?_); rintro e w24 ⟨rfl, hN1_, r, hb1_⟩; have n0_ := a_ hN1_; have n1_ := a_ hb1_; clear HO_6; clear HB; have HO_6 := n0_; have HB := n1_; clear n0_ n1_ hN1_ hb1_ r))
      go_ret2
      exact ⟨_, er_, (vN_ HO_6.out), bel_⟩

end Go.Proofs.YtfbfalhdgmjdpaaGreatDoor.XInverseTurns
