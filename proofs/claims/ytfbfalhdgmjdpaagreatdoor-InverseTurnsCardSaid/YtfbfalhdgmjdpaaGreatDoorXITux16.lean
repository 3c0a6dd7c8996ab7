-- by xprint.py, a program of this session, over the kit's print
import Derived.Test.YtfbfalhdgmjdpaaGreatDoorXITux0
import Derived.Test.YtfbfalhdgmjdpaaGreatDoorXITux8
import Derived.Test.YtfbfalhdgmjdpaaGreatDoorXITux10
import Derived.Test.YtfbfalhdgmjdpaaGreatDoorSq
namespace Go.Proofs.YtfbfalhdgmjdpaaGreatDoor.XInverseTurns
open Go.RowKit Go.Proofs.YtfbfalhdgmjdpaaGreatDoor.Sq Go.Proofs.YtfbfalhdgmjdpaaGreatDoorW.PrintWords Go.Proofs.YtfbfalhdgmjdpaaGreatDoorW.PrintLast Go.Proofs.YtfbfalhdgmjdpaaGreatDoorW.PrintMore
attribute [local go_sem] max2_int min2_int max_two min_two max_three min_three max_four min_four   -- for this text's walks alone
set_option linter.unusedVariables false
set_option linter.unusedSimpArgs false

/-! ### slices_CloneRows: function 25 -/
def slices_CloneRows.f (a : List (List Int)) : Option (List (List Int)) := if a.length < 1000000000000 then some a else none
theorem infoRows : (Tryz.prog.info? 30).map (fun i => (i.zero, i.size, i.bytes)) = some (some (.slice none 0 0), 1, 24) := by kernel_rfl
theorem slices_CloneRows.calls (P0_ : Nat → Prop) (o : Option Addr) (c0 : Nat) (g : List (List Int)) (r : List (List Int)) (w : World) (l : Kd.V (Kd.slice 3 (Kd.int .i64)) 30 w w.heap.size (fun d => P0_ d) (.slice o g.length c0) g) (h : slices_CloneRows.f g = some r) :
  Calls Tryz.prog 25 #[.slice o g.length c0] w fun e w' => ∃ m : Value, e = .returned (m) ∧ Kd.N (Kd.slice 3 (Kd.int .i64)) 30 w' w.heap.size (fun d => (P0_ d ∨ w.heap.size ≤ d)) m r ∧ Below w.heap.size w w' := by
 unfold slices_CloneRows.f at h
 by_cases hb : g.length < 1000000000000
 rotate_left
 · rw [if_neg hb] at h; cases h
 rw [if_pos hb] at h
 obtain rfl := Option.some.inj h
 clear h
 rcases o with _ | ad
 ·
  have h0 : g = [] := by
   rcases Nat.eq_zero_or_pos g.length with h0 | h0
   · exact List.eq_nil_of_length_eq_zero h0
   obtain ⟨ad, e, _⟩ := (Kd.F_now (Kd.V_F l)).2.2 h0; cases e
  subst h0
  have qT : ∀ (w : World) (a : Option Addr) (n c n' c' : Nat), (binOp .eql 27 (.slice a n c) (.slice none n' c')).run Tryz.prog w = .ok (.bool a.isNone) w := fun w a n c n' c' => Lib.run_eql_slice_nil w _ _ a n c n' c' Tryz.underlying27
  clear l hb
  go_enter Tryz.func25, Tryz.ntmps25
  go_wp2
  go_ret
  exact ⟨_, rfl, Kd.N_nil _ _ _ _ _, Below.refl _ _⟩
 have qT : ∀ (w : World) (a : Option Addr) (n c n' c' : Nat), (binOp .eql 27 (.slice a n c) (.slice none n' c')).run Tryz.prog w = .ok (.bool a.isNone) w := fun w a n c n' c' => Lib.run_eql_slice_nil w _ _ a n c n' c' Tryz.underlying27
 have HR := Aside0.mk l
 have HL := Aside0.mk hb
 clear l hb
 go_enter Tryz.func25, Tryz.ntmps25
 go_wp2_with (first | ((with_reducible refine gate_dst (N := 5) rfl ?_); refine Kd.R_lit (Kd.slice 3 (Kd.int .i64)) _ 30 ?hg (N := 5) ?hd (xs := ([] : List (List Int))) (inner := []) (ok := fun d => w.heap.size ≤ d) (okp := fun _ => False) ?hr ?hp (fun _ hk => hk.elim) (Nat.le_refl _) (Below.refl _ _) (Nat.le_refl _) (by simp) ?_; (case hd => rfl); (case hg => rfl); (case hr => first | (go_simp; done) | (go_simp; rfl)); (case hp => exact Reps.none _ _); intro p w1 hR hB hG hat; have HO := Aside0.mk (Kd.N_mono (Kd.R_N hR) (ok' := fun d => (P0_ d ∧ d < w.heap.size) ∨ w.heap.size ≤ d) (fun k hk => Or.inr hk)); have HB := Aside0.mk hB; have HV := Aside0.mk (fun k (hk : some k = p.ownBlock) => hR.1 k hk.symm); clear hR hB hG hat) | ((with_reducible refine gate_builtin (b := .append) (xs := #[.tmp 5, .tmp 6]) rfl ?_); at_builtin; refine Kd.N_append_rows (Kd.slice 3 (Kd.int .i64)) (w0 := w) w.heap.size rfl (.tmp 5) (.tmp 6) 27 30 (.slice none 0 0) 24 rfl Tryz.underlying27 infoRows rfl (by decide) (by decide) p [] g (some ad) g.length c0 (fun d => (P0_ d ∧ d < w.heap.size) ∨ w.heap.size ≤ d) (fun d => P0_ d ∧ d < w.heap.size) rfl rfl HO.out (Kd.V_F (Kd.V_below (Kd.V_bound HR.out) HB.out)) (fun k hk => ⟨Or.inl hk, fun he => Nat.lt_irrefl _ (Nat.lt_of_lt_of_le hk.2 (HV.out k he))⟩) (fun k hk => Or.inr (Nat.le_trans HB.out.size hk)) HB.out HB.out.size (by have := HL.out; simp only [List.length_nil]; omega) ?_; intro s w2 hR hB hG hat; have q := Aside0.mk hR; have HB2 := Aside0.mk hB; clear hR hB hG hat))
 go_ret
 exact ⟨_, rfl, Kd.N_mono q.out (fun k hk => hk.elim (fun h => Or.inl h.1) Or.inr), HB2.out⟩

/-! ### slices_CloneU64: function 89 -/
def slices_CloneU64.f (a : List Int) : Option (List Int) := if a.length < 17592186044416 then some a else none
theorem infoU64 : (Tryz.prog.info? 83).map (fun i => (i.zero, i.size, i.bytes)) = some (some (.int .u64 0), 1, 8) := by kernel_rfl
theorem slices_CloneU64.calls (l : Option Addr) (c0 : Nat) (d : List Int) (r : List Int) (w : World) (g : Kd.C (Kd.int .u64) w l d.length d) (p : d.length ≤ c0) (h : slices_CloneU64.f d = some r) :
  Calls Tryz.prog 89 #[.slice l d.length c0] w fun e w' => ∃ v_ : Value, e = .returned v_ ∧ Kd.R (Kd.int .u64) 83 w' w.heap.size (fun _ => True) v_ r ∧ Below w.heap.size w w' := by
 unfold slices_CloneU64.f at h
 by_cases hb : d.length < 17592186044416
 rotate_left
 · rw [if_neg hb] at h; cases h
 rw [if_pos hb] at h
 obtain rfl := Option.some.inj h
 clear h
 rcases l with _ | ad
 ·
  have h0 : d = [] := by
   rcases Nat.eq_zero_or_pos d.length with h0 | h0
   · exact List.eq_nil_of_length_eq_zero h0
   obtain ⟨ad, e, _⟩ := g.2.2 h0; cases e
  subst h0
  have qT : ∀ (w : World) (a : Option Addr) (n c n' c' : Nat), (binOp .eql 56 (.slice a n c) (.slice none n' c')).run Tryz.prog w = .ok (.bool a.isNone) w := fun w a n c n' c' => Lib.run_eql_slice_nil w _ _ a n c n' c' Tryz.underlying56
  clear g hb
  go_enter Tryz.func89, Tryz.ntmps89
  go_wp2
  go_ret
  exact ⟨_, rfl, Kd.R_nil _ _ _ _ _, Below.refl _ _⟩
 have hnil : ∀ (W : World), (binOp .eql 56 (.slice (some ad) d.length c0) (.slice none 0 0)).run Tryz.prog W = .ok (.bool false) W := fun W => Lib.run_eql_slice_nil W 56 83 (some ad) d.length c0 0 0 Tryz.underlying56
 have HR := Aside0.mk g
 have HL := Aside0.mk hb
 clear g hb
 go_enter Tryz.func89, Tryz.ntmps89
 go_wp2_with (first | ((with_reducible refine gate_dst (N := 5) rfl ?_); refine Kd.R_lit (Kd.int .u64) _ 83 ?hg (N := 5) ?hd (xs := ([] : List Int)) (inner := []) (ok := fun _ => True) (okp := fun _ => True) ?hr ?hp (fun _ hk => hk) trivial (Below.refl _ _) (Nat.le_refl _) (by simp) ?_; (case hd => rfl); (case hg => rfl); (case hr => first | (go_simp; done) | (go_simp; rfl)); (case hp => exact Reps.none _ _); intro o w1 hR hB hG hat; have HO := Aside0.mk hR; have HB := Aside0.mk hB; clear hR hB hG hat) | ((with_reducible refine gate_builtin (b := .append) (xs := #[.tmp 5, .tmp 6]) rfl ?_); at_builtin; refine Kd.R_append_row (Value.int .u64) (0 : Int) (h1 := fun _ => rfl) (w0 := w) w.heap.size rfl (.tmp 5) (.tmp 6) 56 83 (.int .u64 0) 8 rfl Tryz.underlying56 infoU64 rfl (by decide) o [] d (some ad) d.length c0 (fun _ => True) rfl rfl (fun _ _ => trivial) HO.out (Kd.C_below HR.out HB.out) HB.out HB.out.size (by have := HL.out; simp only [List.length_nil]; omega) ?_; intro q w2 hR hB hG hat; have m := Aside0.mk hR; have HB2 := Aside0.mk hB; clear hR hB hG hat))
 go_ret
 exact ⟨_, rfl, m.out, HB2.out⟩

-- NOT PRINTED: function 73 (dom_Dom_less)

/-! ### dom_Dom_And_1: function 74 -/
def dom_Dom_And_1.f (l : Int) (m : Int) (a : Int) (b : List Int) (c : Int) (d : Int) (e : Int) : Option (Int) := (dom_Dom_word.f a b c d e l).bind fun g => (some g)
set_option maxHeartbeats 8000000 in
set_option maxRecDepth 100000 in
theorem dom_Dom_And_1.calls (o : Int) (t : Int) (B2 : Nat) (b : Int) (l : Option Addr) (c2_1 : Nat) (a : List Int) (c : Int) (d : Int) (g : Int) (r : Int) (w : World) (m : Kd.C (Kd.int .u64) w l a.length a) (n : a.length ≤ c2_1) (hbx2 : w.heap[B2]? = some (.cells #[.int .i64 b, .slice l a.length c2_1, .int .i64 c, .int .i64 d, .int .i64 g] 58 (0, 0))) (h : dom_Dom_And_1.f o t b a c d g = some r) :
  Calls Tryz.prog 74 #[.int .i64 o, .int .u64 t, .pointer (some ⟨B2, 0, none⟩)] w fun e w' => e = .returned (.int .u64 r) ∧ Below w.heap.size w w' := by
 have hu58 := Tryz.underlying58
 have p := a_ m
 have q := a_ n
 clear m n
 have BKc2 := a_ hbx2
 clear hbx2
 have HB := a_ (Below.refl w.heap.size w)
 unfold dom_Dom_And_1.f at h
 have H := h
 clear h
 replace H := bo_ H
 obtain ⟨s, u, H⟩ := H
 try dsimp only at H
 obtain rfl := si_ H
 obtain ⟨_, _, _, _, _, _, _, _, _, _⟩ := cel5_ BKc2.out
 go_enter Tryz.func74, Tryz.ntmps74
 go_wp2_with (first | ((with_reducible refine gate_callee (f := 52) rfl ?_); refine goesL_ (some 8) rfl rfl Tryz.func52 kr_ rfl #[.agg #[.int .i64 b, .slice l a.length c2_1, .int .i64 c, .int .i64 d, .int .i64 g], .int .i64 o] rfl ar_ ?_; (with_reducible refine (dom_Dom_word.calls b _ _ a c d g o s _ ?_ ?_ u.out).mono ?_); exact ca_ (p.out); exact q.out; rintro e w6 ⟨rfl, hb⟩; refine ⟨_, rfl, ?_⟩; replace HB := hq_ hb; clear hb))
 go_ret
 exact ⟨er_, bel_⟩

/-! ### dom_Dom_less_at_dom_Dom_And_1: function 73 -/
def dom_Dom_less_at_dom_Dom_And_1.l0 : Nat → List Int → Int → Int → Int → List Int → Int → Int → Int → Int → List Int → Int → Int → Int → Option (Int × List Int × Int × Int × Int × Int)
 | 0, _, _, _, _, _, _, _, _, _, _, _, _, _ => none
 | k + 1, q, s, c, a, n, o, p, b, d, e, g, l, m => if c < s then (if 0 ≤ c then (if c < (q.length : Int) then ((dom_Dom_And_1.f (wrap64 (a + (wrap64 (64 * c)))) (rd q c) d e g l m).bind fun t => (dom_Dom_less_at_dom_Dom_And_1.l0 k (q.set (c : Int).toNat (Go.bits .and .u64 (rd q c) t)) s (wrap64 (c + 1)) a n o p b d e g l m)) else (none)) else (none)) else ((dom_made.f k a q).bind fun r => (if r.2.2.2.2 = b then (some (a, n, o, p, b, 0)) else (none)))
def dom_Dom_less_at_dom_Dom_And_1.f (k : Nat) (c : Int) (a : List Int) (d : Int) (e : Int) (g : Int)  (l : Int) (m : List Int) (n : Int) (o : Int) (p : Int) : Option (Int × List Int × Int × Int × Int × Int) := (slices_CloneU64.f a).bind fun b => (dom_Dom_less_at_dom_Dom_And_1.l0 k b (b.length : Int) 0 c a d e g l m n o p)
theorem dom_Dom_less_at_dom_Dom_And_1.mono_l : ∀ k, (∀ d e f g l m n o p q a b c, LeO (dom_Dom_less_at_dom_Dom_And_1.l0 k d e f g l m n o p q a b c) (dom_Dom_less_at_dom_Dom_And_1.l0 (k + 1) d e f g l m n o p q a b c))
 | 0 => by intros; exact LeO.none _
 | k + 1 => by
  have ih0 := dom_Dom_less_at_dom_Dom_And_1.mono_l k
  intro d e f g l m n o p q a b c
  unfold dom_Dom_less_at_dom_Dom_And_1.l0
  have m0 := @dom_made.mono
  exact leo_
theorem dom_Dom_less_at_dom_Dom_And_1.mono : ∀ a b c d e g l m n o k, LeO (dom_Dom_less_at_dom_Dom_And_1.f k a b c d e g l m n o) (dom_Dom_less_at_dom_Dom_And_1.f (k + 1) a b c d e g l m n o) := by
 intro a b c d e g l m n o k
 have ih0 := dom_Dom_less_at_dom_Dom_And_1.mono_l k
 unfold dom_Dom_less_at_dom_Dom_And_1.f
 have m0 := @dom_made.mono
 exact leo_
set_option maxHeartbeats 8000000 in
set_option maxRecDepth 100000 in
theorem dom_Dom_less_at_dom_Dom_And_1.calls (k : Nat) (r : Int) (P0_1_ : Nat → Prop) (x : Option Addr) (c0_1 : Nat) (g : List Int) (z : Int) (G : Int) (y : Int)  (B2 : Nat) (P : Int) (Z : Option Addr) (c2_1 : Nat) (A : List Int) (Q : Int) (U : Int) (W : Int) (r1 : Int) (r2 : List Int) (r3 : Int) (r4 : Int) (r5 : Int) (r6 : Int) (w : World) (aG : Kd.V (Kd.int .u64) 83 w w.heap.size (fun d => P0_1_ d) (.slice x g.length c0_1) g) (am : Kd.C (Kd.int .u64) w Z A.length A) (an : A.length ≤ c2_1) (hbx2 : w.heap[B2]? = some (.cells #[.int .i64 P, .slice Z A.length c2_1, .int .i64 Q, .int .i64 U, .int .i64 W] 58 (0, 0))) (hrtab : Kd.C (Kd.int .u8) w (some ⟨0, 0, none⟩) tabL.length tabL) (h : dom_Dom_less_at_dom_Dom_And_1.f k r g z G y P A Q U W = some (r1, r2, r3, r4, r5, r6)) :
  Calls Tryz.prog 73 #[.agg #[.int .i64 r, .slice x g.length c0_1, .int .i64 z, .int .i64 G, .int .i64 y], .func (.func 74) #[] #[.pointer (some ⟨B2, 0, none⟩)]] w fun e w' => ∃ aO : Value, e = .returned (.tuple #[.agg #[.int .i64 r1, aO, .int .i64 r3, .int .i64 r4, .int .i64 r5], .int .i64 r6]) ∧ Kd.V (Kd.int .u64) 83 w' w.heap.size (fun d => (P0_1_ d ∨ w.heap.size ≤ d)) aO r2 ∧ Below w.heap.size w w' := by
 have hu58 := Tryz.underlying58
 have u := a_ (show Kd.V (Kd.int .u64) 83 w w.heap.size (fun d => (P0_1_ d ∨ w.heap.size ≤ d)) (.slice x g.length c0_1) g from vm_ aG (fun d hk => .inl hk))
 have aH := a_ am
 have aI := a_ an
 clear am an
 have BKc2 := a_ hbx2
 clear hbx2
 have HRtab := a_ hrtab
 clear hrtab
 have HB := a_ (Below.refl w.heap.size w)
 unfold dom_Dom_less_at_dom_Dom_And_1.f at h
 have H := h
 clear h
 replace H := bo_ H
 obtain ⟨B, A4, H⟩ := H
 try dsimp only at H
 have H' := a_ H
 clear H
 go_enter Tryz.func73, Tryz.ntmps73
 go_wp2_with (first | ((with_reducible refine gate_dst (N := 2) rfl ?_); refine bxe_ (N := 2) (cs := #[.int .i64 r, .slice x g.length c0_1, .int .i64 z, .int .i64 G, .int .i64 y]) (t := 58) ?_; intro o hg w5 hbox hb; replace u := a_ (vb_ (Kd.V_elderB (vV_ u.out) o (Nat.le_of_eq hg.symm)) hb); have a := a_ (hbox); have aJ := a_ (by rw [hg]; exact (bz_ bel_) : w.heap.size ≤ o); have aZ := aJ; replace HB := hq_ hb; have E := a_ ((by rw [hg]; exact Nat.ne_of_lt (blk_lt (bk_ BKc2.out)) : B2 ≠ o)); have F := a_ ((by rw [hg]; exact Nat.ne_of_gt (blk_lt (bk_ BKc2.out)) : o ≠ B2)); replace BKc2 := a_ (bq_ BKc2.out hb); clear hb hbox hg) | ((with_reducible refine gate_dst (N := 4) rfl ?_); refine bxe_ (N := 4) (cs := #[.int .i64 0, .slice none 0 0, .int .i64 0, .int .i64 0, .int .i64 0]) (t := 58) ?_; intro m hg w6 hbox hb; replace u := a_ (vb_ (Kd.V_elderB (vV_ u.out) m (Nat.le_of_eq hg.symm)) hb); have c := a_ (hbox); have aK := a_ (by rw [hg]; exact (bz_ bel_) : w.heap.size ≤ m); have a0 := aK; replace HB := hq_ hb; have aa := a_ ((by rw [hg]; exact Nat.ne_of_lt (blk_lt (bk_ BKc2.out)) : B2 ≠ m)); have ab := a_ ((by rw [hg]; exact Nat.ne_of_gt (blk_lt (bk_ BKc2.out)) : m ≠ B2)); replace BKc2 := a_ (bq_ BKc2.out hb); have I := a_ ((by rw [hg]; exact Nat.ne_of_lt (blk_lt (bk_ a.out)) : o ≠ m)); have J := a_ ((by rw [hg]; exact Nat.ne_of_gt (blk_lt (bk_ a.out)) : m ≠ o)); replace a := a_ (bq_ a.out hb); clear hb hbox hg; have bl := F.out; have bm := E.out; have bn := I.out; have bo := J.out; obtain ⟨_, _, _, _, _, _, _, _, _, _⟩ := cel5_ a.out) | ((with_reducible refine gate_callee (f := 89) rfl ?_); refine goesL_ (some 12) rfl rfl Tryz.func89 kr_ rfl #[.slice x g.length c0_1] rfl ar_ ?_; (with_reducible refine (slices_CloneU64.calls _ _ g B _ ?_ ?_ A4.out).mono ?_); exact ca_ ((Kd.V_reads' u.out).2.2); exact (Kd.V_reads' u.out).2.1; rintro e w10 ⟨bp, rfl, Y, hb⟩; refine ⟨_, rfl, ?_⟩; replace u := a_ (Kd.V_elder' (vV_ u.out) (rs_ Y) hb); have ao := a_ (Kd.R_lower (Kd.R_newM (M := fun d => (w.heap.size ≤ d)) Y (bz_ bel_) (fun d h_ => h_)) (bz_ bel_)); replace BKc2 := a_ (bq_ BKc2.out hb); replace a := a_ (bq_ a.out hb); replace c := a_ (bq_ c.out hb); replace HB := hq_ hb; clear hb Y; obtain ⟨ac, K, aQ⟩ := Kd.R_slice ao.out; subst aQ))
 go_loopg [15] k (fun kq aV w' => ∃ (l : List Int) (b : Int), aV = .int .i64 b ∧ Aside0 (dom_Dom_less_at_dom_Dom_And_1.l0 kq l (B.length : Int) b r g z G y P A Q U W = some (r1, r2, r3, r4, r5, r6)) ∧ Aside0 (kq ≤ k) ∧ Aside0 (Kd.R (Kd.int .u64) 83 w' w.heap.size (fun d => (w.heap.size ≤ d)) (.slice ac B.length K) l) ∧ Aside0 (Kd.V (Kd.int .u64) 83 w' w.heap.size (fun d => (P0_1_ d ∨ w.heap.size ≤ d) ∧ some d ≠ ((.slice ac B.length K) : Value).ownBlock ∧ d ≠ o ∧ d ≠ m) (.slice x g.length c0_1) g) ∧ Aside0 (w'.heap[B2]? = some (.cells #[.int .i64 P, (.slice Z A.length c2_1), .int .i64 Q, .int .i64 U, .int .i64 W] 58 (0, 0))) ∧ Aside0 (w'.heap[o]? = some (.cells #[.int .i64 r, (.slice x g.length c0_1), .int .i64 z, .int .i64 G, .int .i64 y] 58 (0, 0))) ∧ Aside0 (w'.heap[m]? = some (.cells #[.int .i64 0, (.slice none 0 0), .int .i64 0, .int .i64 0, .int .i64 0] 58 (0, 0))) ∧ Aside0 (Below w.heap.size w w'))
 case atStart => exact ⟨(B), (0), eq_, H', ⟨lr_ _⟩, ⟨by refine vR_ ?_; exact rm_ ao.out (fun _ hk => hk.1)⟩, ⟨by refine vV_ ?_; exact vm_ u.out (fun _ hk => ⟨hk.1.1.1, ⟨hk.2, ⟨hk.1.1.2, hk.1.2⟩⟩⟩)⟩, ⟨bk_ BKc2.out⟩, ⟨bk_ a.out⟩, ⟨bk_ c.out⟩, ⟨bel_⟩⟩
 clear H'
 try clear c2
 try clear p2
 try clear c7
 try clear c8
 try clear c9
 obtain ⟨l, b, rfl, HA, aP, HO_6, HO_510001, BKc2, a, c, HB⟩ := hrel
 have n := (rr_ HO_6.out).1
 rw [n] at HO_6
 (try simp only [n])
 (try simp only [n] at BKc2)
 (try simp only [n] at a)
 (try simp only [n] at c)
 (try simp only [n] at HO_510001)
 cases gk with
 | zero => exact absurd HA.out (by simp [dom_Dom_less_at_dom_Dom_And_1.l0])
 | succ k1 =>
  have H := HA.out
  clear HA
  simp only [dom_Dom_less_at_dom_Dom_And_1.l0] at H
  by_cases c12 : b < (B.length : Int)
  ·
   rw [ip_ c12] at H
   have c12b0 : decide (b < (B.length : Int)) = true := dt_ c12
   clear c12
   by_cases c13 : 0 ≤ b
   rotate_left
   ·
    rw [ig_ c13] at H
    exact ab_ H
   rw [ip_ c13] at H
   have c13b0 : decide (0 ≤ b) = true := dt_ c13
   clear c13
   by_cases c14 : b < (l.length : Int)
   rotate_left
   ·
    rw [ig_ c14] at H
    exact ab_ H
   rw [ip_ c14] at H
   have c14b0 : decide (b < (l.length : Int)) = true := dt_ c14
   clear c14
   replace H := bo_ H
   obtain ⟨ad, aW, H⟩ := H
   try dsimp only at H
   obtain ⟨ak, O⟩ : ∃ y_ : List Int, y_ = (l.set (b : Int).toNat (Go.bits .and .u64 (rd l b) ad)) := ⟨_, rfl⟩
   replace H : (dom_Dom_less_at_dom_Dom_And_1.l0 k1 ak (B.length : Int) (wrap64 (b + 1)) r g z G y P A Q U W) = some (r1, r2, r3, r4, r5, r6) := h2_ H O
   have aL := a_ O
   clear O
   have H' := a_ H
   clear H
   have p514 : 0 ≤ (b : Int) := dq_
   have al : b < (l.length : Int) := dq_
   obtain ⟨a1, aR, ap⟩ := ai_ (rr_ HO_6.out).2.2 b p514 al
   cases aR
   replace p514 := et_ p514
   replace al := et_ al
   have a2 := F.out
   have a3 := E.out
   have a4 := I.out
   have a5 := J.out
   obtain ⟨_, _, _, _, _, _, _, _, _, _⟩ := cel5_ a.out
   go_wp2_with (first | (go_at_call 74; (with_reducible refine (dom_Dom_And_1.calls (wrap64 (r + (wrap64 (64 * b)))) (rd l b) B2 P Z c2_1 A Q U W ad _ ?side1 ?side2 ?side3 aW.out).mono ?_); (case side1 => exact ca_ ((cb_ aH.out HB.out))); (case side2 => exact aI.out); (case side3 => exact bk_ BKc2.out); rintro e w20 ⟨rfl, hb⟩; replace HO_6 := a_ (rb_ (vR_ HO_6.out) hb); replace HO_510001 := a_ (vb_ (vV_ HO_510001.out) hb); replace BKc2 := a_ (bq_ BKc2.out hb); replace a := a_ (bq_ a.out hb); replace c := a_ (bq_ c.out hb); replace HB := hq_ hb; clear hb; have p16 : 0 ≤ (b : Int) := dq_; have aq : (b : Int) < ((l.length : Int) : Int) := dq_; obtain ⟨go16, bq, ar, au, gl16, cl16, HG16⟩ := Kd.R_form HO_6.out (by omega); (first | cases ar | (injection ar with ea_ en_ ec_; (first | subst ea_ | (injection ea_ with ea_; subst ea_)); subst ec_; clear en_)); have GB16 := a_ au; have GG16 := a_ HG16; clear au gl16 HG16; (first | simp only [add_plain] at ap | skip); obtain ⟨aX, hf16_0⟩ := Kd.R_celln 0 HO_6.out (b : Int) p16 aq; replace p16 := et_ p16; replace aq := et_ aq; obtain ⟨a6, hz21_⟩ := Kd.R_celln 0 HO_6.out (b : Int) (dq_) (dq_); have HP21 := Kd.R_putg HO_6.out (b : Int) (Go.bits .and .u64 (rd l b) ad)) | ((with_reducible refine gate_store (t := 83) (p := 32) rfl ?_); refine store_event (t := 83) (p := 32) (v := ?vo_w22) (w1 := (w20.setCell ⟨go16, (b : Int).toNat, none⟩ (.int .u64 (Go.bits .and .u64 (rd l b) ad)))) ?hg ?ho ?hn ?hr ?_; (case ho => rfl); (case hg => rfl); (case hn => rfl); (case hr => first | (go_simp; done) | (go_simp; rfl)); intro w22 hw; have hg : w20.grownBy w22 (some go16) := (by rw [hw]; exact HP21.2); have hp_ : Kd.R (Kd.int .u64) 83 w22 w.heap.size (fun d => (w.heap.size ≤ d)) (.slice (some ⟨go16, 0, none⟩) l.length K) ak := (by rw [hw, aL.out]; exact HP21.1); clear HP21; replace HO_510001 := a_ (Kd.V_afterv (v := (.slice (some ⟨go16, 0, none⟩) l.length K)) (v1 := (.slice (some ⟨go16, 0, none⟩) l.length K)) (ok := (fun d => (P0_1_ d ∨ w.heap.size ≤ d) ∧ d ≠ o ∧ d ≠ m)) (by refine vV_ ?_; exact vm_ HO_510001.out (fun _ hk => ⟨⟨hk.1, ⟨hk.2.2.1, hk.2.2.2⟩⟩, hk.2.1⟩)) hg (.inl rfl)); replace BKc2 := a_ (blk_grown (bk_ BKc2.out) hg (Kd.R_ne HO_6.out BKc2.out (by decide))); replace a := a_ (blk_grown (bk_ a.out) hg (Kd.R_ne HO_6.out a.out (by decide))); replace c := a_ (blk_grown (bk_ c.out) hg (Kd.R_ne HO_6.out c.out (by decide))); replace HO_6 := a_ (hp_); replace HB := a_ ((by rw [hw]; exact below_set (HB.out) GB16.out : Below w.heap.size w w22)); clear hg hw hp_))
   (try simp only [← n])
   go_roundg k1
   case measure => have := aP.out; omega
   exact ⟨(ak), (wrap64 (b + 1)), eq_, H', ⟨by have := aP.out; omega⟩, ⟨by (try simp only [n]); refine vR_ ?_; exact HO_6.out⟩, ⟨by (try simp only [n]); refine vV_ ?_; exact vm_ HO_510001.out (fun _ hk => ⟨hk.1.1, ⟨hk.2, ⟨hk.1.2.1, hk.1.2.2⟩⟩⟩)⟩, ⟨by (try simp only [n]); refine bk_ ?_; exact BKc2.out⟩, ⟨by (try simp only [n]); refine bk_ ?_; exact a.out⟩, ⟨by (try simp only [n]); refine bk_ ?_; exact c.out⟩, ⟨bel_⟩⟩
  rw [ig_ c12] at H
  have c12b0 : decide (b < (B.length : Int)) = false := df_ c12
  (try (have c12b0q := c12b0; simp only [n] at c12b0q))
  clear c12
  replace H := bs_.mp H
  obtain ⟨⟨av, aw, ax, ay, X⟩, az, H⟩ := H
  try dsimp only at H
  have aY := a_ az
  clear az
  by_cases c24 : X = y
  rotate_left
  ·
   rw [ig_ c24] at H
   exact ab_ H
  rw [ip_ c24] at H
  have c24b0 : (X == y) = true := beq_iff_eq.mpr c24
  have c24b1 : (X != y) = false := bn_.mpr c24
  clear c24
  simp only [Option.some.injEq, Prod.mk.injEq] at H
  obtain ⟨rfl, rfl, rfl, rfl, rfl, rfl⟩ := H
  have a7 := F.out
  have a8 := E.out
  have a9 := I.out
  have ba := J.out
  obtain ⟨_, _, _, _, _, _, _, _, _, _⟩ := cel5_ a.out
  go_wp2_with (first | ((with_reducible refine gate_callee (f := 65) rfl ?_); refine goesL_ (some 37) rfl rfl Tryz.func65 kr_ rfl #[.int .i64 r, .slice ac l.length K] rfl ar_ ?_; (with_reducible refine (dom_made.calls k1 r (fun d => some d = (.slice ac l.length K : Value).ownBlock) _ _ l av aw ax ay X _ ?_ ?_ aY.out).mono ?_); exact Kd.R_V (Kd.R_tight rfl (rt_ (rt_ (rt_ (HO_6.out) BKc2.out (by decide)) a.out (by decide)) c.out (by decide))); exact ca_ ((cb_ HRtab.out HB.out)); rintro e w28 ⟨br, rfl, Y, hb⟩; refine ⟨_, rfl, ?_⟩; replace HO_510001 := a_ (vb_ (vV_ HO_510001.out) hb); have ae := a_ (Kd.V_lower (vm_ (ok' := fun d => (P0_1_ d ∨ w.heap.size ≤ d) ∧ d ≠ o ∧ d ≠ m) Y (fun d hk_ => ⟨Or.elim hk_ (fun hs_ => (.inr (((rt_ (rt_ (rt_ (HO_6.out) BKc2.out (by decide)) a.out (by decide)) c.out (by decide)).1 d hs_.symm).1.1.1))) (fun hn_ => (.inr (Nat.le_trans (bz_ bel_) hn_))), Or.elim hk_ (fun hs_ => ((rt_ (rt_ (rt_ (HO_6.out) BKc2.out (by decide)) a.out (by decide)) c.out (by decide)).1 d hs_.symm).1.2) (fun hn_ => (Kd.freshB (bk_ a.out) d hn_)), Or.elim hk_ (fun hs_ => ((rt_ (rt_ (rt_ (HO_6.out) BKc2.out (by decide)) a.out (by decide)) c.out (by decide)).1 d hs_.symm).2) (fun hn_ => (Kd.freshB (bk_ c.out) d hn_))⟩)) (bz_ bel_)); replace BKc2 := a_ (bq_ BKc2.out hb); replace a := a_ (bq_ a.out hb); replace c := a_ (bq_ c.out hb); replace HB := hq_ hb; clear hb Y) | ((with_reducible refine gate_dst (N := 9) rfl ?_); refine bxe_ (N := 9) (cs := #[.int .i64 0, .slice none 0 0, .int .i64 0, .int .i64 0, .int .i64 0]) (t := 58) ?_; intro s hg w29 hbox hb; replace HO_510001 := a_ (vb_ (Kd.V_elderB (vV_ HO_510001.out) s (Nat.le_of_eq hg.symm)) hb); replace ae := a_ (vb_ (Kd.V_elderB (vV_ ae.out) s (Nat.le_of_eq hg.symm)) hb); have aM := a_ (hbox); have aN := a_ (by rw [hg]; exact (bz_ bel_) : w.heap.size ≤ s); have bb := aN; replace HB := hq_ hb; have af := a_ ((by rw [hg]; exact Nat.ne_of_lt (blk_lt (bk_ BKc2.out)) : B2 ≠ s)); have ag := a_ ((by rw [hg]; exact Nat.ne_of_gt (blk_lt (bk_ BKc2.out)) : s ≠ B2)); have ah := a_ ((by rw [hg]; exact Nat.ne_of_lt (blk_lt (bk_ a.out)) : o ≠ s)); have ai := a_ ((by rw [hg]; exact Nat.ne_of_gt (blk_lt (bk_ a.out)) : s ≠ o)); replace a := a_ (bq_ a.out hb); have q := a_ ((by rw [hg]; exact Nat.ne_of_lt (blk_lt (bk_ c.out)) : m ≠ s)); have aj := a_ ((by rw [hg]; exact Nat.ne_of_gt (blk_lt (bk_ c.out)) : s ≠ m)); replace c := a_ (bq_ c.out hb); clear hb hbox hg; have bc := ag.out; have bd := af.out; have be := ai.out; have bf := ah.out; have bg := aj.out; have bh := q.out; obtain ⟨_, _, _, _, _, _, _, _, _, _⟩ := cel5_ aM.out; obtain ⟨aS, aT, aU⟩ := Kd.V_slice ae.out; subst aU; obtain ⟨_, _, _, _, _, _, _, _, _, _⟩ := cel5_ a.out; have bi := ab.out; have bj := aa.out; obtain ⟨_, _, _, _, _, _, _, _, _, _⟩ := cel5_ c.out))
  refine bodyPost_ret (results_ct rfl _ _ m 58 #[.int .i64 r, .slice x g.length c0_1, .int .i64 z, .int .i64 G, .int .i64 y] (0, 0) _ rfl (by refine bk_ ?_; refine bu_ (cs := #[.int .i64 r, .slice x g.length c0_1, .int .i64 z, .int .i64 G, .int .i64 0]) ?_ 4 _ rfl; refine bk_ ?_; refine bu_ (cs := #[.int .i64 r, .slice x g.length c0_1, .int .i64 z, .int .i64 0, .int .i64 0]) ?_ 3 _ rfl; refine bk_ ?_; refine bu_ (cs := #[.int .i64 r, .slice x g.length c0_1, .int .i64 0, .int .i64 0, .int .i64 0]) ?_ 2 _ rfl; refine bk_ ?_; refine bu_ (cs := #[.int .i64 r, .slice none 0 0, .int .i64 0, .int .i64 0, .int .i64 0]) ?_ 1 _ rfl; refine bk_ ?_; refine bu_ (cs := #[.int .i64 0, .slice none 0 0, .int .i64 0, .int .i64 0, .int .i64 0]) ?_ 0 _ rfl; refine bk_ ?_; refine blk_far ?_ q.out _; refine bk_ ?_; refine blk_far ?_ q.out _; refine bk_ ?_; refine blk_far ?_ q.out _; refine bk_ ?_; refine blk_far ?_ q.out _; refine bk_ ?_; refine blk_far ?_ q.out _; refine bk_ ?_; exact c.out) Tryz.underlying58 rfl kr_) rfl ?_
  exact ⟨_, er_, by refine vV_ ?_; exact vm_ (fV_ (fV_ (fV_ (fV_ (fV_ (Kd.V_far (Kd.V_far (Kd.V_far (Kd.V_far (Kd.V_far (vm_ (vm_ HO_510001.out (fun d hk => (⟨hk, hk.2⟩ : _ ∧ d ≠ s))) (fun d hk => (⟨hk, hk.1.1.2.2.2⟩ : _ ∧ d ≠ m))) (fun _ hk => hk.1.2) (.int .i64 av)) (fun _ hk => hk.1.2) (.slice aS aw.length aT)) (fun _ hk => hk.1.2) (.int .i64 ax)) (fun _ hk => hk.1.2) (.int .i64 ay)) (fun _ hk => hk.1.2) (.int .i64 X))))))) (fun _ hk => hk.1.1.1.1), bel_⟩

/-! ### dom_Dom_And: function 54 -/
def dom_Dom_And.f (k : Nat) (b : Int) (c : List Int) (d : Int) (e : Int) (g : Int) (l : Int) (m : List Int) (n : Int) (o : Int) (p : Int) : Option (Int × List Int × Int × Int × Int × Int) := (dom_Dom_less_at_dom_Dom_And_1.f k b c d e g l m n o p).bind fun a => (some (a.1, a.2.1, a.2.2.1, a.2.2.2.1, a.2.2.2.2.1, a.2.2.2.2.2))
theorem dom_Dom_And.mono : ∀ a b c d e g l m n o k, LeO (dom_Dom_And.f k a b c d e g l m n o) (dom_Dom_And.f (k + 1) a b c d e g l m n o) := by
 intro a b c d e g l m n o k
 unfold dom_Dom_And.f
 have m0 := @dom_Dom_less_at_dom_Dom_And_1.mono
 exact leo_
set_option maxHeartbeats 8000000 in
set_option maxRecDepth 100000 in
theorem dom_Dom_And.calls (k : Nat) (r : Int) (P0_1_ : Nat → Prop) (s : Option Addr) (c0_1 : Nat) (l : List Int) (u : Int) (v : Int) (x : Int) (z : Int) (A : Option Addr) (c1_1 : Nat) (o : List Int) (B : Int) (E : Int) (F : Int) (r1 : Int) (r2 : List Int) (r3 : Int) (r4 : Int) (r5 : Int) (r6 : Int) (w : World) (ab : Kd.V (Kd.int .u64) 83 w w.heap.size (fun d => P0_1_ d) (.slice s l.length c0_1) l) (X : Kd.C (Kd.int .u64) w A o.length o) (Y : o.length ≤ c1_1) (hrtab : Kd.C (Kd.int .u8) w (some ⟨0, 0, none⟩) tabL.length tabL) (h : dom_Dom_And.f k r l u v x z o B E F = some (r1, r2, r3, r4, r5, r6)) :
  Calls Tryz.prog 54 #[.agg #[.int .i64 r, .slice s l.length c0_1, .int .i64 u, .int .i64 v, .int .i64 x], .agg #[.int .i64 z, .slice A o.length c1_1, .int .i64 B, .int .i64 E, .int .i64 F]] w fun e w' => ∃ ah : Value, e = .returned (.tuple #[.agg #[.int .i64 r1, ah, .int .i64 r3, .int .i64 r4, .int .i64 r5], .int .i64 r6]) ∧ Kd.V (Kd.int .u64) 83 w' w.heap.size (fun d => (P0_1_ d ∨ w.heap.size ≤ d)) ah r2 ∧ Below w.heap.size w w' := by
 have hu58 := Tryz.underlying58
 have m := a_ (show Kd.V (Kd.int .u64) 83 w w.heap.size (fun d => (P0_1_ d ∨ w.heap.size ≤ d)) (.slice s l.length c0_1) l from vm_ ab (fun d hk => .inl hk))
 have ac := a_ X
 have ad := a_ Y
 clear X Y
 have HRtab := a_ hrtab
 clear hrtab
 have HB := a_ (Below.refl w.heap.size w)
 unfold dom_Dom_And.f at h
 have H := h
 clear h
 replace H := bs_.mp H
 obtain ⟨⟨q, y, G, W, aa, ak⟩, ai, H⟩ := H
 try dsimp only at H
 have A3 := a_ ai
 clear ai
 simp only [Option.some.injEq, Prod.mk.injEq] at H
 obtain ⟨rfl, rfl, rfl, rfl, rfl, rfl⟩ := H
 go_enter Tryz.func54, Tryz.ntmps54
 go_wp2_with (first | ((with_reducible refine gate_dst (N := 2) rfl ?_); refine bxe_ (N := 2) (cs := #[.int .i64 r, .slice s l.length c0_1, .int .i64 u, .int .i64 v, .int .i64 x]) (t := 58) ?_; intro g hg w4 hbox hb; replace m := a_ (vb_ (Kd.V_elderB (vV_ m.out) g (Nat.le_of_eq hg.symm)) hb); have a := a_ (hbox); have ae := a_ (by rw [hg]; exact (bz_ bel_) : w.heap.size ≤ g); have au := ae; replace HB := hq_ hb; clear hb hbox hg) | ((with_reducible refine gate_dst (N := 3) rfl ?_); refine bxe_ (N := 3) (cs := #[.int .i64 z, .slice A o.length c1_1, .int .i64 B, .int .i64 E, .int .i64 F]) (t := 58) ?_; intro b hg w5 hbox hb; replace m := a_ (vb_ (Kd.V_elderB (vV_ m.out) b (Nat.le_of_eq hg.symm)) hb); have n := a_ (hbox); have af := a_ (by rw [hg]; exact (bz_ bel_) : w.heap.size ≤ b); have av := af; replace HB := hq_ hb; have K := a_ ((by rw [hg]; exact Nat.ne_of_lt (blk_lt (bk_ a.out)) : g ≠ b)); have M := a_ ((by rw [hg]; exact Nat.ne_of_gt (blk_lt (bk_ a.out)) : b ≠ g)); replace a := a_ (bq_ a.out hb); clear hb hbox hg) | ((with_reducible refine gate_dst (N := 4) rfl ?_); refine bxe_ (N := 4) (cs := #[.int .i64 0, .slice none 0 0, .int .i64 0, .int .i64 0, .int .i64 0]) (t := 58) ?_; intro c hg w6 hbox hb; replace m := a_ (vb_ (Kd.V_elderB (vV_ m.out) c (Nat.le_of_eq hg.symm)) hb); have p := a_ (hbox); have ag := a_ (by rw [hg]; exact (bz_ bel_) : w.heap.size ≤ c); have aw := ag; replace HB := hq_ hb; have O := a_ ((by rw [hg]; exact Nat.ne_of_lt (blk_lt (bk_ a.out)) : g ≠ c)); have P := a_ ((by rw [hg]; exact Nat.ne_of_gt (blk_lt (bk_ a.out)) : c ≠ g)); replace a := a_ (bq_ a.out hb); have Q := a_ ((by rw [hg]; exact Nat.ne_of_lt (blk_lt (bk_ n.out)) : b ≠ c)); have U := a_ ((by rw [hg]; exact Nat.ne_of_gt (blk_lt (bk_ n.out)) : c ≠ b)); replace n := a_ (bq_ n.out hb); clear hb hbox hg; have aA := K.out; have aB := M.out; have aC := O.out; have aD := P.out; obtain ⟨_, _, _, _, _, _, _, _, _, _⟩ := cel5_ a.out) | ((with_reducible refine gate_callee (f := 73) rfl ?_); refine goesL_ (some 8) rfl rfl Tryz.func73 kr_ rfl #[.agg #[.int .i64 r, .slice s l.length c0_1, .int .i64 u, .int .i64 v, .int .i64 x], .func (.func 74) #[] #[.pointer (some ⟨b, 0, none⟩)]] rfl ar_ ?_; (with_reducible refine (dom_Dom_less_at_dom_Dom_And_1.calls k r (fun d => ((((P0_1_ d ∨ w.heap.size ≤ d) ∧ d ≠ g) ∧ d ≠ b) ∧ d ≠ c)) _ _ l u v x b z A c1_1 o B E F q y G W aa ak _ ?side1 ?side2 ?side3 ?side4 ?side5 A3.out).mono ?_); (case side1 => exact m.out); (case side2 => exact ca_ ((cb_ ac.out HB.out))); (case side3 => exact ad.out); (case side4 => exact bk_ n.out); (case side5 => exact ca_ ((cb_ HRtab.out HB.out))); rintro e w10 ⟨aE, rfl, aj, hb⟩; refine ⟨_, rfl, ?_⟩; have Z := a_ (Kd.V_lower (vm_ (ok' := fun d => (P0_1_ d ∨ w.heap.size ≤ d) ∧ d ≠ g ∧ d ≠ b ∧ d ≠ c) aj (fun d hk_ => ⟨Or.elim hk_ (fun hs_ => hs_.1.1.1) (fun hn_ => (.inr (Nat.le_trans (bz_ bel_) hn_))), Or.elim hk_ (fun hs_ => hs_.1.1.2) (fun hn_ => (Kd.freshB (bk_ a.out) d hn_)), Or.elim hk_ (fun hs_ => hs_.1.2) (fun hn_ => (Kd.freshB (bk_ n.out) d hn_)), Or.elim hk_ (fun hs_ => hs_.2) (fun hn_ => (Kd.freshB (bk_ p.out) d hn_))⟩)) (bz_ bel_)); replace p := a_ (bq_ p.out hb); replace HB := hq_ hb; clear hb aj; have ax := U.out; have ay := Q.out; obtain ⟨_, _, _, _, _, _, _, _, _, _⟩ := cel5_ p.out; obtain ⟨I, J, al⟩ := Kd.V_slice Z.out; subst al))
 refine bodyPost_ret (results_ct rfl _ _ c 58 #[.int .i64 q, .slice I y.length J, .int .i64 G, .int .i64 W, .int .i64 aa] (0, 0) _ rfl (by refine bk_ ?_; refine bu_ (cs := #[.int .i64 q, .slice I y.length J, .int .i64 G, .int .i64 W, .int .i64 0]) ?_ 4 _ rfl; refine bk_ ?_; refine bu_ (cs := #[.int .i64 q, .slice I y.length J, .int .i64 G, .int .i64 0, .int .i64 0]) ?_ 3 _ rfl; refine bk_ ?_; refine bu_ (cs := #[.int .i64 q, .slice I y.length J, .int .i64 0, .int .i64 0, .int .i64 0]) ?_ 2 _ rfl; refine bk_ ?_; refine bu_ (cs := #[.int .i64 q, .slice none 0 0, .int .i64 0, .int .i64 0, .int .i64 0]) ?_ 1 _ rfl; refine bk_ ?_; refine bu_ (cs := #[.int .i64 0, .slice none 0 0, .int .i64 0, .int .i64 0, .int .i64 0]) ?_ 0 _ rfl; refine bk_ ?_; exact p.out) Tryz.underlying58 rfl kr_) rfl ?_
 exact ⟨_, er_, by refine vV_ ?_; exact vm_ (fV_ (fV_ (fV_ (fV_ (fV_ (vm_ Z.out (fun d hk => (⟨hk, hk.2.2.2⟩ : _ ∧ d ≠ c)))))))) (fun _ hk => hk.1.1), bel_⟩

/-! ### dom_Dom_Equal: function 26 -/
def dom_Dom_Equal.f (k : Nat) (d : Int) (e : List Int) (g : Int) (l : Int) (a : Int) (m : Int) (n : List Int) (o : Int) (p : Int) (b : Int) : Option (Bool) := (dom_Dom_And.f k d e g l a m n o p b).bind fun c => (if a = b then (some (c.2.2.2.2.2 == 0)) else (none))
theorem dom_Dom_Equal.mono : ∀ a b c d e g l m n o k, LeO (dom_Dom_Equal.f k a b c d e g l m n o) (dom_Dom_Equal.f (k + 1) a b c d e g l m n o) := by
 intro a b c d e g l m n o k
 unfold dom_Dom_Equal.f
 have m0 := @dom_Dom_And.mono
 exact leo_
set_option maxHeartbeats 8000000 in
set_option maxRecDepth 100000 in
theorem dom_Dom_Equal.calls (k : Nat) (p : Int) (y : Option Addr) (c0_1 : Nat) (c : List Int) (q : Int) (s : Int) (d : Int) (u : Int) (z : Option Addr) (c1_1 : Nat) (g : List Int) (v : Int) (x : Int) (l : Int) (r : Bool) (w : World) (M : Kd.C (Kd.int .u64) w y c.length c) (O : c.length ≤ c0_1) (P : Kd.C (Kd.int .u64) w z g.length g) (Q : g.length ≤ c1_1) (hrtab : Kd.C (Kd.int .u8) w (some ⟨0, 0, none⟩) tabL.length tabL) (h : dom_Dom_Equal.f k p c q s d u g v x l = some r) :
  Calls Tryz.prog 26 #[.agg #[.int .i64 p, .slice y c.length c0_1, .int .i64 q, .int .i64 s, .int .i64 d], .agg #[.int .i64 u, .slice z g.length c1_1, .int .i64 v, .int .i64 x, .int .i64 l]] w fun e w' => e = .returned (.bool r) ∧ Below w.heap.size w w' := by
 have hu58 := Tryz.underlying58
 have W := a_ M
 have X := a_ O
 clear M O
 have Y := a_ P
 have Z := a_ Q
 clear P Q
 have HRtab := a_ hrtab
 clear hrtab
 have HB := a_ (Below.refl w.heap.size w)
 unfold dom_Dom_Equal.f at h
 have H := h
 clear h
 replace H := bs_.mp H
 obtain ⟨⟨ae, af, ag, ah, ai, aj⟩, ac, H⟩ := H
 try dsimp only at H
 have A3 := a_ ac
 clear ac
 by_cases c4 : d = l
 rotate_left
 ·
  rw [ig_ c4] at H
  exact ab_ H
 rw [ip_ c4] at H
 have c4b0 : (d == l) = true := beq_iff_eq.mpr c4
 have c4b1 : (d != l) = false := bn_.mpr c4
 clear c4
 obtain rfl := si_ H
 go_enter Tryz.func26, Tryz.ntmps26
 go_wp2_with (first | ((with_reducible refine gate_dst (N := 2) rfl ?_); refine bxe_ (N := 2) (cs := #[.int .i64 p, .slice y c.length c0_1, .int .i64 q, .int .i64 s, .int .i64 d]) (t := 58) ?_; intro m hg w5 hbox hb; have a := a_ (hbox); have U := a_ (by rw [hg]; exact (bz_ bel_) : w.heap.size ≤ m); have al := U; replace HB := hq_ hb; clear hb hbox hg) | ((with_reducible refine gate_dst (N := 3) rfl ?_); refine bxe_ (N := 3) (cs := #[.int .i64 u, .slice z g.length c1_1, .int .i64 v, .int .i64 x, .int .i64 l]) (t := 58) ?_; intro n hg w6 hbox hb; have b := a_ (hbox); have V := a_ (by rw [hg]; exact (bz_ bel_) : w.heap.size ≤ n); have am := V; replace HB := hq_ hb; have B := a_ ((by rw [hg]; exact Nat.ne_of_lt (blk_lt (bk_ a.out)) : m ≠ n)); have E := a_ ((by rw [hg]; exact Nat.ne_of_gt (blk_lt (bk_ a.out)) : n ≠ m)); replace a := a_ (bq_ a.out hb); clear hb hbox hg; have av := B.out; have aw := E.out; obtain ⟨_, _, _, _, _, _, _, _, _, _⟩ := cel5_ a.out; obtain ⟨_, _, _, _, _, _, _, _, _, _⟩ := cel5_ b.out) | ((with_reducible refine gate_callee (f := 54) rfl ?_); refine goesL_ (some 10) rfl rfl Tryz.func54 kr_ rfl #[.agg #[.int .i64 p, .slice y c.length c0_1, .int .i64 q, .int .i64 s, .int .i64 d], .agg #[.int .i64 u, .slice z g.length c1_1, .int .i64 v, .int .i64 x, .int .i64 l]] rfl ar_ ?_; (with_reducible refine (dom_Dom_And.calls k p (fun K => K < w.heap.size) _ _ c q s d u _ _ g v x l ae af ag ah ai aj _ ?_ ?_ ?_ ?_ A3.out).mono ?_); exact Kd.V_mk X.out (Kd.F_below (Kd.C_F (Kd.heap_int .u64) W.out) bel_); exact ca_ ((cb_ Y.out HB.out)); exact Z.out; exact ca_ ((cb_ HRtab.out HB.out)); rintro e w10 ⟨ax, rfl, ad, hb⟩; refine ⟨_, rfl, ?_⟩; have A := a_ (Kd.V_lower (vm_ (ok' := fun K => K ≠ m ∧ K ≠ n) ad (fun K hk_ => ⟨Or.elim hk_ (fun hs_ => fun e_ => Nat.not_le.2 hs_ (by rw [e_]; exact U.out)) (fun hn_ => (Kd.freshB (bk_ a.out) K hn_)), Or.elim hk_ (fun hs_ => fun e_ => Nat.not_le.2 hs_ (by rw [e_]; exact V.out)) (fun hn_ => (Kd.freshB (bk_ b.out) K hn_))⟩)) (bz_ bel_)); replace a := a_ (bq_ a.out hb); replace b := a_ (bq_ b.out hb); replace HB := hq_ hb; clear hb ad) | ((with_reducible refine gate_dst (N := 5) rfl ?_); refine bxe_ (N := 5) (cs := #[.int .i64 0, .slice none 0 0, .int .i64 0, .int .i64 0, .int .i64 0]) (t := 58) ?_; intro o hg w11 hbox hb; replace A := a_ (vb_ (Kd.V_elderB (vV_ A.out) o (Nat.le_of_eq hg.symm)) hb); have aa := a_ (hbox); have ab := a_ (by rw [hg]; exact (bz_ bel_) : w.heap.size ≤ o); have an := ab; replace HB := hq_ hb; have F := a_ ((by rw [hg]; exact Nat.ne_of_lt (blk_lt (bk_ a.out)) : m ≠ o)); have G := a_ ((by rw [hg]; exact Nat.ne_of_gt (blk_lt (bk_ a.out)) : o ≠ m)); replace a := a_ (bq_ a.out hb); have I := a_ ((by rw [hg]; exact Nat.ne_of_lt (blk_lt (bk_ b.out)) : n ≠ o)); have J := a_ ((by rw [hg]; exact Nat.ne_of_gt (blk_lt (bk_ b.out)) : o ≠ n)); replace b := a_ (bq_ b.out hb); clear hb hbox hg; have ao := G.out; have ap := F.out; have aq := J.out; have ar := I.out; obtain ⟨_, _, _, _, _, _, _, _, _, _⟩ := cel5_ aa.out; obtain ⟨ay, az, ak⟩ := Kd.V_slice A.out; subst ak; obtain ⟨_, _, _, _, _, _, _, _, _, _⟩ := cel5_ a.out; obtain ⟨_, _, _, _, _, _, _, _, _, _⟩ := cel5_ b.out))
 go_ret
 exact ⟨er_, bel_⟩

end Go.Proofs.YtfbfalhdgmjdpaaGreatDoor.XInverseTurns
