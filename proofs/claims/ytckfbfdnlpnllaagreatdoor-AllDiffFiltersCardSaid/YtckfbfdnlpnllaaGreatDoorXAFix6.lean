-- by xprint.py, a program of this session, over the kit's print
import Derived.Test.YtckfbfdnlpnllaaGreatDoorXAFix0
import Derived.Test.YtckfbfdnlpnllaaGreatDoorSq
namespace Go.Proofs.YtckfbfdnlpnllaaGreatDoor.XAllDiffFilters
open Go.RowKit Go.Proofs.YtckfbfdnlpnllaaGreatDoor.Sq Go.Proofs.YtckfbfdnlpnllaaGreatDoorW.PrintWords Go.Proofs.YtckfbfdnlpnllaaGreatDoorW.PrintLast Go.Proofs.YtckfbfdnlpnllaaGreatDoorW.PrintMore
attribute [local go_sem] max2_int min2_int max_two min_two max_three min_three max_four min_four   -- for this text's walks alone
set_option linter.unusedVariables false
set_option linter.unusedSimpArgs false

/-! ### jigsawlaw16_kind: function 8 -/
def jigsawlaw16_kind.f (_a0 : Int) : Option Int := some 17
theorem jigsawlaw16_kind.calls (a : Int) (r : Int) (w : World) (h : jigsawlaw16_kind.f a = some r) :
  Calls Tryz.prog 8 #[.int .u8 a] w fun e w' => e = .returned (.int .i64 r) ∧ Drawn0 w w' := by
 unfold jigsawlaw16_kind.f at h
 obtain rfl := si_ h
 clear h
 go_enter Tryz.func8, Tryz.ntmps8
 go_wp2
 go_ret
 exact ⟨by first | rfl | (simp; done) | (simp [*]; done), by repeat (first | exact d0_ _ | apply Drawn0.step)⟩

/-! ### jigsawref10_Local: function 19 -/
mutual
def jigsawref10_Local.l0 : Nat → Int → Int → List Int → List Int → List Int → List Int → List Int → Int → List (List Int) → Int → List Int → List Int → List Int → List Int → Int → List (List Int) → Option (Int × List Int × List Int × List Int × List Int × List Int × Int × (List (List Int)))
 | 0, _, _, _, _, _, _, _, _, _, _, _, _, _, _, _, _ => none
 | k + 1, t, c, a, d, e, f, g, l, m, n, b, o, p, q, r, s => if t < (a.length : Int) then (if b.length < 17592186044416 then (jigsawref10_Local.l0 k (wrap64 (t + 1)) c a d e f g l m n (b ++ [t]) o p q r s) else (none)) else (jigsawref10_Local.l1 k 0 c a d e f g l m n b ([] : List Int) o p q r s)
def jigsawref10_Local.l1 : Nat → Int → Int → List Int → List Int → List Int → List Int → List Int → Int → List (List Int) → Int → List Int → List Int → List Int → List Int → List Int → Int → List (List Int) → Option (Int × List Int × List Int × List Int × List Int × List Int × Int × (List (List Int)))
 | 0, _, _, _, _, _, _, _, _, _, _, _, _, _, _, _, _, _ => none
 | k + 1, u, o, b, c, p, q, r, s, t, d, e, a, f, g, l, m, n => if u < (c.length : Int) then (if a.length < 17592186044416 then (jigsawref10_Local.l1 k (wrap64 (u + 1)) o b c p q r s t d e (a ++ [wrap64 ((b.length : Int) + u)]) f g l m n) else (none)) else (some (d, e, a, f, g, l, m, n))
end
def jigsawref10_Local.f (k : Nat) (a : Int) (l : List Int) (m : List Int) (b : List Int) (c : List Int) (d : List Int) (e : Int) (g : List (List Int)) : Option (Int × List Int × List Int × List Int × List Int × List Int × Int × (List (List Int))) := jigsawref10_Local.l0 k 0 a l m b c d e g a ([] : List Int) b c d e g
theorem jigsawref10_Local.mono_l : ∀ k, (∀ g l m n o p q s t u a b c d e f, LeO (jigsawref10_Local.l0 k g l m n o p q s t u a b c d e f) (jigsawref10_Local.l0 (k + 1) g l m n o p q s t u a b c d e f)) ∧ (∀ g l m n o p q s t u a b c d e f v, LeO (jigsawref10_Local.l1 k g l m n o p q s t u a b c d e f v) (jigsawref10_Local.l1 (k + 1) g l m n o p q s t u a b c d e f v))
 | 0 => by refine ⟨?_, ?_⟩ <;> (intros; exact LeO.none _)
 | k + 1 => by
  obtain ⟨ih0, ih1⟩ := jigsawref10_Local.mono_l k
  refine ⟨?_, ?_⟩ <;> intros
  all_goals first | unfold jigsawref10_Local.l0 | unfold jigsawref10_Local.l1
  all_goals exact leo_
theorem jigsawref10_Local.mono : ∀ a b c d e g l m k, LeO (jigsawref10_Local.f k a b c d e g l m) (jigsawref10_Local.f (k + 1) a b c d e g l m) := by
 intro a b c d e g l m k
 obtain ⟨ih0, ih1⟩ := jigsawref10_Local.mono_l k
 unfold jigsawref10_Local.f
 exact leo_
set_option maxHeartbeats 8000000 in
set_option maxRecDepth 100000 in
theorem jigsawref10_Local.calls (k : Nat) (r : Int) (O : Option Addr) (c0_1 : Nat) (z : List Int) (P : Option Addr) (c0_2 : Nat) (E : List Int) (P0_3_ : Nat → Prop) (A : Option Addr) (c0_3 : Nat) (l : List Int) (P0_4_ : Nat → Prop) (B : Option Addr) (c0_4 : Nat) (n : List Int) (P0_5_ : Nat → Prop) (G : Option Addr) (c0_5 : Nat) (q : List Int) (F : Int) (P0_7_ : Nat → Prop) (I : Option Addr) (c0_7 : Nat) (s : List (List Int)) (r1 : Int) (r2 : List Int) (r3 : List Int) (r4 : List Int) (r5 : List Int) (r6 : List Int) (r7 : Int) (r8 : List (List Int)) (w : World) (aA : Kd.C (Kd.int .i64) w O z.length z) (al : z.length ≤ c0_1) (aC : Kd.C (Kd.int .i64) w P E.length E) (am : E.length ≤ c0_2) (aD : Kd.V (Kd.int .i64) 3 w w.heap.size (fun a => P0_3_ a) (.slice A l.length c0_3) l) (aE : Kd.V (Kd.int .i64) 3 w w.heap.size (fun a => P0_4_ a) (.slice B n.length c0_4) n) (aG : Kd.V (Kd.int .i64) 3 w w.heap.size (fun a => P0_5_ a) (.slice G q.length c0_5) q) (aH : Kd.V (Kd.slice 3 (Kd.int .i64)) 30 w w.heap.size (fun a => P0_7_ a) (.slice I s.length c0_7) s) (h : jigsawref10_Local.f k r z E l n q F s = some (r1, r2, r3, r4, r5, r6, r7, r8)) :
  Calls Tryz.prog 19 #[.agg #[.int .i64 r, .slice O z.length c0_1, .slice P E.length c0_2, .slice A l.length c0_3, .slice B n.length c0_4, .slice G q.length c0_5, .int .i64 F, .slice I s.length c0_7]] w fun e w' => ∃ ah ai aQ aR aT aU : Value, e = .returned (.agg #[.int .i64 r1, ah, ai, aQ, aR, aT, .int .i64 r7, aU]) ∧ Kd.R (Kd.int .i64) 3 w' w.heap.size (fun a => (w.heap.size ≤ a) ∧ some a ≠ ai.ownBlock) ah r2 ∧ Kd.R (Kd.int .i64) 3 w' w.heap.size (fun a => (w.heap.size ≤ a) ∧ some a ≠ ah.ownBlock) ai r3 ∧ Kd.V (Kd.int .i64) 3 w' w.heap.size (fun a => ((P0_3_ a ∨ P0_4_ a ∨ P0_5_ a ∨ P0_7_ a) ∨ w.heap.size ≤ a) ∧ some a ≠ ah.ownBlock ∧ some a ≠ ai.ownBlock) aQ r4 ∧ Kd.V (Kd.int .i64) 3 w' w.heap.size (fun a => ((P0_3_ a ∨ P0_4_ a ∨ P0_5_ a ∨ P0_7_ a) ∨ w.heap.size ≤ a) ∧ some a ≠ ah.ownBlock ∧ some a ≠ ai.ownBlock) aR r5 ∧ Kd.V (Kd.int .i64) 3 w' w.heap.size (fun a => ((P0_3_ a ∨ P0_4_ a ∨ P0_5_ a ∨ P0_7_ a) ∨ w.heap.size ≤ a) ∧ some a ≠ ah.ownBlock ∧ some a ≠ ai.ownBlock) aT r6 ∧ Kd.V (Kd.slice 3 (Kd.int .i64)) 30 w' w.heap.size (fun a => ((P0_3_ a ∨ P0_4_ a ∨ P0_5_ a ∨ P0_7_ a) ∨ w.heap.size ≤ a) ∧ some a ≠ ah.ownBlock ∧ some a ≠ ai.ownBlock) aU r8 ∧ Below w.heap.size w w' := by
 have hu32 := Tryz.underlying32
 have a4 := a_ al
 clear aA al
 have a5 := a_ am
 clear aC am
 have W := a_ (show Kd.V (Kd.int .i64) 3 w w.heap.size (fun a => ((P0_3_ a ∨ P0_4_ a ∨ P0_5_ a ∨ P0_7_ a) ∨ w.heap.size ≤ a)) (.slice A l.length c0_3) l from vm_ aD (fun a hk => .inl (.inl hk)))
 have X := a_ (show Kd.V (Kd.int .i64) 3 w w.heap.size (fun a => ((P0_3_ a ∨ P0_4_ a ∨ P0_5_ a ∨ P0_7_ a) ∨ w.heap.size ≤ a)) (.slice B n.length c0_4) n from vm_ aE (fun a hk => .inl (.inr (.inl hk))))
 have Y := a_ (show Kd.V (Kd.int .i64) 3 w w.heap.size (fun a => ((P0_3_ a ∨ P0_4_ a ∨ P0_5_ a ∨ P0_7_ a) ∨ w.heap.size ≤ a)) (.slice G q.length c0_5) q from vm_ aG (fun a hk => .inl (.inr (.inr (.inl hk)))))
 have Z := a_ (show Kd.V (Kd.slice 3 (Kd.int .i64)) 30 w w.heap.size (fun a => ((P0_3_ a ∨ P0_4_ a ∨ P0_5_ a ∨ P0_7_ a) ∨ w.heap.size ≤ a)) (.slice I s.length c0_7) s from vm_ aH (fun a hk => .inl (.inr (.inr (.inr hk)))))
 have HB := a_ (Below.refl w.heap.size w)
 unfold jigsawref10_Local.f at h
 have H := h
 clear h
 have H' := a_ H
 clear H
 go_enter Tryz.func19, Tryz.ntmps19
 go_wp2_with (first | ((with_reducible refine gate_dst (N := 1) rfl ?_); refine bxe_ (N := 1) (cs := #[.int .i64 r, .slice O z.length c0_1, .slice P E.length c0_2, .slice A l.length c0_3, .slice B n.length c0_4, .slice G q.length c0_5, .int .i64 F, .slice I s.length c0_7]) (t := 32) ?_; intro g hg w2 hbox hb; replace W := a_ (vb_ (Kd.V_elderB (vV_ W.out) g (Nat.le_of_eq hg.symm)) hb); replace X := a_ (vb_ (Kd.V_elderB (vV_ X.out) g (Nat.le_of_eq hg.symm)) hb); replace Y := a_ (vb_ (Kd.V_elderB (vV_ Y.out) g (Nat.le_of_eq hg.symm)) hb); replace Z := a_ (vb_ (Kd.V_elderB (vV_ Z.out) g (Nat.le_of_eq hg.symm)) hb); have u := a_ (hbox); have aI := a_ (by rw [hg]; exact (bz_ bel_) : w.heap.size ≤ g); have a6 := aI; replace HB := hq_ hb; clear hb hbox hg) | ((with_reducible refine gate_dst (N := 2) rfl ?_); refine bxe_ (N := 2) (cs := #[.int .i64 0, .slice none 0 0, .slice none 0 0, .slice none 0 0, .slice none 0 0, .slice none 0 0, .int .i64 0, .slice none 0 0]) (t := 32) ?_; intro d hg w3 hbox hb; replace W := a_ (vb_ (Kd.V_elderB (vV_ W.out) d (Nat.le_of_eq hg.symm)) hb); replace X := a_ (vb_ (Kd.V_elderB (vV_ X.out) d (Nat.le_of_eq hg.symm)) hb); replace Y := a_ (vb_ (Kd.V_elderB (vV_ Y.out) d (Nat.le_of_eq hg.symm)) hb); replace Z := a_ (vb_ (Kd.V_elderB (vV_ Z.out) d (Nat.le_of_eq hg.symm)) hb); have y := a_ (hbox); have aJ := a_ (by rw [hg]; exact (bz_ bel_) : w.heap.size ≤ d); have a7 := aJ; replace HB := hq_ hb; have J := a_ ((by rw [hg]; exact Nat.ne_of_lt (blk_lt (bk_ u.out)) : g ≠ d)); have K := a_ ((by rw [hg]; exact Nat.ne_of_gt (blk_lt (bk_ u.out)) : d ≠ g)); replace u := a_ (bq_ u.out hb); clear hb hbox hg; have bw := J.out; have bx := K.out; obtain ⟨_, _, _, _, _, _, _, _, _, _, _, _, _, _, _, _⟩ := cel8_ u.out) | ((with_reducible refine gate_dst (N := 3) rfl ?_); refine bxe_ (N := 3) (cs := #[.int .i64 0, .slice none 0 0, .slice none 0 0, .slice none 0 0, .slice none 0 0, .slice none 0 0, .int .i64 0, .slice none 0 0]) (t := 32) ?_; intro c hg w6 hbox hb; replace W := a_ (vb_ (Kd.V_elderB (vV_ W.out) c (Nat.le_of_eq hg.symm)) hb); replace X := a_ (vb_ (Kd.V_elderB (vV_ X.out) c (Nat.le_of_eq hg.symm)) hb); replace Y := a_ (vb_ (Kd.V_elderB (vV_ Y.out) c (Nat.le_of_eq hg.symm)) hb); replace Z := a_ (vb_ (Kd.V_elderB (vV_ Z.out) c (Nat.le_of_eq hg.symm)) hb); have x := a_ (hbox); have aK := a_ (by rw [hg]; exact (bz_ bel_) : w.heap.size ≤ c); have a8 := aK; replace HB := hq_ hb; have m := a_ ((by rw [hg]; exact Nat.ne_of_lt (blk_lt (bk_ u.out)) : g ≠ c)); have M := a_ ((by rw [hg]; exact Nat.ne_of_gt (blk_lt (bk_ u.out)) : c ≠ g)); replace u := a_ (bq_ u.out hb); have o := a_ ((by rw [hg]; exact Nat.ne_of_lt (blk_lt (bk_ y.out)) : d ≠ c)); have aa := a_ ((by rw [hg]; exact Nat.ne_of_gt (blk_lt (bk_ y.out)) : c ≠ d)); replace y := a_ (bq_ y.out hb); clear hb hbox hg; have bz := M.out; have bA := m.out; have bB := aa.out; have bC := o.out; obtain ⟨_, _, _, _, _, _, _, _, _, _, _, _, _, _, _, _⟩ := cel8_ x.out))
 go_loopg [4] k (fun kq v4 w' => ∃ (Q : Int) (p : List Int) (u222001 : Value), v4 = .int .i64 Q ∧ Aside0 (jigsawref10_Local.l0 kq Q r z E l n q F s r p l n q F s = some (r1, r2, r3, r4, r5, r6, r7, r8)) ∧ Aside0 (kq ≤ k) ∧ Aside0 (Kd.V (Kd.int .i64) 3 w' w.heap.size (fun a => ((P0_3_ a ∨ P0_4_ a ∨ P0_5_ a ∨ P0_7_ a) ∨ w.heap.size ≤ a) ∧ some a ≠ u222001.ownBlock ∧ a ≠ g ∧ a ≠ d ∧ a ≠ c) (.slice A l.length c0_3) l) ∧ Aside0 (Kd.V (Kd.int .i64) 3 w' w.heap.size (fun a => ((P0_3_ a ∨ P0_4_ a ∨ P0_5_ a ∨ P0_7_ a) ∨ w.heap.size ≤ a) ∧ some a ≠ u222001.ownBlock ∧ a ≠ g ∧ a ≠ d ∧ a ≠ c) (.slice B n.length c0_4) n) ∧ Aside0 (Kd.V (Kd.int .i64) 3 w' w.heap.size (fun a => ((P0_3_ a ∨ P0_4_ a ∨ P0_5_ a ∨ P0_7_ a) ∨ w.heap.size ≤ a) ∧ some a ≠ u222001.ownBlock ∧ a ≠ g ∧ a ≠ d ∧ a ≠ c) (.slice G q.length c0_5) q) ∧ Aside0 (Kd.V (Kd.slice 3 (Kd.int .i64)) 30 w' w.heap.size (fun a => ((P0_3_ a ∨ P0_4_ a ∨ P0_5_ a ∨ P0_7_ a) ∨ w.heap.size ≤ a) ∧ some a ≠ u222001.ownBlock ∧ a ≠ g ∧ a ≠ d ∧ a ≠ c) (.slice I s.length c0_7) s) ∧ Aside0 (Kd.R (Kd.int .i64) 3 w' w.heap.size (fun a => (w.heap.size ≤ a)) u222001 p) ∧ Aside0 (Kd.V (Kd.int .i64) 3 w' w.heap.size (fun a => ((P0_3_ a ∨ P0_4_ a ∨ P0_5_ a ∨ P0_7_ a) ∨ w.heap.size ≤ a) ∧ some a ≠ u222001.ownBlock ∧ a ≠ g ∧ a ≠ d ∧ a ≠ c) (.slice A l.length c0_3) l) ∧ Aside0 (Kd.V (Kd.int .i64) 3 w' w.heap.size (fun a => ((P0_3_ a ∨ P0_4_ a ∨ P0_5_ a ∨ P0_7_ a) ∨ w.heap.size ≤ a) ∧ some a ≠ u222001.ownBlock ∧ a ≠ g ∧ a ≠ d ∧ a ≠ c) (.slice B n.length c0_4) n) ∧ Aside0 (Kd.V (Kd.int .i64) 3 w' w.heap.size (fun a => ((P0_3_ a ∨ P0_4_ a ∨ P0_5_ a ∨ P0_7_ a) ∨ w.heap.size ≤ a) ∧ some a ≠ u222001.ownBlock ∧ a ≠ g ∧ a ≠ d ∧ a ≠ c) (.slice G q.length c0_5) q) ∧ Aside0 (Kd.V (Kd.slice 3 (Kd.int .i64)) 30 w' w.heap.size (fun a => ((P0_3_ a ∨ P0_4_ a ∨ P0_5_ a ∨ P0_7_ a) ∨ w.heap.size ≤ a) ∧ some a ≠ u222001.ownBlock ∧ a ≠ g ∧ a ≠ d ∧ a ≠ c) (.slice I s.length c0_7) s) ∧ Aside0 (w'.heap[g]? = some (.cells #[.int .i64 r, (.slice O z.length c0_1), (.slice P E.length c0_2), (.slice A l.length c0_3), (.slice B n.length c0_4), (.slice G q.length c0_5), .int .i64 F, (.slice I s.length c0_7)] 32 (0, 0))) ∧ Aside0 (w'.heap[d]? = some (.cells #[.int .i64 0, (.slice none 0 0), (.slice none 0 0), (.slice none 0 0), (.slice none 0 0), (.slice none 0 0), .int .i64 0, (.slice none 0 0)] 32 (0, 0))) ∧ Aside0 (w'.heap[c]? = some (.cells #[.int .i64 r, u222001, (.slice none 0 0), (.slice A l.length c0_3), (.slice B n.length c0_4), (.slice G q.length c0_5), .int .i64 F, (.slice I s.length c0_7)] 32 (0, 0))) ∧ Aside0 (Below w.heap.size w w'))
 case atStart => exact ⟨(0), (([] : List Int)), (.slice none 0 0), eq_, H', ⟨lr_ _⟩, ⟨by refine vV_ ?_; exact vm_ (fV_ (fV_ (fV_ (fV_ (fV_ (fV_ (fV_ (fV_ (fV_ (fV_ (vm_ W.out (fun a hk => (⟨hk, hk.2⟩ : _ ∧ a ≠ c))))))))))))) (fun _ hk => ⟨hk.1.1.1.1, ⟨(by simp [Value.ownBlock]), ⟨hk.1.1.1.2, ⟨hk.1.1.2, hk.1.2⟩⟩⟩⟩)⟩, ⟨by refine vV_ ?_; exact vm_ (fV_ (fV_ (fV_ (fV_ (fV_ (fV_ (fV_ (fV_ (fV_ (fV_ (vm_ X.out (fun a hk => (⟨hk, hk.2⟩ : _ ∧ a ≠ c))))))))))))) (fun _ hk => ⟨hk.1.1.1.1, ⟨(by simp [Value.ownBlock]), ⟨hk.1.1.1.2, ⟨hk.1.1.2, hk.1.2⟩⟩⟩⟩)⟩, ⟨by refine vV_ ?_; exact vm_ (fV_ (fV_ (fV_ (fV_ (fV_ (fV_ (fV_ (fV_ (fV_ (fV_ (vm_ Y.out (fun a hk => (⟨hk, hk.2⟩ : _ ∧ a ≠ c))))))))))))) (fun _ hk => ⟨hk.1.1.1.1, ⟨(by simp [Value.ownBlock]), ⟨hk.1.1.1.2, ⟨hk.1.1.2, hk.1.2⟩⟩⟩⟩)⟩, ⟨by refine vV_ ?_; exact vm_ (fV_ (fV_ (fV_ (fV_ (fV_ (fV_ (fV_ (fV_ (fV_ (fV_ (vm_ Z.out (fun a hk => (⟨hk, hk.2⟩ : _ ∧ a ≠ c))))))))))))) (fun _ hk => ⟨hk.1.1.1.1, ⟨(by simp [Value.ownBlock]), ⟨hk.1.1.1.2, ⟨hk.1.1.2, hk.1.2⟩⟩⟩⟩)⟩, ⟨nil_⟩, ⟨by refine vV_ ?_; exact vm_ (fV_ (fV_ (fV_ (fV_ (fV_ (fV_ (fV_ (fV_ (fV_ (fV_ (vm_ W.out (fun a hk => (⟨hk, hk.2⟩ : _ ∧ a ≠ c))))))))))))) (fun _ hk => ⟨hk.1.1.1.1, ⟨(by simp [Value.ownBlock]), ⟨hk.1.1.1.2, ⟨hk.1.1.2, hk.1.2⟩⟩⟩⟩)⟩, ⟨by refine vV_ ?_; exact vm_ (fV_ (fV_ (fV_ (fV_ (fV_ (fV_ (fV_ (fV_ (fV_ (fV_ (vm_ X.out (fun a hk => (⟨hk, hk.2⟩ : _ ∧ a ≠ c))))))))))))) (fun _ hk => ⟨hk.1.1.1.1, ⟨(by simp [Value.ownBlock]), ⟨hk.1.1.1.2, ⟨hk.1.1.2, hk.1.2⟩⟩⟩⟩)⟩, ⟨by refine vV_ ?_; exact vm_ (fV_ (fV_ (fV_ (fV_ (fV_ (fV_ (fV_ (fV_ (fV_ (fV_ (vm_ Y.out (fun a hk => (⟨hk, hk.2⟩ : _ ∧ a ≠ c))))))))))))) (fun _ hk => ⟨hk.1.1.1.1, ⟨(by simp [Value.ownBlock]), ⟨hk.1.1.1.2, ⟨hk.1.1.2, hk.1.2⟩⟩⟩⟩)⟩, ⟨by refine vV_ ?_; exact vm_ (fV_ (fV_ (fV_ (fV_ (fV_ (fV_ (fV_ (fV_ (fV_ (fV_ (vm_ Z.out (fun a hk => (⟨hk, hk.2⟩ : _ ∧ a ≠ c))))))))))))) (fun _ hk => ⟨hk.1.1.1.1, ⟨(by simp [Value.ownBlock]), ⟨hk.1.1.1.2, ⟨hk.1.1.2, hk.1.2⟩⟩⟩⟩)⟩, ⟨by refine bk_ ?_; refine blk_far ?_ m.out _; refine bk_ ?_; refine blk_far ?_ m.out _; refine bk_ ?_; refine blk_far ?_ m.out _; refine bk_ ?_; refine blk_far ?_ m.out _; refine bk_ ?_; refine blk_far ?_ m.out _; refine bk_ ?_; refine blk_far ?_ m.out _; refine bk_ ?_; refine blk_far ?_ m.out _; refine bk_ ?_; refine blk_far ?_ m.out _; refine bk_ ?_; refine blk_far ?_ m.out _; refine bk_ ?_; refine blk_far ?_ m.out _; refine bk_ ?_; exact u.out⟩, ⟨by refine bk_ ?_; refine blk_far ?_ o.out _; refine bk_ ?_; refine blk_far ?_ o.out _; refine bk_ ?_; refine blk_far ?_ o.out _; refine bk_ ?_; refine blk_far ?_ o.out _; refine bk_ ?_; refine blk_far ?_ o.out _; refine bk_ ?_; refine blk_far ?_ o.out _; refine bk_ ?_; refine blk_far ?_ o.out _; refine bk_ ?_; refine blk_far ?_ o.out _; refine bk_ ?_; refine blk_far ?_ o.out _; refine bk_ ?_; refine blk_far ?_ o.out _; refine bk_ ?_; exact y.out⟩, ⟨by refine bk_ ?_; refine bu_ (cs := #[.int .i64 r, .slice none 0 0, .slice P E.length c0_2, .slice A l.length c0_3, .slice B n.length c0_4, .slice G q.length c0_5, .int .i64 F, .slice I s.length c0_7]) ?_ 2 _ rfl; refine bk_ ?_; refine bu_ (cs := #[.int .i64 r, .slice O z.length c0_1, .slice P E.length c0_2, .slice A l.length c0_3, .slice B n.length c0_4, .slice G q.length c0_5, .int .i64 F, .slice I s.length c0_7]) ?_ 1 _ rfl; refine bk_ ?_; refine bu_ (cs := #[.int .i64 r, .slice O z.length c0_1, .slice P E.length c0_2, .slice A l.length c0_3, .slice B n.length c0_4, .slice G q.length c0_5, .int .i64 F, .slice none 0 0]) ?_ 7 _ rfl; refine bk_ ?_; refine bu_ (cs := #[.int .i64 r, .slice O z.length c0_1, .slice P E.length c0_2, .slice A l.length c0_3, .slice B n.length c0_4, .slice G q.length c0_5, .int .i64 0, .slice none 0 0]) ?_ 6 _ rfl; refine bk_ ?_; refine bu_ (cs := #[.int .i64 r, .slice O z.length c0_1, .slice P E.length c0_2, .slice A l.length c0_3, .slice B n.length c0_4, .slice none 0 0, .int .i64 0, .slice none 0 0]) ?_ 5 _ rfl; refine bk_ ?_; refine bu_ (cs := #[.int .i64 r, .slice O z.length c0_1, .slice P E.length c0_2, .slice A l.length c0_3, .slice none 0 0, .slice none 0 0, .int .i64 0, .slice none 0 0]) ?_ 4 _ rfl; refine bk_ ?_; refine bu_ (cs := #[.int .i64 r, .slice O z.length c0_1, .slice P E.length c0_2, .slice none 0 0, .slice none 0 0, .slice none 0 0, .int .i64 0, .slice none 0 0]) ?_ 3 _ rfl; refine bk_ ?_; refine bu_ (cs := #[.int .i64 r, .slice O z.length c0_1, .slice none 0 0, .slice none 0 0, .slice none 0 0, .slice none 0 0, .int .i64 0, .slice none 0 0]) ?_ 2 _ rfl; refine bk_ ?_; refine bu_ (cs := #[.int .i64 r, .slice none 0 0, .slice none 0 0, .slice none 0 0, .slice none 0 0, .slice none 0 0, .int .i64 0, .slice none 0 0]) ?_ 1 _ rfl; refine bk_ ?_; refine bu_ (cs := #[.int .i64 0, .slice none 0 0, .slice none 0 0, .slice none 0 0, .slice none 0 0, .slice none 0 0, .int .i64 0, .slice none 0 0]) ?_ 0 _ rfl; refine bk_ ?_; exact x.out⟩, ⟨bel_⟩⟩
 clear H'
 try clear c1
 try clear p2
 try clear c4
 try clear c7
 try clear c8
 obtain ⟨Q, p, u222001, rfl, HA, an, HO_220003, HO_220004, HO_220005, HO_220007, HO_222001, HO_222003, HO_222004, HO_222005, HO_222007, u, y, x, HB⟩ := hrel
 cases gk with
 | zero => exact absurd HA.out (by simp [jigsawref10_Local.l0])
 | succ k1 =>
  have H := HA.out
  clear HA
  simp only [jigsawref10_Local.l0] at H
  by_cases c10 : Q < (z.length : Int)
  ·
   rw [ip_ c10] at H
   have c10b0 : decide (Q < (z.length : Int)) = true := dt_ c10
   clear c10
   by_cases c11 : p.length < 17592186044416
   rotate_left
   ·
    rw [ig_ c11] at H
    exact ab_ H
   rw [ip_ c11] at H
   have LMc11 := a_ c11
   clear c11
   obtain ⟨aj, ad⟩ : ∃ y_ : List Int, y_ = (p ++ [Q]) := ⟨_, rfl⟩
   replace H : (jigsawref10_Local.l0 k1 (wrap64 (Q + 1)) r z E l n q F s r aj l n q F s) = some (r1, r2, r3, r4, r5, r6, r7, r8) := h2_ H ad
   have aM := a_ ad
   clear ad
   have H' := a_ H
   clear H
   have a9 := J.out
   have ba := K.out
   have bb := m.out
   have bc := M.out
   obtain ⟨_, _, _, _, _, _, _, _, _, _, _, _, _, _, _, _⟩ := cel8_ u.out
   have bd := aa.out
   have be := o.out
   obtain ⟨_, _, _, _, _, _, _, _, _, _, _, _, _, _, _, _⟩ := cel8_ x.out
   go_wp2_with (first | ((with_reducible refine gate_builtin (b := .append) (xs := #[.tmp 17, .tmp 19]) rfl ?_); at_builtin; refine Kd.R_append (Kd.int .i64) (w0 := w) w.heap.size rfl (.tmp 17) (.tmp 19) 30 3 (.int .i64 0) 8 rfl Tryz.underlying30 info3 rfl (by decide) (by omega) u222001 p Q [.int .i64 Q] (fun a => (w.heap.size ≤ a)) (fun _ => False) rfl rfl ?aP (fun _ hk => hk.elim) ?aF ?aO ?aB ?aS ?aL ?_; (case aP => exact rfl); (case aB => exact bel_); (case aF => exact (fun a hk => (Nat.le_trans (bz_ bel_) hk))); (case aO => exact (vR_ HO_222001.out)); (case aS => exact (bz_ bel_)); (case aL => have := LMc11.out; omega); intro bE w17 ho hb hg hat; rw [← aM.out] at ho; replace HO_220003 := a_ (Kd.V_afterv (ok := (fun a => ((P0_3_ a ∨ P0_4_ a ∨ P0_5_ a ∨ P0_7_ a) ∨ w.heap.size ≤ a) ∧ a ≠ g ∧ a ≠ d ∧ a ≠ c)) (by refine vV_ ?_; exact vm_ HO_220003.out (fun _ hk => ⟨⟨hk.1, ⟨hk.2.2.1, ⟨hk.2.2.2.1, hk.2.2.2.2⟩⟩⟩, hk.2.1⟩)) hg hat); replace HO_220004 := a_ (Kd.V_afterv (ok := (fun a => ((P0_3_ a ∨ P0_4_ a ∨ P0_5_ a ∨ P0_7_ a) ∨ w.heap.size ≤ a) ∧ a ≠ g ∧ a ≠ d ∧ a ≠ c)) (by refine vV_ ?_; exact vm_ HO_220004.out (fun _ hk => ⟨⟨hk.1, ⟨hk.2.2.1, ⟨hk.2.2.2.1, hk.2.2.2.2⟩⟩⟩, hk.2.1⟩)) hg hat); replace HO_220005 := a_ (Kd.V_afterv (ok := (fun a => ((P0_3_ a ∨ P0_4_ a ∨ P0_5_ a ∨ P0_7_ a) ∨ w.heap.size ≤ a) ∧ a ≠ g ∧ a ≠ d ∧ a ≠ c)) (by refine vV_ ?_; exact vm_ HO_220005.out (fun _ hk => ⟨⟨hk.1, ⟨hk.2.2.1, ⟨hk.2.2.2.1, hk.2.2.2.2⟩⟩⟩, hk.2.1⟩)) hg hat); replace HO_220007 := a_ (Kd.V_afterv (ok := (fun a => ((P0_3_ a ∨ P0_4_ a ∨ P0_5_ a ∨ P0_7_ a) ∨ w.heap.size ≤ a) ∧ a ≠ g ∧ a ≠ d ∧ a ≠ c)) (by refine vV_ ?_; exact vm_ HO_220007.out (fun _ hk => ⟨⟨hk.1, ⟨hk.2.2.1, ⟨hk.2.2.2.1, hk.2.2.2.2⟩⟩⟩, hk.2.1⟩)) hg hat); replace HO_222003 := a_ (Kd.V_afterv (ok := (fun a => ((P0_3_ a ∨ P0_4_ a ∨ P0_5_ a ∨ P0_7_ a) ∨ w.heap.size ≤ a) ∧ a ≠ g ∧ a ≠ d ∧ a ≠ c)) (by refine vV_ ?_; exact vm_ HO_222003.out (fun _ hk => ⟨⟨hk.1, ⟨hk.2.2.1, ⟨hk.2.2.2.1, hk.2.2.2.2⟩⟩⟩, hk.2.1⟩)) hg hat); replace HO_222004 := a_ (Kd.V_afterv (ok := (fun a => ((P0_3_ a ∨ P0_4_ a ∨ P0_5_ a ∨ P0_7_ a) ∨ w.heap.size ≤ a) ∧ a ≠ g ∧ a ≠ d ∧ a ≠ c)) (by refine vV_ ?_; exact vm_ HO_222004.out (fun _ hk => ⟨⟨hk.1, ⟨hk.2.2.1, ⟨hk.2.2.2.1, hk.2.2.2.2⟩⟩⟩, hk.2.1⟩)) hg hat); replace HO_222005 := a_ (Kd.V_afterv (ok := (fun a => ((P0_3_ a ∨ P0_4_ a ∨ P0_5_ a ∨ P0_7_ a) ∨ w.heap.size ≤ a) ∧ a ≠ g ∧ a ≠ d ∧ a ≠ c)) (by refine vV_ ?_; exact vm_ HO_222005.out (fun _ hk => ⟨⟨hk.1, ⟨hk.2.2.1, ⟨hk.2.2.2.1, hk.2.2.2.2⟩⟩⟩, hk.2.1⟩)) hg hat); replace HO_222007 := a_ (Kd.V_afterv (ok := (fun a => ((P0_3_ a ∨ P0_4_ a ∨ P0_5_ a ∨ P0_7_ a) ∨ w.heap.size ≤ a) ∧ a ≠ g ∧ a ≠ d ∧ a ≠ c)) (by refine vV_ ?_; exact vm_ HO_222007.out (fun _ hk => ⟨⟨hk.1, ⟨hk.2.2.1, ⟨hk.2.2.2.1, hk.2.2.2.2⟩⟩⟩, hk.2.1⟩)) hg hat); replace u := a_ (blk_grown (bk_ u.out) hg (Kd.R_ne HO_222001.out u.out (by decide))); replace y := a_ (blk_grown (bk_ y.out) hg (Kd.R_ne HO_222001.out y.out (by decide))); replace x := a_ (blk_grown (bk_ x.out) hg (Kd.R_ne HO_222001.out x.out (by decide))); replace HB := a_ (hb); have ao := a_ (ho); clear HO_222001; clear ho hb hg hat; obtain ⟨aW, aX, aY⟩ := Kd.R_slice ao.out; subst aY; obtain ⟨_, _, _, _, _, _, _, _, _, _, _, _, _, _, _, _⟩ := cel8_ x.out))
   go_roundg k1
   case measure => have := an.out; omega
   exact ⟨(wrap64 (Q + 1)), (aj), (.slice aW aj.length aX), eq_, H', ⟨by have := an.out; omega⟩, ⟨by refine vV_ ?_; exact vm_ (fV_ (vm_ HO_220003.out (fun a hk => (⟨hk, hk.1.2.2.2⟩ : _ ∧ a ≠ c)))) (fun _ hk => ⟨hk.1.1.1, ⟨hk.1.2, ⟨hk.1.1.2.1, ⟨hk.1.1.2.2.1, hk.1.1.2.2.2⟩⟩⟩⟩)⟩, ⟨by refine vV_ ?_; exact vm_ (fV_ (vm_ HO_220004.out (fun a hk => (⟨hk, hk.1.2.2.2⟩ : _ ∧ a ≠ c)))) (fun _ hk => ⟨hk.1.1.1, ⟨hk.1.2, ⟨hk.1.1.2.1, ⟨hk.1.1.2.2.1, hk.1.1.2.2.2⟩⟩⟩⟩)⟩, ⟨by refine vV_ ?_; exact vm_ (fV_ (vm_ HO_220005.out (fun a hk => (⟨hk, hk.1.2.2.2⟩ : _ ∧ a ≠ c)))) (fun _ hk => ⟨hk.1.1.1, ⟨hk.1.2, ⟨hk.1.1.2.1, ⟨hk.1.1.2.2.1, hk.1.1.2.2.2⟩⟩⟩⟩)⟩, ⟨by refine vV_ ?_; exact vm_ (fV_ (vm_ HO_220007.out (fun a hk => (⟨hk, hk.1.2.2.2⟩ : _ ∧ a ≠ c)))) (fun _ hk => ⟨hk.1.1.1, ⟨hk.1.2, ⟨hk.1.1.2.1, ⟨hk.1.1.2.2.1, hk.1.1.2.2.2⟩⟩⟩⟩)⟩, ⟨by refine vR_ ?_; exact rm_ (fR_ (rt_ ao.out x.out (by decide))) (fun _ hk => hk.1)⟩, ⟨by refine vV_ ?_; exact vm_ (fV_ (vm_ HO_222003.out (fun a hk => (⟨hk, hk.1.2.2.2⟩ : _ ∧ a ≠ c)))) (fun _ hk => ⟨hk.1.1.1, ⟨hk.1.2, ⟨hk.1.1.2.1, ⟨hk.1.1.2.2.1, hk.1.1.2.2.2⟩⟩⟩⟩)⟩, ⟨by refine vV_ ?_; exact vm_ (fV_ (vm_ HO_222004.out (fun a hk => (⟨hk, hk.1.2.2.2⟩ : _ ∧ a ≠ c)))) (fun _ hk => ⟨hk.1.1.1, ⟨hk.1.2, ⟨hk.1.1.2.1, ⟨hk.1.1.2.2.1, hk.1.1.2.2.2⟩⟩⟩⟩)⟩, ⟨by refine vV_ ?_; exact vm_ (fV_ (vm_ HO_222005.out (fun a hk => (⟨hk, hk.1.2.2.2⟩ : _ ∧ a ≠ c)))) (fun _ hk => ⟨hk.1.1.1, ⟨hk.1.2, ⟨hk.1.1.2.1, ⟨hk.1.1.2.2.1, hk.1.1.2.2.2⟩⟩⟩⟩)⟩, ⟨by refine vV_ ?_; exact vm_ (fV_ (vm_ HO_222007.out (fun a hk => (⟨hk, hk.1.2.2.2⟩ : _ ∧ a ≠ c)))) (fun _ hk => ⟨hk.1.1.1, ⟨hk.1.2, ⟨hk.1.1.2.1, ⟨hk.1.1.2.2.1, hk.1.1.2.2.2⟩⟩⟩⟩)⟩, ⟨by refine bk_ ?_; refine blk_far ?_ m.out _; refine bk_ ?_; exact u.out⟩, ⟨by refine bk_ ?_; refine blk_far ?_ o.out _; refine bk_ ?_; exact y.out⟩, ⟨by refine bk_ ?_; refine bu_ (cs := #[.int .i64 r, u222001, .slice none 0 0, .slice A l.length c0_3, .slice B n.length c0_4, .slice G q.length c0_5, .int .i64 F, .slice I s.length c0_7]) ?_ 1 _ rfl; refine bk_ ?_; exact x.out⟩, ⟨bel_⟩⟩
  rw [ig_ c10] at H
  have c10b0 : decide (Q < (z.length : Int)) = false := df_ c10
  clear c10
  have H' := a_ H
  clear H
  have bf := J.out
  have bg := K.out
  have bh := m.out
  have bi := M.out
  obtain ⟨_, _, _, _, _, _, _, _, _, _, _, _, _, _, _, _⟩ := cel8_ u.out
  go_wp2
  go_loopg [5] k1 (fun kq v5 w' => ∃ (U : Int) (v : List Int) (u222002 : Value), v5 = .int .i64 U ∧ Aside0 (jigsawref10_Local.l1 kq U r z E l n q F s r p v l n q F s = some (r1, r2, r3, r4, r5, r6, r7, r8)) ∧ Aside0 (kq ≤ k1) ∧ Aside0 (Kd.V (Kd.int .i64) 3 w' w.heap.size (fun a => ((P0_3_ a ∨ P0_4_ a ∨ P0_5_ a ∨ P0_7_ a) ∨ w.heap.size ≤ a) ∧ some a ≠ u222001.ownBlock ∧ some a ≠ u222002.ownBlock ∧ a ≠ g ∧ a ≠ d ∧ a ≠ c) (.slice A l.length c0_3) l) ∧ Aside0 (Kd.V (Kd.int .i64) 3 w' w.heap.size (fun a => ((P0_3_ a ∨ P0_4_ a ∨ P0_5_ a ∨ P0_7_ a) ∨ w.heap.size ≤ a) ∧ some a ≠ u222001.ownBlock ∧ some a ≠ u222002.ownBlock ∧ a ≠ g ∧ a ≠ d ∧ a ≠ c) (.slice B n.length c0_4) n) ∧ Aside0 (Kd.V (Kd.int .i64) 3 w' w.heap.size (fun a => ((P0_3_ a ∨ P0_4_ a ∨ P0_5_ a ∨ P0_7_ a) ∨ w.heap.size ≤ a) ∧ some a ≠ u222001.ownBlock ∧ some a ≠ u222002.ownBlock ∧ a ≠ g ∧ a ≠ d ∧ a ≠ c) (.slice G q.length c0_5) q) ∧ Aside0 (Kd.V (Kd.slice 3 (Kd.int .i64)) 30 w' w.heap.size (fun a => ((P0_3_ a ∨ P0_4_ a ∨ P0_5_ a ∨ P0_7_ a) ∨ w.heap.size ≤ a) ∧ some a ≠ u222001.ownBlock ∧ some a ≠ u222002.ownBlock ∧ a ≠ g ∧ a ≠ d ∧ a ≠ c) (.slice I s.length c0_7) s) ∧ Aside0 (Kd.R (Kd.int .i64) 3 w' w.heap.size (fun a => (w.heap.size ≤ a) ∧ some a ≠ u222002.ownBlock) u222001 p) ∧ Aside0 (Kd.R (Kd.int .i64) 3 w' w.heap.size (fun a => (w.heap.size ≤ a) ∧ some a ≠ u222001.ownBlock) u222002 v) ∧ Aside0 (Kd.V (Kd.int .i64) 3 w' w.heap.size (fun a => ((P0_3_ a ∨ P0_4_ a ∨ P0_5_ a ∨ P0_7_ a) ∨ w.heap.size ≤ a) ∧ some a ≠ u222001.ownBlock ∧ some a ≠ u222002.ownBlock ∧ a ≠ g ∧ a ≠ d ∧ a ≠ c) (.slice A l.length c0_3) l) ∧ Aside0 (Kd.V (Kd.int .i64) 3 w' w.heap.size (fun a => ((P0_3_ a ∨ P0_4_ a ∨ P0_5_ a ∨ P0_7_ a) ∨ w.heap.size ≤ a) ∧ some a ≠ u222001.ownBlock ∧ some a ≠ u222002.ownBlock ∧ a ≠ g ∧ a ≠ d ∧ a ≠ c) (.slice B n.length c0_4) n) ∧ Aside0 (Kd.V (Kd.int .i64) 3 w' w.heap.size (fun a => ((P0_3_ a ∨ P0_4_ a ∨ P0_5_ a ∨ P0_7_ a) ∨ w.heap.size ≤ a) ∧ some a ≠ u222001.ownBlock ∧ some a ≠ u222002.ownBlock ∧ a ≠ g ∧ a ≠ d ∧ a ≠ c) (.slice G q.length c0_5) q) ∧ Aside0 (Kd.V (Kd.slice 3 (Kd.int .i64)) 30 w' w.heap.size (fun a => ((P0_3_ a ∨ P0_4_ a ∨ P0_5_ a ∨ P0_7_ a) ∨ w.heap.size ≤ a) ∧ some a ≠ u222001.ownBlock ∧ some a ≠ u222002.ownBlock ∧ a ≠ g ∧ a ≠ d ∧ a ≠ c) (.slice I s.length c0_7) s) ∧ Aside0 (w'.heap[g]? = some (.cells #[.int .i64 r, (.slice O z.length c0_1), (.slice P E.length c0_2), (.slice A l.length c0_3), (.slice B n.length c0_4), (.slice G q.length c0_5), .int .i64 F, (.slice I s.length c0_7)] 32 (0, 0))) ∧ Aside0 (w'.heap[d]? = some (.cells #[.int .i64 0, (.slice none 0 0), (.slice none 0 0), (.slice none 0 0), (.slice none 0 0), (.slice none 0 0), .int .i64 0, (.slice none 0 0)] 32 (0, 0))) ∧ Aside0 (w'.heap[c]? = some (.cells #[.int .i64 r, u222001, u222002, (.slice A l.length c0_3), (.slice B n.length c0_4), (.slice G q.length c0_5), .int .i64 F, (.slice I s.length c0_7)] 32 (0, 0))) ∧ Aside0 (Below w.heap.size w w'))
  case atStart => exact ⟨(0), (([] : List Int)), (.slice none 0 0), eq_, H', ⟨lr_ _⟩, ⟨by refine vV_ ?_; exact vm_ HO_220003.out (fun _ hk => ⟨hk.1, ⟨hk.2.1, ⟨(by simp [Value.ownBlock]), ⟨hk.2.2.1, ⟨hk.2.2.2.1, hk.2.2.2.2⟩⟩⟩⟩⟩)⟩, ⟨by refine vV_ ?_; exact vm_ HO_220004.out (fun _ hk => ⟨hk.1, ⟨hk.2.1, ⟨(by simp [Value.ownBlock]), ⟨hk.2.2.1, ⟨hk.2.2.2.1, hk.2.2.2.2⟩⟩⟩⟩⟩)⟩, ⟨by refine vV_ ?_; exact vm_ HO_220005.out (fun _ hk => ⟨hk.1, ⟨hk.2.1, ⟨(by simp [Value.ownBlock]), ⟨hk.2.2.1, ⟨hk.2.2.2.1, hk.2.2.2.2⟩⟩⟩⟩⟩)⟩, ⟨by refine vV_ ?_; exact vm_ HO_220007.out (fun _ hk => ⟨hk.1, ⟨hk.2.1, ⟨(by simp [Value.ownBlock]), ⟨hk.2.2.1, ⟨hk.2.2.2.1, hk.2.2.2.2⟩⟩⟩⟩⟩)⟩, ⟨by refine vR_ ?_; exact rm_ HO_222001.out (fun _ hk => ⟨hk, (by simp [Value.ownBlock])⟩)⟩, ⟨nil_⟩, ⟨by refine vV_ ?_; exact vm_ HO_222003.out (fun _ hk => ⟨hk.1, ⟨hk.2.1, ⟨(by simp [Value.ownBlock]), ⟨hk.2.2.1, ⟨hk.2.2.2.1, hk.2.2.2.2⟩⟩⟩⟩⟩)⟩, ⟨by refine vV_ ?_; exact vm_ HO_222004.out (fun _ hk => ⟨hk.1, ⟨hk.2.1, ⟨(by simp [Value.ownBlock]), ⟨hk.2.2.1, ⟨hk.2.2.2.1, hk.2.2.2.2⟩⟩⟩⟩⟩)⟩, ⟨by refine vV_ ?_; exact vm_ HO_222005.out (fun _ hk => ⟨hk.1, ⟨hk.2.1, ⟨(by simp [Value.ownBlock]), ⟨hk.2.2.1, ⟨hk.2.2.2.1, hk.2.2.2.2⟩⟩⟩⟩⟩)⟩, ⟨by refine vV_ ?_; exact vm_ HO_222007.out (fun _ hk => ⟨hk.1, ⟨hk.2.1, ⟨(by simp [Value.ownBlock]), ⟨hk.2.2.1, ⟨hk.2.2.2.1, hk.2.2.2.2⟩⟩⟩⟩⟩)⟩, ⟨bk_ u.out⟩, ⟨bk_ y.out⟩, ⟨bk_ x.out⟩, ⟨bel_⟩⟩
  clear H'
  try clear c1
  try clear c2
  try clear p2
  try clear c4
  try clear p6
  try clear c7
  try clear c8
  try clear c10
  try clear c10b0
  try clear c11
  try clear c12
  try clear c13
  try clear c15
  try clear c19
  try clear c20
  try clear c21
  try clear p2
  obtain ⟨U, v, u222002, rfl, HA, aV, HO_220003, HO_220004, HO_220005, HO_220007, HO_222001, HO_222002, HO_222003, HO_222004, HO_222005, HO_222007, u, y, x, HB⟩ := hrel
  cases gk with
  | zero => exact absurd HA.out (by simp [jigsawref10_Local.l1])
  | succ k2 =>
   have H := HA.out
   clear HA
   simp only [jigsawref10_Local.l1] at H
   by_cases c23 : U < (E.length : Int)
   rotate_left
   ·
    rw [ig_ c23] at H
    have c23b0 : decide (U < (E.length : Int)) = false := df_ c23
    clear c23
    simp only [Option.some.injEq, Prod.mk.injEq] at H
    obtain ⟨rfl, rfl, rfl, rfl, rfl, rfl, rfl, rfl⟩ := H
    have bp := J.out
    have bq := K.out
    have br := m.out
    have bs := M.out
    obtain ⟨_, _, _, _, _, _, _, _, _, _, _, _, _, _, _, _⟩ := cel8_ u.out
    have bu := aa.out
    have bv := o.out
    obtain ⟨_, _, _, _, _, _, _, _, _, _, _, _, _, _, _, _⟩ := cel8_ x.out
    obtain ⟨_, _, _, _, _, _, _, _, _, _, _, _, _, _, _, _⟩ := cel8_ y.out
    obtain ⟨ab, ac, a2⟩ := Kd.R_slice HO_222001.out
    subst a2
    obtain ⟨af, ag, a3⟩ := Kd.R_slice HO_222002.out
    subst a3
    go_wp2
    refine bodyPost_ret (results_cell_row rfl _ _ d 32 #[.int .i64 r, .slice ab p.length ac, .slice af v.length ag, .slice A l.length c0_3, .slice B n.length c0_4, .slice G q.length c0_5, .int .i64 F, .slice I s.length c0_7] (0, 0) _ rfl (by refine bk_ ?_; refine bu_ (cs := #[.int .i64 r, .slice ab p.length ac, .slice af v.length ag, .slice A l.length c0_3, .slice B n.length c0_4, .slice G q.length c0_5, .int .i64 F, .slice none 0 0]) ?_ 7 _ rfl; refine bk_ ?_; refine bu_ (cs := #[.int .i64 r, .slice ab p.length ac, .slice af v.length ag, .slice A l.length c0_3, .slice B n.length c0_4, .slice G q.length c0_5, .int .i64 0, .slice none 0 0]) ?_ 6 _ rfl; refine bk_ ?_; refine bu_ (cs := #[.int .i64 r, .slice ab p.length ac, .slice af v.length ag, .slice A l.length c0_3, .slice B n.length c0_4, .slice none 0 0, .int .i64 0, .slice none 0 0]) ?_ 5 _ rfl; refine bk_ ?_; refine bu_ (cs := #[.int .i64 r, .slice ab p.length ac, .slice af v.length ag, .slice A l.length c0_3, .slice none 0 0, .slice none 0 0, .int .i64 0, .slice none 0 0]) ?_ 4 _ rfl; refine bk_ ?_; refine bu_ (cs := #[.int .i64 r, .slice ab p.length ac, .slice af v.length ag, .slice none 0 0, .slice none 0 0, .slice none 0 0, .int .i64 0, .slice none 0 0]) ?_ 3 _ rfl; refine bk_ ?_; refine bu_ (cs := #[.int .i64 r, .slice ab p.length ac, .slice none 0 0, .slice none 0 0, .slice none 0 0, .slice none 0 0, .int .i64 0, .slice none 0 0]) ?_ 2 _ rfl; refine bk_ ?_; refine bu_ (cs := #[.int .i64 r, .slice none 0 0, .slice none 0 0, .slice none 0 0, .slice none 0 0, .slice none 0 0, .int .i64 0, .slice none 0 0]) ?_ 1 _ rfl; refine bk_ ?_; refine bu_ (cs := #[.int .i64 0, .slice none 0 0, .slice none 0 0, .slice none 0 0, .slice none 0 0, .slice none 0 0, .int .i64 0, .slice none 0 0]) ?_ 0 _ rfl; refine bk_ ?_; exact y.out) Tryz.underlying32 rfl kr_) rfl ?_
    exact ⟨_, _, _, _, _, _, er_, by refine vR_ ?_; exact rm_ (fR_ (fR_ (fR_ (fR_ (fR_ (fR_ (fR_ (fR_ (rt_ HO_222001.out y.out (by decide)))))))))) (fun _ hk => ⟨hk.1.1, hk.1.2⟩), by refine vR_ ?_; exact rm_ (fR_ (fR_ (fR_ (fR_ (fR_ (fR_ (fR_ (fR_ (rt_ HO_222002.out y.out (by decide)))))))))) (fun _ hk => ⟨hk.1.1, hk.1.2⟩), by refine vV_ ?_; exact vm_ (fV_ (fV_ (fV_ (fV_ (fV_ (fV_ (fV_ (fV_ (vm_ HO_222003.out (fun a hk => (⟨hk, hk.2.2.2.2.1⟩ : _ ∧ a ≠ d))))))))))) (fun _ hk => ⟨hk.1.1, ⟨hk.1.2.1, hk.1.2.2.1⟩⟩), by refine vV_ ?_; exact vm_ (fV_ (fV_ (fV_ (fV_ (fV_ (fV_ (fV_ (fV_ (vm_ HO_222004.out (fun a hk => (⟨hk, hk.2.2.2.2.1⟩ : _ ∧ a ≠ d))))))))))) (fun _ hk => ⟨hk.1.1, ⟨hk.1.2.1, hk.1.2.2.1⟩⟩), by refine vV_ ?_; exact vm_ (fV_ (fV_ (fV_ (fV_ (fV_ (fV_ (fV_ (fV_ (vm_ HO_222005.out (fun a hk => (⟨hk, hk.2.2.2.2.1⟩ : _ ∧ a ≠ d))))))))))) (fun _ hk => ⟨hk.1.1, ⟨hk.1.2.1, hk.1.2.2.1⟩⟩), by refine vV_ ?_; exact vm_ (fV_ (fV_ (fV_ (fV_ (fV_ (fV_ (fV_ (fV_ (vm_ HO_222007.out (fun a hk => (⟨hk, hk.2.2.2.2.1⟩ : _ ∧ a ≠ d))))))))))) (fun _ hk => ⟨hk.1.1, ⟨hk.1.2.1, hk.1.2.2.1⟩⟩), bel_⟩
   rw [ip_ c23] at H
   have c23b0 : decide (U < (E.length : Int)) = true := dt_ c23
   clear c23
   by_cases c24 : v.length < 17592186044416
   rotate_left
   ·
    rw [ig_ c24] at H
    exact ab_ H
   rw [ip_ c24] at H
   have LMc24 := a_ c24
   clear c24
   obtain ⟨ak, ae⟩ : ∃ y_ : List Int, y_ = (v ++ [wrap64 ((z.length : Int) + U)]) := ⟨_, rfl⟩
   replace H : (jigsawref10_Local.l1 k2 (wrap64 (U + 1)) r z E l n q F s r p ak l n q F s) = some (r1, r2, r3, r4, r5, r6, r7, r8) := h2_ H ae
   have aN := a_ ae
   clear ae
   have H' := a_ H
   clear H
   have bj := J.out
   have bk := K.out
   have bl := m.out
   have bm := M.out
   obtain ⟨_, _, _, _, _, _, _, _, _, _, _, _, _, _, _, _⟩ := cel8_ u.out
   have bn := aa.out
   have bo := o.out
   obtain ⟨_, _, _, _, _, _, _, _, _, _, _, _, _, _, _, _⟩ := cel8_ x.out
   go_wp2_with (first | ((with_reducible refine gate_builtin (b := .append) (xs := #[.tmp 30, .tmp 36]) rfl ?_); at_builtin; refine Kd.R_append (Kd.int .i64) (w0 := w) w.heap.size rfl (.tmp 30) (.tmp 36) 30 3 (.int .i64 0) 8 rfl Tryz.underlying30 info3 rfl (by decide) (by omega) u222002 v (wrap64 ((z.length : Int) + U)) [.int .i64 (wrap64 ((z.length : Int) + U))] (fun a => (w.heap.size ≤ a) ∧ some a ≠ u222001.ownBlock) (fun _ => False) rfl rfl ?aP (fun _ hk => hk.elim) ?aF ?aO ?aB ?aS ?aL ?_; (case aP => exact rfl); (case aB => exact bel_); (case aF => exact (fun a hk => ⟨(Nat.le_trans (bz_ bel_) hk), fr_ (rl_ (vR_ HO_222001.out)) a hk⟩)); (case aO => exact (vR_ HO_222002.out)); (case aS => exact (bz_ bel_)); (case aL => have := LMc24.out; omega); intro bG w30 ho hb hg hat; rw [← aN.out] at ho; replace HO_220003 := a_ (Kd.V_afterv (ok := (fun a => ((P0_3_ a ∨ P0_4_ a ∨ P0_5_ a ∨ P0_7_ a) ∨ w.heap.size ≤ a) ∧ some a ≠ u222001.ownBlock ∧ a ≠ g ∧ a ≠ d ∧ a ≠ c)) (by refine vV_ ?_; exact vm_ HO_220003.out (fun _ hk => ⟨⟨hk.1, ⟨hk.2.1, ⟨hk.2.2.2.1, ⟨hk.2.2.2.2.1, hk.2.2.2.2.2⟩⟩⟩⟩, hk.2.2.1⟩)) hg hat); replace HO_220004 := a_ (Kd.V_afterv (ok := (fun a => ((P0_3_ a ∨ P0_4_ a ∨ P0_5_ a ∨ P0_7_ a) ∨ w.heap.size ≤ a) ∧ some a ≠ u222001.ownBlock ∧ a ≠ g ∧ a ≠ d ∧ a ≠ c)) (by refine vV_ ?_; exact vm_ HO_220004.out (fun _ hk => ⟨⟨hk.1, ⟨hk.2.1, ⟨hk.2.2.2.1, ⟨hk.2.2.2.2.1, hk.2.2.2.2.2⟩⟩⟩⟩, hk.2.2.1⟩)) hg hat); replace HO_220005 := a_ (Kd.V_afterv (ok := (fun a => ((P0_3_ a ∨ P0_4_ a ∨ P0_5_ a ∨ P0_7_ a) ∨ w.heap.size ≤ a) ∧ some a ≠ u222001.ownBlock ∧ a ≠ g ∧ a ≠ d ∧ a ≠ c)) (by refine vV_ ?_; exact vm_ HO_220005.out (fun _ hk => ⟨⟨hk.1, ⟨hk.2.1, ⟨hk.2.2.2.1, ⟨hk.2.2.2.2.1, hk.2.2.2.2.2⟩⟩⟩⟩, hk.2.2.1⟩)) hg hat); replace HO_220007 := a_ (Kd.V_afterv (ok := (fun a => ((P0_3_ a ∨ P0_4_ a ∨ P0_5_ a ∨ P0_7_ a) ∨ w.heap.size ≤ a) ∧ some a ≠ u222001.ownBlock ∧ a ≠ g ∧ a ≠ d ∧ a ≠ c)) (by refine vV_ ?_; exact vm_ HO_220007.out (fun _ hk => ⟨⟨hk.1, ⟨hk.2.1, ⟨hk.2.2.2.1, ⟨hk.2.2.2.2.1, hk.2.2.2.2.2⟩⟩⟩⟩, hk.2.2.1⟩)) hg hat); replace HO_222001 := a_ (Kd.R_after (ok := (fun a => (w.heap.size ≤ a))) (vR_ HO_222001.out) hg hat); replace HO_222003 := a_ (Kd.V_afterv (ok := (fun a => ((P0_3_ a ∨ P0_4_ a ∨ P0_5_ a ∨ P0_7_ a) ∨ w.heap.size ≤ a) ∧ some a ≠ u222001.ownBlock ∧ a ≠ g ∧ a ≠ d ∧ a ≠ c)) (by refine vV_ ?_; exact vm_ HO_222003.out (fun _ hk => ⟨⟨hk.1, ⟨hk.2.1, ⟨hk.2.2.2.1, ⟨hk.2.2.2.2.1, hk.2.2.2.2.2⟩⟩⟩⟩, hk.2.2.1⟩)) hg hat); replace HO_222004 := a_ (Kd.V_afterv (ok := (fun a => ((P0_3_ a ∨ P0_4_ a ∨ P0_5_ a ∨ P0_7_ a) ∨ w.heap.size ≤ a) ∧ some a ≠ u222001.ownBlock ∧ a ≠ g ∧ a ≠ d ∧ a ≠ c)) (by refine vV_ ?_; exact vm_ HO_222004.out (fun _ hk => ⟨⟨hk.1, ⟨hk.2.1, ⟨hk.2.2.2.1, ⟨hk.2.2.2.2.1, hk.2.2.2.2.2⟩⟩⟩⟩, hk.2.2.1⟩)) hg hat); replace HO_222005 := a_ (Kd.V_afterv (ok := (fun a => ((P0_3_ a ∨ P0_4_ a ∨ P0_5_ a ∨ P0_7_ a) ∨ w.heap.size ≤ a) ∧ some a ≠ u222001.ownBlock ∧ a ≠ g ∧ a ≠ d ∧ a ≠ c)) (by refine vV_ ?_; exact vm_ HO_222005.out (fun _ hk => ⟨⟨hk.1, ⟨hk.2.1, ⟨hk.2.2.2.1, ⟨hk.2.2.2.2.1, hk.2.2.2.2.2⟩⟩⟩⟩, hk.2.2.1⟩)) hg hat); replace HO_222007 := a_ (Kd.V_afterv (ok := (fun a => ((P0_3_ a ∨ P0_4_ a ∨ P0_5_ a ∨ P0_7_ a) ∨ w.heap.size ≤ a) ∧ some a ≠ u222001.ownBlock ∧ a ≠ g ∧ a ≠ d ∧ a ≠ c)) (by refine vV_ ?_; exact vm_ HO_222007.out (fun _ hk => ⟨⟨hk.1, ⟨hk.2.1, ⟨hk.2.2.2.1, ⟨hk.2.2.2.2.1, hk.2.2.2.2.2⟩⟩⟩⟩, hk.2.2.1⟩)) hg hat); replace u := a_ (blk_grown (bk_ u.out) hg (Kd.R_ne HO_222002.out u.out (by decide))); replace y := a_ (blk_grown (bk_ y.out) hg (Kd.R_ne HO_222002.out y.out (by decide))); replace x := a_ (blk_grown (bk_ x.out) hg (Kd.R_ne HO_222002.out x.out (by decide))); replace HB := a_ (hb); have ap := a_ (ho); clear HO_222002; clear ho hb hg hat; obtain ⟨aZ, a0, a1⟩ := Kd.R_slice ap.out; subst a1; obtain ⟨_, _, _, _, _, _, _, _, _, _, _, _, _, _, _, _⟩ := cel8_ x.out))
   go_roundg k2
   case measure => have := an.out; have := aV.out; omega
   exact ⟨(wrap64 (U + 1)), (ak), (.slice aZ ak.length a0), eq_, H', ⟨by have := an.out; have := aV.out; omega⟩, ⟨by refine vV_ ?_; exact vm_ (fV_ (vm_ HO_220003.out (fun a hk => (⟨hk, hk.1.2.2.2.2⟩ : _ ∧ a ≠ c)))) (fun _ hk => ⟨hk.1.1.1, ⟨hk.1.1.2.1, ⟨hk.1.2, ⟨hk.1.1.2.2.1, ⟨hk.1.1.2.2.2.1, hk.1.1.2.2.2.2⟩⟩⟩⟩⟩)⟩, ⟨by refine vV_ ?_; exact vm_ (fV_ (vm_ HO_220004.out (fun a hk => (⟨hk, hk.1.2.2.2.2⟩ : _ ∧ a ≠ c)))) (fun _ hk => ⟨hk.1.1.1, ⟨hk.1.1.2.1, ⟨hk.1.2, ⟨hk.1.1.2.2.1, ⟨hk.1.1.2.2.2.1, hk.1.1.2.2.2.2⟩⟩⟩⟩⟩)⟩, ⟨by refine vV_ ?_; exact vm_ (fV_ (vm_ HO_220005.out (fun a hk => (⟨hk, hk.1.2.2.2.2⟩ : _ ∧ a ≠ c)))) (fun _ hk => ⟨hk.1.1.1, ⟨hk.1.1.2.1, ⟨hk.1.2, ⟨hk.1.1.2.2.1, ⟨hk.1.1.2.2.2.1, hk.1.1.2.2.2.2⟩⟩⟩⟩⟩)⟩, ⟨by refine vV_ ?_; exact vm_ (fV_ (vm_ HO_220007.out (fun a hk => (⟨hk, hk.1.2.2.2.2⟩ : _ ∧ a ≠ c)))) (fun _ hk => ⟨hk.1.1.1, ⟨hk.1.1.2.1, ⟨hk.1.2, ⟨hk.1.1.2.2.1, ⟨hk.1.1.2.2.2.1, hk.1.1.2.2.2.2⟩⟩⟩⟩⟩)⟩, ⟨by refine vR_ ?_; exact rm_ (fR_ (rt_ HO_222001.out x.out (by decide))) (fun _ hk => ⟨hk.1.1, hk.1.2⟩)⟩, ⟨by refine vR_ ?_; exact rm_ (fR_ (rt_ ap.out x.out (by decide))) (fun _ hk => ⟨hk.1.1, hk.1.2⟩)⟩, ⟨by refine vV_ ?_; exact vm_ (fV_ (vm_ HO_222003.out (fun a hk => (⟨hk, hk.1.2.2.2.2⟩ : _ ∧ a ≠ c)))) (fun _ hk => ⟨hk.1.1.1, ⟨hk.1.1.2.1, ⟨hk.1.2, ⟨hk.1.1.2.2.1, ⟨hk.1.1.2.2.2.1, hk.1.1.2.2.2.2⟩⟩⟩⟩⟩)⟩, ⟨by refine vV_ ?_; exact vm_ (fV_ (vm_ HO_222004.out (fun a hk => (⟨hk, hk.1.2.2.2.2⟩ : _ ∧ a ≠ c)))) (fun _ hk => ⟨hk.1.1.1, ⟨hk.1.1.2.1, ⟨hk.1.2, ⟨hk.1.1.2.2.1, ⟨hk.1.1.2.2.2.1, hk.1.1.2.2.2.2⟩⟩⟩⟩⟩)⟩, ⟨by refine vV_ ?_; exact vm_ (fV_ (vm_ HO_222005.out (fun a hk => (⟨hk, hk.1.2.2.2.2⟩ : _ ∧ a ≠ c)))) (fun _ hk => ⟨hk.1.1.1, ⟨hk.1.1.2.1, ⟨hk.1.2, ⟨hk.1.1.2.2.1, ⟨hk.1.1.2.2.2.1, hk.1.1.2.2.2.2⟩⟩⟩⟩⟩)⟩, ⟨by refine vV_ ?_; exact vm_ (fV_ (vm_ HO_222007.out (fun a hk => (⟨hk, hk.1.2.2.2.2⟩ : _ ∧ a ≠ c)))) (fun _ hk => ⟨hk.1.1.1, ⟨hk.1.1.2.1, ⟨hk.1.2, ⟨hk.1.1.2.2.1, ⟨hk.1.1.2.2.2.1, hk.1.1.2.2.2.2⟩⟩⟩⟩⟩)⟩, ⟨by refine bk_ ?_; refine blk_far ?_ m.out _; refine bk_ ?_; exact u.out⟩, ⟨by refine bk_ ?_; refine blk_far ?_ o.out _; refine bk_ ?_; exact y.out⟩, ⟨by refine bk_ ?_; refine bu_ (cs := #[.int .i64 r, u222001, u222002, .slice A l.length c0_3, .slice B n.length c0_4, .slice G q.length c0_5, .int .i64 F, .slice I s.length c0_7]) ?_ 2 _ rfl; refine bk_ ?_; exact x.out⟩, ⟨bel_⟩⟩

end Go.Proofs.YtckfbfdnlpnllaaGreatDoor.XAllDiffFilters
