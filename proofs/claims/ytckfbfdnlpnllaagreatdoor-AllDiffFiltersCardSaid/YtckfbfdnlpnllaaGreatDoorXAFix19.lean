-- by xprint.py, a program of this session, over the kit's print
import Derived.Test.YtckfbfdnlpnllaaGreatDoorXAFix0
import Derived.Test.YtckfbfdnlpnllaaGreatDoorXAFix9
import Derived.Test.YtckfbfdnlpnllaaGreatDoorSq
namespace Go.Proofs.YtckfbfdnlpnllaaGreatDoor.XAllDiffFilters
open Go.RowKit Go.Proofs.YtckfbfdnlpnllaaGreatDoor.Sq Go.Proofs.YtckfbfdnlpnllaaGreatDoorW.PrintWords Go.Proofs.YtckfbfdnlpnllaaGreatDoorW.PrintLast Go.Proofs.YtckfbfdnlpnllaaGreatDoorW.PrintMore
attribute [local go_sem] max2_int min2_int max_two min_two max_three min_three max_four min_four   -- for this text's walks alone
set_option linter.unusedVariables false
set_option linter.unusedSimpArgs false

/-! ### jigsawref10_Exact: function 13 -/
mutual
def jigsawref10_Exact.l0 : Nat → List (List Int) → List (List Int) → List (List Int) → Int → Option ((List (List Int)) × Bool)
 | 0, _, _, _, _ => none
 | k + 1, c, d, a, b => if b < (c.length : Int) then (jigsawref10_Exact.l1 k c d a b ([] : List Int) 0) else (if (d.length : Int) = 0 then (some (([] : List (List Int)), false)) else (some (a, true)))
def jigsawref10_Exact.l1 : Nat → List (List Int) → List (List Int) → List (List Int) → Int → List Int → Int → Option ((List (List Int)) × Bool)
 | 0, _, _, _, _, _, _ => none
 | k + 1, c, f, b, a, d, e => if 0 ≤ a then (if a < (c.length : Int) then (if e < ((rd_L3 c a).length : Int) then (jigsawref10_Exact.l2 k c f b a d e false 0) else (if b.length < 5864062014805 then (jigsawref10_Exact.l0 k c f (b ++ [d]) (wrap64 (a + 1))) else (none))) else (none)) else (none)
def jigsawref10_Exact.l2 : Nat → List (List Int) → List (List Int) → List (List Int) → Int → List Int → Int → Bool → Int → Option ((List (List Int)) × Bool)
 | 0, _, _, _, _, _, _, _, _ => none
 | k + 1, c, f, g, a, e, b, l, d => if d < (f.length : Int) then (if l = true then (jigsawref10_Exact.l2 k c f g a e b true (wrap64 (d + 1))) else (if 0 ≤ d then (if 0 ≤ a then (if a < ((rd_L3 f d).length : Int) then (if a < (c.length : Int) then (if 0 ≤ b then (if b < ((rd_L3 c a).length : Int) then (jigsawref10_Exact.l2 k c f g a e b ((rd (rd_L3 f d) a) == (rd (rd_L3 c a) b)) (wrap64 (d + 1))) else (none)) else (none)) else (none)) else (none)) else (none)) else (none))) else (if l = true then (if 0 ≤ a then (if a < (c.length : Int) then (if 0 ≤ b then (if b < ((rd_L3 c a).length : Int) then (if e.length < 17592186044416 then (jigsawref10_Exact.l1 k c f g a (e ++ [rd (rd_L3 c a) b]) (wrap64 (b + 1))) else (none)) else (none)) else (none)) else (none)) else (none)) else (jigsawref10_Exact.l1 k c f g a e (wrap64 (b + 1))))
end
def jigsawref10_Exact.f (k : Nat) (b : Int) (c : List Int) (d : List Int) (e : List Int) (g : List Int) (l : List Int) (m : Int) (n : List (List Int)) (o : List (List Int)) (p : Int) : Option ((List (List Int)) × Bool) := (jigsawref10_Solutions.f k b c d e g l m n o p).bind fun a => (jigsawref10_Exact.l0 k o a.1 ([] : List (List Int)) 0)
theorem jigsawref10_Exact.mono_l : ∀ k, (∀ a b c d, LeO (jigsawref10_Exact.l0 k a b c d) (jigsawref10_Exact.l0 (k + 1) a b c d)) ∧ (∀ a b c d e f, LeO (jigsawref10_Exact.l1 k a b c d e f) (jigsawref10_Exact.l1 (k + 1) a b c d e f)) ∧ (∀ a b c d e f g l, LeO (jigsawref10_Exact.l2 k a b c d e f g l) (jigsawref10_Exact.l2 (k + 1) a b c d e f g l))
 | 0 => by refine ⟨?_, ?_, ?_⟩ <;> (intros; exact LeO.none _)
 | k + 1 => by
  obtain ⟨ih0, ih1, ih2⟩ := jigsawref10_Exact.mono_l k
  have m0 := @jigsawref10_Solutions.mono
  refine ⟨?_, ?_, ?_⟩ <;> intros
  all_goals first | unfold jigsawref10_Exact.l0 | unfold jigsawref10_Exact.l1 | unfold jigsawref10_Exact.l2
  all_goals exact leo_
theorem jigsawref10_Exact.mono : ∀ a b c d e g l m n o k, LeO (jigsawref10_Exact.f k a b c d e g l m n o) (jigsawref10_Exact.f (k + 1) a b c d e g l m n o) := by
 intro a b c d e g l m n o k
 obtain ⟨ih0, ih1, ih2⟩ := jigsawref10_Exact.mono_l k
 unfold jigsawref10_Exact.f
 have m0 := @jigsawref10_Solutions.mono
 exact leo_
set_option maxHeartbeats 8000000 in
set_option maxRecDepth 100000 in
theorem jigsawref10_Exact.calls (k : Nat) (X : Int) (aa : Option Addr) (c0_1 : Nat) (M : List Int) (ab : Option Addr) (c0_2 : Nat) (O : List Int) (P0_3_ : Nat → Prop) (P : Option Addr) (c0_3 : Nat) (r : List Int) (P0_4_ : Nat → Prop) (Q : Option Addr) (c0_4 : Nat) (s : List Int) (P0_5_ : Nat → Prop) (U : Option Addr) (c0_5 : Nat) (u : List Int) (Y : Int) (P0_7_ : Nat → Prop) (W : Option Addr) (c0_7 : Nat) (v : List (List Int)) (A1 : Option Addr) (c1 : Nat) (q : List (List Int)) (a2 : Int) (r1 : List (List Int)) (r2 : Bool) (w : World) (a5 : Kd.C (Kd.int .i64) w aa M.length M) (a6 : M.length ≤ c0_1) (a7 : Kd.C (Kd.int .i64) w ab O.length O) (a8 : O.length ≤ c0_2) (bl : Kd.V (Kd.int .i64) 3 w w.heap.size (fun a => P0_3_ a) (.slice P r.length c0_3) r) (bm : Kd.V (Kd.int .i64) 3 w w.heap.size (fun a => P0_4_ a) (.slice Q s.length c0_4) s) (bn : Kd.V (Kd.int .i64) 3 w w.heap.size (fun a => P0_5_ a) (.slice U u.length c0_5) u) (bo : Kd.V (Kd.slice 3 (Kd.int .i64)) 30 w w.heap.size (fun a => P0_7_ a) (.slice W v.length c0_7) v) (br : Kd.C (Kd.slice 3 (Kd.int .i64)) w A1 q.length q) (bs : q.length ≤ c1) (h : jigsawref10_Exact.f k X M O r s u Y v q a2 = some (r1, r2)) :
  Calls Tryz.prog 13 #[.agg #[.int .i64 X, .slice aa M.length c0_1, .slice ab O.length c0_2, .slice P r.length c0_3, .slice Q s.length c0_4, .slice U u.length c0_5, .int .i64 Y, .slice W v.length c0_7], .slice A1 q.length c1, .int .i64 a2] w fun e w' => ∃ bu : Value, e = .returned (.tuple #[bu, .bool r2]) ∧ Kd.N (Kd.slice 3 (Kd.int .i64)) 30 w' w.heap.size (fun a => ((P0_3_ a ∨ P0_4_ a ∨ P0_5_ a ∨ P0_7_ a) ∨ w.heap.size ≤ a)) bu r1 ∧ Below w.heap.size w w' := by
 have hu32 := Tryz.underlying32
 have aI := a_ a5
 have aJ := a_ a6
 clear a5 a6
 have aK := a_ a7
 have aM := a_ a8
 clear a7 a8
 have x := a_ (show Kd.V (Kd.int .i64) 3 w w.heap.size (fun a => ((P0_3_ a ∨ P0_4_ a ∨ P0_5_ a ∨ P0_7_ a) ∨ w.heap.size ≤ a)) (.slice P r.length c0_3) r from vm_ bl (fun a hk => .inl (.inl hk)))
 have y := a_ (show Kd.V (Kd.int .i64) 3 w w.heap.size (fun a => ((P0_3_ a ∨ P0_4_ a ∨ P0_5_ a ∨ P0_7_ a) ∨ w.heap.size ≤ a)) (.slice Q s.length c0_4) s from vm_ bm (fun a hk => .inl (.inr (.inl hk))))
 have z := a_ (show Kd.V (Kd.int .i64) 3 w w.heap.size (fun a => ((P0_3_ a ∨ P0_4_ a ∨ P0_5_ a ∨ P0_7_ a) ∨ w.heap.size ≤ a)) (.slice U u.length c0_5) u from vm_ bn (fun a hk => .inl (.inr (.inr (.inl hk)))))
 have A := a_ (show Kd.V (Kd.slice 3 (Kd.int .i64)) 30 w w.heap.size (fun a => ((P0_3_ a ∨ P0_4_ a ∨ P0_5_ a ∨ P0_7_ a) ∨ w.heap.size ≤ a)) (.slice W v.length c0_7) v from vm_ bo (fun a hk => .inl (.inr (.inr (.inr hk)))))
 have aq := a_ br
 have bf := a_ bs
 clear br bs
 have HB := a_ (Below.refl w.heap.size w)
 unfold jigsawref10_Exact.f at h
 have H := h
 clear h
 replace H := bs_.mp H
 obtain ⟨⟨m, aX⟩, bv, H⟩ := H
 try dsimp only at H
 have A4 := a_ bv
 clear bv
 have H' := a_ H
 clear H
 go_enter Tryz.func13, Tryz.ntmps13
 go_wp2_with (first | ((with_reducible refine gate_dst (N := 3) rfl ?_); refine bxe_ (N := 3) (cs := #[.int .i64 X, .slice aa M.length c0_1, .slice ab O.length c0_2, .slice P r.length c0_3, .slice Q s.length c0_4, .slice U u.length c0_5, .int .i64 Y, .slice W v.length c0_7]) (t := 32) ?_; intro c hg w5 hbox hb; replace x := a_ (vb_ (Kd.V_elderB (vV_ x.out) c (Nat.le_of_eq hg.symm)) hb); replace y := a_ (vb_ (Kd.V_elderB (vV_ y.out) c (Nat.le_of_eq hg.symm)) hb); replace z := a_ (vb_ (Kd.V_elderB (vV_ z.out) c (Nat.le_of_eq hg.symm)) hb); replace A := a_ (vb_ (Kd.V_elderB (vV_ A.out) c (Nat.le_of_eq hg.symm)) hb); have g := a_ (hbox); have ag := a_ (by rw [hg]; exact (bz_ bel_) : w.heap.size ≤ c); have a9 := ag; replace HB := hq_ hb; clear hb hbox hg; obtain ⟨_, _, _, _, _, _, _, _, _, _, _, _, _, _, _, _⟩ := cel8_ g.out) | (go_at_call 9; (with_reducible refine (jigsawref10_Solutions.calls k X _ _ M _ _ O (fun a => (((P0_3_ a ∨ P0_4_ a ∨ P0_5_ a ∨ P0_7_ a) ∨ w.heap.size ≤ a) ∧ a ≠ c)) _ _ r (fun a => (((P0_3_ a ∨ P0_4_ a ∨ P0_5_ a ∨ P0_7_ a) ∨ w.heap.size ≤ a) ∧ a ≠ c)) _ _ s (fun a => (((P0_3_ a ∨ P0_4_ a ∨ P0_5_ a ∨ P0_7_ a) ∨ w.heap.size ≤ a) ∧ a ≠ c)) _ _ u Y (fun a => (((P0_3_ a ∨ P0_4_ a ∨ P0_5_ a ∨ P0_7_ a) ∨ w.heap.size ≤ a) ∧ a ≠ c)) _ _ v _ _ q a2 m aX _ ?_ ?_ ?_ ?_ ?_ ?_ ?_ ?_ ?_ ?_ A4.out).mono ?_); exact ca_ ((cb_ aI.out HB.out)); exact aJ.out; exact ca_ ((cb_ aK.out HB.out)); exact aM.out; exact x.out; exact y.out; exact z.out; exact A.out; exact ca_ ((cb_ aq.out HB.out)); exact bf.out; rintro e w7 ⟨n, rfl, J, hb⟩; replace x := a_ (Kd.V_elder' (vV_ x.out) (Kd.N_base J) hb); replace y := a_ (Kd.V_elder' (vV_ y.out) (Kd.N_base J) hb); replace z := a_ (Kd.V_elder' (vV_ z.out) (Kd.N_base J) hb); replace A := a_ (Kd.V_elder' (vV_ A.out) (Kd.N_base J) hb); have aN := a_ (Kd.N_lower (nm_ (ok' := fun a => ((P0_3_ a ∨ P0_4_ a ∨ P0_5_ a ∨ P0_7_ a) ∨ w.heap.size ≤ a) ∧ a ≠ c) J (fun a hk_ => ⟨Or.elim hk_ (fun hs_ => Or.elim hs_ (fun hs_ => hs_.1) (fun hs_ => Or.elim hs_ (fun hs_ => hs_.1) (fun hs_ => Or.elim hs_ (fun hs_ => hs_.1) (fun hs_ => hs_.1)))) (fun hn_ => (.inr (Nat.le_trans (bz_ bel_) hn_))), Or.elim hk_ (fun hs_ => Or.elim hs_ (fun hs_ => hs_.2) (fun hs_ => Or.elim hs_ (fun hs_ => hs_.2) (fun hs_ => Or.elim hs_ (fun hs_ => hs_.2) (fun hs_ => hs_.2)))) (fun hn_ => (Kd.freshB (bk_ g.out) a hn_))⟩)) (bz_ bel_)); replace g := a_ (bq_ g.out hb); replace HB := hq_ hb; clear hb J))
 repeat (go_quiet (first | ((with_reducible refine gate_dst (N := 3) rfl ?_); refine bxe_ (N := 3) (cs := #[.int .i64 X, .slice aa M.length c0_1, .slice ab O.length c0_2, .slice P r.length c0_3, .slice Q s.length c0_4, .slice U u.length c0_5, .int .i64 Y, .slice W v.length c0_7]) (t := 32) ?_; intro c hg w5 hbox hb; replace x := a_ (vb_ (Kd.V_elderB (vV_ x.out) c (Nat.le_of_eq hg.symm)) hb); replace y := a_ (vb_ (Kd.V_elderB (vV_ y.out) c (Nat.le_of_eq hg.symm)) hb); replace z := a_ (vb_ (Kd.V_elderB (vV_ z.out) c (Nat.le_of_eq hg.symm)) hb); replace A := a_ (vb_ (Kd.V_elderB (vV_ A.out) c (Nat.le_of_eq hg.symm)) hb); have g := a_ (hbox); have ag := a_ (by rw [hg]; exact (bz_ bel_) : w.heap.size ≤ c); have a9 := ag; replace HB := hq_ hb; clear hb hbox hg; obtain ⟨_, _, _, _, _, _, _, _, _, _, _, _, _, _, _, _⟩ := cel8_ g.out) | (go_at_call 9; (with_reducible refine (jigsawref10_Solutions.calls k X _ _ M _ _ O (fun a => (((P0_3_ a ∨ P0_4_ a ∨ P0_5_ a ∨ P0_7_ a) ∨ w.heap.size ≤ a) ∧ a ≠ c)) _ _ r (fun a => (((P0_3_ a ∨ P0_4_ a ∨ P0_5_ a ∨ P0_7_ a) ∨ w.heap.size ≤ a) ∧ a ≠ c)) _ _ s (fun a => (((P0_3_ a ∨ P0_4_ a ∨ P0_5_ a ∨ P0_7_ a) ∨ w.heap.size ≤ a) ∧ a ≠ c)) _ _ u Y (fun a => (((P0_3_ a ∨ P0_4_ a ∨ P0_5_ a ∨ P0_7_ a) ∨ w.heap.size ≤ a) ∧ a ≠ c)) _ _ v _ _ q a2 m aX _ ?_ ?_ ?_ ?_ ?_ ?_ ?_ ?_ ?_ ?_ A4.out).mono ?_); exact ca_ ((cb_ aI.out HB.out)); exact aJ.out; exact ca_ ((cb_ aK.out HB.out)); exact aM.out; exact x.out; exact y.out; exact z.out; exact A.out; exact ca_ ((cb_ aq.out HB.out)); exact bf.out; rintro e w7 ⟨n, rfl, J, hb⟩; replace x := a_ (Kd.V_elder' (vV_ x.out) (Kd.N_base J) hb); replace y := a_ (Kd.V_elder' (vV_ y.out) (Kd.N_base J) hb); replace z := a_ (Kd.V_elder' (vV_ z.out) (Kd.N_base J) hb); replace A := a_ (Kd.V_elder' (vV_ A.out) (Kd.N_base J) hb); have aN := a_ (Kd.N_lower (nm_ (ok' := fun a => ((P0_3_ a ∨ P0_4_ a ∨ P0_5_ a ∨ P0_7_ a) ∨ w.heap.size ≤ a) ∧ a ≠ c) J (fun a hk_ => ⟨Or.elim hk_ (fun hs_ => Or.elim hs_ (fun hs_ => hs_.1) (fun hs_ => Or.elim hs_ (fun hs_ => hs_.1) (fun hs_ => Or.elim hs_ (fun hs_ => hs_.1) (fun hs_ => hs_.1)))) (fun hn_ => (.inr (Nat.le_trans (bz_ bel_) hn_))), Or.elim hk_ (fun hs_ => Or.elim hs_ (fun hs_ => hs_.2) (fun hs_ => Or.elim hs_ (fun hs_ => hs_.2) (fun hs_ => Or.elim hs_ (fun hs_ => hs_.2) (fun hs_ => hs_.2)))) (fun hn_ => (Kd.freshB (bk_ g.out) a hn_))⟩)) (bz_ bel_)); replace g := a_ (bq_ g.out hb); replace HB := hq_ hb; clear hb J)); try go_wp2_with (first | ((with_reducible refine gate_dst (N := 3) rfl ?_); refine bxe_ (N := 3) (cs := #[.int .i64 X, .slice aa M.length c0_1, .slice ab O.length c0_2, .slice P r.length c0_3, .slice Q s.length c0_4, .slice U u.length c0_5, .int .i64 Y, .slice W v.length c0_7]) (t := 32) ?_; intro c hg w5 hbox hb; replace x := a_ (vb_ (Kd.V_elderB (vV_ x.out) c (Nat.le_of_eq hg.symm)) hb); replace y := a_ (vb_ (Kd.V_elderB (vV_ y.out) c (Nat.le_of_eq hg.symm)) hb); replace z := a_ (vb_ (Kd.V_elderB (vV_ z.out) c (Nat.le_of_eq hg.symm)) hb); replace A := a_ (vb_ (Kd.V_elderB (vV_ A.out) c (Nat.le_of_eq hg.symm)) hb); have g := a_ (hbox); have ag := a_ (by rw [hg]; exact (bz_ bel_) : w.heap.size ≤ c); have a9 := ag; replace HB := hq_ hb; clear hb hbox hg; obtain ⟨_, _, _, _, _, _, _, _, _, _, _, _, _, _, _, _⟩ := cel8_ g.out) | (go_at_call 9; (with_reducible refine (jigsawref10_Solutions.calls k X _ _ M _ _ O (fun a => (((P0_3_ a ∨ P0_4_ a ∨ P0_5_ a ∨ P0_7_ a) ∨ w.heap.size ≤ a) ∧ a ≠ c)) _ _ r (fun a => (((P0_3_ a ∨ P0_4_ a ∨ P0_5_ a ∨ P0_7_ a) ∨ w.heap.size ≤ a) ∧ a ≠ c)) _ _ s (fun a => (((P0_3_ a ∨ P0_4_ a ∨ P0_5_ a ∨ P0_7_ a) ∨ w.heap.size ≤ a) ∧ a ≠ c)) _ _ u Y (fun a => (((P0_3_ a ∨ P0_4_ a ∨ P0_5_ a ∨ P0_7_ a) ∨ w.heap.size ≤ a) ∧ a ≠ c)) _ _ v _ _ q a2 m aX _ ?_ ?_ ?_ ?_ ?_ ?_ ?_ ?_ ?_ ?_ A4.out).mono ?_); exact ca_ ((cb_ aI.out HB.out)); exact aJ.out; exact ca_ ((cb_ aK.out HB.out)); exact aM.out; exact x.out; exact y.out; exact z.out; exact A.out; exact ca_ ((cb_ aq.out HB.out)); exact bf.out; rintro e w7 ⟨n, rfl, J, hb⟩; replace x := a_ (Kd.V_elder' (vV_ x.out) (Kd.N_base J) hb); replace y := a_ (Kd.V_elder' (vV_ y.out) (Kd.N_base J) hb); replace z := a_ (Kd.V_elder' (vV_ z.out) (Kd.N_base J) hb); replace A := a_ (Kd.V_elder' (vV_ A.out) (Kd.N_base J) hb); have aN := a_ (Kd.N_lower (nm_ (ok' := fun a => ((P0_3_ a ∨ P0_4_ a ∨ P0_5_ a ∨ P0_7_ a) ∨ w.heap.size ≤ a) ∧ a ≠ c) J (fun a hk_ => ⟨Or.elim hk_ (fun hs_ => Or.elim hs_ (fun hs_ => hs_.1) (fun hs_ => Or.elim hs_ (fun hs_ => hs_.1) (fun hs_ => Or.elim hs_ (fun hs_ => hs_.1) (fun hs_ => hs_.1)))) (fun hn_ => (.inr (Nat.le_trans (bz_ bel_) hn_))), Or.elim hk_ (fun hs_ => Or.elim hs_ (fun hs_ => hs_.2) (fun hs_ => Or.elim hs_ (fun hs_ => hs_.2) (fun hs_ => Or.elim hs_ (fun hs_ => hs_.2) (fun hs_ => hs_.2)))) (fun hn_ => (Kd.freshB (bk_ g.out) a hn_))⟩)) (bz_ bel_)); replace g := a_ (bq_ g.out hb); replace HB := hq_ hb; clear hb J)))
 go_loopg [10, 11] k (fun kq au bQ w' => ∃ (B : List (List Int)) (d : Int), bQ = .int .i64 d ∧ Aside0 (jigsawref10_Exact.l0 kq q m B d = some (r1, r2)) ∧ Aside0 (kq ≤ k) ∧ Aside0 (Kd.N (Kd.slice 3 (Kd.int .i64)) 30 w' w.heap.size (fun a => ((P0_3_ a ∨ P0_4_ a ∨ P0_5_ a ∨ P0_7_ a) ∨ w.heap.size ≤ a) ∧ some a ≠ au.ownBlock ∧ a ≠ c) n m) ∧ Aside0 (Kd.N (Kd.slice 3 (Kd.int .i64)) 30 w' w.heap.size (fun a => ((P0_3_ a ∨ P0_4_ a ∨ P0_5_ a ∨ P0_7_ a) ∨ w.heap.size ≤ a) ∧ some a ≠ n.ownBlock ∧ a ≠ c) au B) ∧ Aside0 (Kd.V (Kd.int .i64) 3 w' w.heap.size (fun a => ((P0_3_ a ∨ P0_4_ a ∨ P0_5_ a ∨ P0_7_ a) ∨ w.heap.size ≤ a) ∧ some a ≠ n.ownBlock ∧ some a ≠ au.ownBlock ∧ a ≠ c) (.slice P r.length c0_3) r) ∧ Aside0 (Kd.V (Kd.int .i64) 3 w' w.heap.size (fun a => ((P0_3_ a ∨ P0_4_ a ∨ P0_5_ a ∨ P0_7_ a) ∨ w.heap.size ≤ a) ∧ some a ≠ n.ownBlock ∧ some a ≠ au.ownBlock ∧ a ≠ c) (.slice Q s.length c0_4) s) ∧ Aside0 (Kd.V (Kd.int .i64) 3 w' w.heap.size (fun a => ((P0_3_ a ∨ P0_4_ a ∨ P0_5_ a ∨ P0_7_ a) ∨ w.heap.size ≤ a) ∧ some a ≠ n.ownBlock ∧ some a ≠ au.ownBlock ∧ a ≠ c) (.slice U u.length c0_5) u) ∧ Aside0 (Kd.V (Kd.slice 3 (Kd.int .i64)) 30 w' w.heap.size (fun a => ((P0_3_ a ∨ P0_4_ a ∨ P0_5_ a ∨ P0_7_ a) ∨ w.heap.size ≤ a) ∧ some a ≠ n.ownBlock ∧ some a ≠ au.ownBlock ∧ a ≠ c) (.slice W v.length c0_7) v) ∧ Aside0 (w'.heap[c]? = some (.cells #[.int .i64 X, (.slice aa M.length c0_1), (.slice ab O.length c0_2), (.slice P r.length c0_3), (.slice Q s.length c0_4), (.slice U u.length c0_5), .int .i64 Y, (.slice W v.length c0_7)] 32 (0, 0))) ∧ Aside0 (Below w.heap.size w w'))
 case atStart => exact ⟨(([] : List (List Int))), (0), eq_, H', ⟨lr_ _⟩, ⟨by refine vN_ ?_; exact nm_ aN.out (fun _ hk => ⟨hk.1, ⟨(by simp [Value.ownBlock]), hk.2⟩⟩)⟩, ⟨nil_⟩, ⟨by refine vV_ ?_; exact vm_ x.out (fun _ hk => ⟨hk.1.1, ⟨hk.2, ⟨(by simp [Value.ownBlock]), hk.1.2⟩⟩⟩)⟩, ⟨by refine vV_ ?_; exact vm_ y.out (fun _ hk => ⟨hk.1.1, ⟨hk.2, ⟨(by simp [Value.ownBlock]), hk.1.2⟩⟩⟩)⟩, ⟨by refine vV_ ?_; exact vm_ z.out (fun _ hk => ⟨hk.1.1, ⟨hk.2, ⟨(by simp [Value.ownBlock]), hk.1.2⟩⟩⟩)⟩, ⟨by refine vV_ ?_; exact vm_ A.out (fun _ hk => ⟨hk.1.1, ⟨hk.2, ⟨(by simp [Value.ownBlock]), hk.1.2⟩⟩⟩)⟩, ⟨bk_ g.out⟩, ⟨bel_⟩⟩
 clear H'
 try clear c1
 try clear p2
 obtain ⟨B, d, rfl, HA, ae, HO_8, HO_10, HO_532003, HO_532004, HO_532005, HO_532007, g, HB⟩ := hrel
 cases gk with
 | zero => exact absurd HA.out (by simp [jigsawref10_Exact.l0])
 | succ k1 =>
  have H := HA.out
  clear HA
  simp only [jigsawref10_Exact.l0] at H
  by_cases c8 : d < (q.length : Int)
  rotate_left
  ·
   rw [ig_ c8] at H
   have c8b0 : decide (d < (q.length : Int)) = false := df_ c8
   clear c8
   by_cases c34 : (m.length : Int) = 0
   rotate_left
   ·
    rw [ig_ c34] at H
    have c34b0 : ((m.length : Int) == 0) = false := be_.mpr c34
    have c34b1 : ((m.length : Int) != 0) = true := ni_.mpr c34
    have c34b2 : ¬ (m = []) := fun h_ => c34 (by rw [h_]; rfl)
    simp only [Option.some.injEq, Prod.mk.injEq] at H
    obtain ⟨rfl, rfl⟩ := H
    obtain ⟨b9, ca, bK⟩ := Kd.N_slice HO_8.out
    subst bK
    go_wp2
    repeat (go_quiet (fail); try go_wp2)
    go_ret2
    exact ⟨_, er_, by refine vN_ ?_; exact nm_ HO_10.out (fun _ hk => hk.1), bel_⟩
   rw [ip_ c34] at H
   have c34b0 : ((m.length : Int) == 0) = true := beq_iff_eq.mpr c34
   have c34b1 : ((m.length : Int) != 0) = false := bn_.mpr c34
   clear c34
   simp only [Option.some.injEq, Prod.mk.injEq] at H
   obtain ⟨rfl, rfl⟩ := H
   obtain ⟨b7, b8, bJ⟩ := Kd.N_slice HO_8.out
   subst bJ
   go_wp2
   repeat (go_quiet (fail); try go_wp2)
   go_ret2
   exact ⟨_, er_, by first | exact Kd.S_nil _ _ _ _ _ | exact Kd.N_nil _ _ _ _ _ | exact Kd.V_nil _ _ _ _ _ | exact Kd.Q_nil _ _ _ _ _ | exact Kd.R_nil _ _ _ _ _, bel_⟩
  rw [ip_ c8] at H
  have c8b0 : decide (d < (q.length : Int)) = true := dt_ c8
  clear c8
  have H' := a_ H
  clear H
  go_wp2
  repeat (go_quiet (fail); try go_wp2)
  go_loopg [12, 13] k1 (fun kq ar bR w' => ∃ (o : List Int) (l : Int), bR = .int .i64 l ∧ Aside0 (jigsawref10_Exact.l1 kq q m B d o l = some (r1, r2)) ∧ Aside0 (kq ≤ k1) ∧ Aside0 (Kd.N (Kd.slice 3 (Kd.int .i64)) 30 w' w.heap.size (fun a => ((P0_3_ a ∨ P0_4_ a ∨ P0_5_ a ∨ P0_7_ a) ∨ w.heap.size ≤ a) ∧ some a ≠ u10.ownBlock ∧ some a ≠ ar.ownBlock ∧ a ≠ c) n m) ∧ Aside0 (Kd.N (Kd.slice 3 (Kd.int .i64)) 30 w' w.heap.size (fun a => ((P0_3_ a ∨ P0_4_ a ∨ P0_5_ a ∨ P0_7_ a) ∨ w.heap.size ≤ a) ∧ some a ≠ n.ownBlock ∧ some a ≠ ar.ownBlock ∧ a ≠ c) u10 B) ∧ Aside0 (Kd.R (Kd.int .i64) 3 w' w.heap.size (fun a => (w.heap.size ≤ a)) ar o) ∧ Aside0 (Kd.V (Kd.int .i64) 3 w' w.heap.size (fun a => ((P0_3_ a ∨ P0_4_ a ∨ P0_5_ a ∨ P0_7_ a) ∨ w.heap.size ≤ a) ∧ some a ≠ n.ownBlock ∧ some a ≠ u10.ownBlock ∧ some a ≠ ar.ownBlock ∧ a ≠ c) (.slice P r.length c0_3) r) ∧ Aside0 (Kd.V (Kd.int .i64) 3 w' w.heap.size (fun a => ((P0_3_ a ∨ P0_4_ a ∨ P0_5_ a ∨ P0_7_ a) ∨ w.heap.size ≤ a) ∧ some a ≠ n.ownBlock ∧ some a ≠ u10.ownBlock ∧ some a ≠ ar.ownBlock ∧ a ≠ c) (.slice Q s.length c0_4) s) ∧ Aside0 (Kd.V (Kd.int .i64) 3 w' w.heap.size (fun a => ((P0_3_ a ∨ P0_4_ a ∨ P0_5_ a ∨ P0_7_ a) ∨ w.heap.size ≤ a) ∧ some a ≠ n.ownBlock ∧ some a ≠ u10.ownBlock ∧ some a ≠ ar.ownBlock ∧ a ≠ c) (.slice U u.length c0_5) u) ∧ Aside0 (Kd.V (Kd.slice 3 (Kd.int .i64)) 30 w' w.heap.size (fun a => ((P0_3_ a ∨ P0_4_ a ∨ P0_5_ a ∨ P0_7_ a) ∨ w.heap.size ≤ a) ∧ some a ≠ n.ownBlock ∧ some a ≠ u10.ownBlock ∧ some a ≠ ar.ownBlock ∧ a ≠ c) (.slice W v.length c0_7) v) ∧ Aside0 (w'.heap[c]? = some (.cells #[.int .i64 X, (.slice aa M.length c0_1), (.slice ab O.length c0_2), (.slice P r.length c0_3), (.slice Q s.length c0_4), (.slice U u.length c0_5), .int .i64 Y, (.slice W v.length c0_7)] 32 (0, 0))) ∧ Aside0 (Below w.heap.size w w'))
  case atStart => exact ⟨(([] : List Int)), (0), eq_, H', ⟨lr_ _⟩, ⟨by refine vN_ ?_; exact nm_ HO_8.out (fun _ hk => ⟨hk.1, ⟨hk.2.1, ⟨(by simp [Value.ownBlock]), hk.2.2⟩⟩⟩)⟩, ⟨by refine vN_ ?_; exact nm_ HO_10.out (fun _ hk => ⟨hk.1, ⟨hk.2.1, ⟨(by simp [Value.ownBlock]), hk.2.2⟩⟩⟩)⟩, ⟨nil_⟩, ⟨by refine vV_ ?_; exact vm_ HO_532003.out (fun _ hk => ⟨hk.1, ⟨hk.2.1, ⟨hk.2.2.1, ⟨(by simp [Value.ownBlock]), hk.2.2.2⟩⟩⟩⟩)⟩, ⟨by refine vV_ ?_; exact vm_ HO_532004.out (fun _ hk => ⟨hk.1, ⟨hk.2.1, ⟨hk.2.2.1, ⟨(by simp [Value.ownBlock]), hk.2.2.2⟩⟩⟩⟩)⟩, ⟨by refine vV_ ?_; exact vm_ HO_532005.out (fun _ hk => ⟨hk.1, ⟨hk.2.1, ⟨hk.2.2.1, ⟨(by simp [Value.ownBlock]), hk.2.2.2⟩⟩⟩⟩)⟩, ⟨by refine vV_ ?_; exact vm_ HO_532007.out (fun _ hk => ⟨hk.1, ⟨hk.2.1, ⟨hk.2.2.1, ⟨(by simp [Value.ownBlock]), hk.2.2.2⟩⟩⟩⟩)⟩, ⟨bk_ g.out⟩, ⟨bel_⟩⟩
  clear H'
  try clear c1
  try clear p2
  try clear c8
  try clear c8b0
  try clear p2
  obtain ⟨o, l, rfl, HA, af, HO_8, HO_10, HO_12, HO_532003, HO_532004, HO_532005, HO_532007, g, HB⟩ := hrel
  cases gk with
  | zero => exact absurd HA.out (by simp [jigsawref10_Exact.l1])
  | succ k2 =>
   have H := HA.out
   clear HA
   simp only [jigsawref10_Exact.l1] at H
   by_cases c9 : 0 ≤ d
   rotate_left
   ·
    rw [ig_ c9] at H
    exact ab_ H
   rw [ip_ c9] at H
   have c9b0 : decide (0 ≤ d) = true := dt_ c9
   clear c9
   by_cases c10 : d < (q.length : Int)
   rotate_left
   ·
    rw [ig_ c10] at H
    exact ab_ H
   rw [ip_ c10] at H
   have c10b0 : decide (d < (q.length : Int)) = true := dt_ c10
   clear c10
   by_cases c11 : l < ((rd_L3 q d).length : Int)
   rotate_left
   ·
    rw [ig_ c11] at H
    have c11b0 : decide (l < ((rd_L3 q d).length : Int)) = false := df_ c11
    clear c11
    by_cases c31 : B.length < 5864062014805
    rotate_left
    ·
     rw [ig_ c31] at H
     exact ab_ H
    rw [ip_ c31] at H
    have LMc31 := a_ c31
    clear c31
    obtain ⟨bj, aj⟩ : ∃ y_ : List (List Int), y_ = (B ++ [o]) := ⟨_, rfl⟩
    replace H : (jigsawref10_Exact.l0 k2 q m bj (wrap64 (d + 1))) = some (r1, r2) := h2_ H aj
    have aV := a_ aj
    clear aj
    have H' := a_ H
    clear H
    have p536 : 0 ≤ (d : Int) := dq_
    have ac : d < (q.length : Int) := dq_
    obtain ⟨aQ, bg, c536_0, aY, K, Z, ak⟩ := at_L3 aq.out d p536 ac
    cases aY
    replace K := hx_ HB K
    have ba := a_ Z
    clear ak Z
    replace p536 := et_ p536
    replace ac := et_ ac
    obtain ⟨E, F, bI⟩ := Kd.R_slice HO_12.out
    subst bI
    go_wp2_with (first | ((with_reducible refine gate_builtin (b := .append) (xs := #[.tmp 73, .tmp 75]) rfl ?_); at_builtin; refine Kd.N_append (Kd.slice 3 (Kd.int .i64)) (w0 := w) w.heap.size rfl (.tmp 73) (.tmp 75) 27 30 (.slice none 0 0) 24 rfl Tryz.underlying27 info30 rfl (by decide) (by omega) u10 B o [.slice E o.length F] (fun a => ((P0_3_ a ∨ P0_4_ a ∨ P0_5_ a ∨ P0_7_ a) ∨ w.heap.size ≤ a) ∧ some a ≠ n.ownBlock ∧ a ≠ c) (fun a => ((fun a => ((P0_3_ a ∨ P0_4_ a ∨ P0_5_ a ∨ P0_7_ a) ∨ w.heap.size ≤ a) ∧ some a ≠ n.ownBlock ∧ a ≠ c)) a ∧ some a ≠ u10.ownBlock) rfl rfl ?aP (fun _ hk => hk) ?aF ?aO ?aB ?aS ?aL ?_; (case aP => exact (Kd.FK_slice_mk (rr_ (rm_ (ok' := (fun a => ((fun a => ((P0_3_ a ∨ P0_4_ a ∨ P0_5_ a ∨ P0_7_ a) ∨ w.heap.size ≤ a) ∧ some a ≠ n.ownBlock ∧ a ≠ c)) a ∧ some a ≠ u10.ownBlock)) (rt_ (Kd.R_apart' (Kd.R_apart' (HO_12.out) (Kd.N_typed HO_8.out) (by decide)) (Kd.N_typed HO_10.out) (by decide)) g.out (by decide)) (fun a hk => ⟨⟨(.inr (hk.1.1.1)), ⟨hk.1.1.2, hk.2⟩⟩, hk.1.2⟩))).2.1 (Kd.R_F (rm_ (ok' := (fun a => ((fun a => ((P0_3_ a ∨ P0_4_ a ∨ P0_5_ a ∨ P0_7_ a) ∨ w.heap.size ≤ a) ∧ some a ≠ n.ownBlock ∧ a ≠ c)) a ∧ some a ≠ u10.ownBlock)) (rt_ (Kd.R_apart' (Kd.R_apart' (HO_12.out) (Kd.N_typed HO_8.out) (by decide)) (Kd.N_typed HO_10.out) (by decide)) g.out (by decide)) (fun a hk => ⟨⟨(.inr (hk.1.1.1)), ⟨hk.1.1.2, hk.2⟩⟩, hk.1.2⟩))))); (case aB => exact bel_); (case aF => exact (fun a hk => ⟨(.inr (Nat.le_trans (bz_ bel_) hk)), fr_ (Kd.N_lt (vN_ HO_8.out)) a hk, Kd.freshB (bk_ g.out) a hk⟩)); (case aO => exact (by refine vN_ ?_; exact nm_ HO_10.out (fun _ hk => ⟨hk.1, ⟨hk.2.1, hk.2.2.2⟩⟩))); (case aS => exact (bz_ bel_)); (case aL => have := LMc31.out; omega); intro bk w32 ho hb hg hat; rw [← aV.out] at ho; replace HO_8 := a_ (Kd.N_afterv (ok := (fun a => ((P0_3_ a ∨ P0_4_ a ∨ P0_5_ a ∨ P0_7_ a) ∨ w.heap.size ≤ a) ∧ some a ≠ (.slice E o.length F : Value).ownBlock ∧ a ≠ c)) (by refine vN_ ?_; exact nm_ HO_8.out (fun _ hk => ⟨⟨hk.1, ⟨hk.2.2.1, hk.2.2.2⟩⟩, hk.2.1⟩)) hg hat); replace HO_532003 := a_ (Kd.V_afterv (ok := (fun a => ((P0_3_ a ∨ P0_4_ a ∨ P0_5_ a ∨ P0_7_ a) ∨ w.heap.size ≤ a) ∧ some a ≠ n.ownBlock ∧ some a ≠ (.slice E o.length F : Value).ownBlock ∧ a ≠ c)) (by refine vV_ ?_; exact vm_ HO_532003.out (fun _ hk => ⟨⟨hk.1, ⟨hk.2.1, ⟨hk.2.2.2.1, hk.2.2.2.2⟩⟩⟩, hk.2.2.1⟩)) hg hat); replace HO_532004 := a_ (Kd.V_afterv (ok := (fun a => ((P0_3_ a ∨ P0_4_ a ∨ P0_5_ a ∨ P0_7_ a) ∨ w.heap.size ≤ a) ∧ some a ≠ n.ownBlock ∧ some a ≠ (.slice E o.length F : Value).ownBlock ∧ a ≠ c)) (by refine vV_ ?_; exact vm_ HO_532004.out (fun _ hk => ⟨⟨hk.1, ⟨hk.2.1, ⟨hk.2.2.2.1, hk.2.2.2.2⟩⟩⟩, hk.2.2.1⟩)) hg hat); replace HO_532005 := a_ (Kd.V_afterv (ok := (fun a => ((P0_3_ a ∨ P0_4_ a ∨ P0_5_ a ∨ P0_7_ a) ∨ w.heap.size ≤ a) ∧ some a ≠ n.ownBlock ∧ some a ≠ (.slice E o.length F : Value).ownBlock ∧ a ≠ c)) (by refine vV_ ?_; exact vm_ HO_532005.out (fun _ hk => ⟨⟨hk.1, ⟨hk.2.1, ⟨hk.2.2.2.1, hk.2.2.2.2⟩⟩⟩, hk.2.2.1⟩)) hg hat); replace HO_532007 := a_ (Kd.V_afterv (ok := (fun a => ((P0_3_ a ∨ P0_4_ a ∨ P0_5_ a ∨ P0_7_ a) ∨ w.heap.size ≤ a) ∧ some a ≠ n.ownBlock ∧ some a ≠ (.slice E o.length F : Value).ownBlock ∧ a ≠ c)) (by refine vV_ ?_; exact vm_ HO_532007.out (fun _ hk => ⟨⟨hk.1, ⟨hk.2.1, ⟨hk.2.2.2.1, hk.2.2.2.2⟩⟩⟩, hk.2.2.1⟩)) hg hat); replace g := a_ (blk_grown (bk_ g.out) hg (Kd.N_ne HO_10.out g.out (by decide))); replace HB := a_ (hb); have aW := a_ (ho); clear HO_10 HO_12; clear ho hb hg hat))
    repeat (go_quiet (first | ((with_reducible refine gate_builtin (b := .append) (xs := #[.tmp 73, .tmp 75]) rfl ?_); at_builtin; refine Kd.N_append (Kd.slice 3 (Kd.int .i64)) (w0 := w) w.heap.size rfl (.tmp 73) (.tmp 75) 27 30 (.slice none 0 0) 24 rfl Tryz.underlying27 info30 rfl (by decide) (by omega) u10 B o [.slice E o.length F] (fun a => ((P0_3_ a ∨ P0_4_ a ∨ P0_5_ a ∨ P0_7_ a) ∨ w.heap.size ≤ a) ∧ some a ≠ n.ownBlock ∧ a ≠ c) (fun a => ((fun a => ((P0_3_ a ∨ P0_4_ a ∨ P0_5_ a ∨ P0_7_ a) ∨ w.heap.size ≤ a) ∧ some a ≠ n.ownBlock ∧ a ≠ c)) a ∧ some a ≠ u10.ownBlock) rfl rfl ?aP (fun _ hk => hk) ?aF ?aO ?aB ?aS ?aL ?_; (case aP => exact (Kd.FK_slice_mk (rr_ (rm_ (ok' := (fun a => ((fun a => ((P0_3_ a ∨ P0_4_ a ∨ P0_5_ a ∨ P0_7_ a) ∨ w.heap.size ≤ a) ∧ some a ≠ n.ownBlock ∧ a ≠ c)) a ∧ some a ≠ u10.ownBlock)) (rt_ (Kd.R_apart' (Kd.R_apart' (HO_12.out) (Kd.N_typed HO_8.out) (by decide)) (Kd.N_typed HO_10.out) (by decide)) g.out (by decide)) (fun a hk => ⟨⟨(.inr (hk.1.1.1)), ⟨hk.1.1.2, hk.2⟩⟩, hk.1.2⟩))).2.1 (Kd.R_F (rm_ (ok' := (fun a => ((fun a => ((P0_3_ a ∨ P0_4_ a ∨ P0_5_ a ∨ P0_7_ a) ∨ w.heap.size ≤ a) ∧ some a ≠ n.ownBlock ∧ a ≠ c)) a ∧ some a ≠ u10.ownBlock)) (rt_ (Kd.R_apart' (Kd.R_apart' (HO_12.out) (Kd.N_typed HO_8.out) (by decide)) (Kd.N_typed HO_10.out) (by decide)) g.out (by decide)) (fun a hk => ⟨⟨(.inr (hk.1.1.1)), ⟨hk.1.1.2, hk.2⟩⟩, hk.1.2⟩))))); (case aB => exact bel_); (case aF => exact (fun a hk => ⟨(.inr (Nat.le_trans (bz_ bel_) hk)), fr_ (Kd.N_lt (vN_ HO_8.out)) a hk, Kd.freshB (bk_ g.out) a hk⟩)); (case aO => exact (by refine vN_ ?_; exact nm_ HO_10.out (fun _ hk => ⟨hk.1, ⟨hk.2.1, hk.2.2.2⟩⟩))); (case aS => exact (bz_ bel_)); (case aL => have := LMc31.out; omega); intro bk w32 ho hb hg hat; rw [← aV.out] at ho; replace HO_8 := a_ (Kd.N_afterv (ok := (fun a => ((P0_3_ a ∨ P0_4_ a ∨ P0_5_ a ∨ P0_7_ a) ∨ w.heap.size ≤ a) ∧ some a ≠ (.slice E o.length F : Value).ownBlock ∧ a ≠ c)) (by refine vN_ ?_; exact nm_ HO_8.out (fun _ hk => ⟨⟨hk.1, ⟨hk.2.2.1, hk.2.2.2⟩⟩, hk.2.1⟩)) hg hat); replace HO_532003 := a_ (Kd.V_afterv (ok := (fun a => ((P0_3_ a ∨ P0_4_ a ∨ P0_5_ a ∨ P0_7_ a) ∨ w.heap.size ≤ a) ∧ some a ≠ n.ownBlock ∧ some a ≠ (.slice E o.length F : Value).ownBlock ∧ a ≠ c)) (by refine vV_ ?_; exact vm_ HO_532003.out (fun _ hk => ⟨⟨hk.1, ⟨hk.2.1, ⟨hk.2.2.2.1, hk.2.2.2.2⟩⟩⟩, hk.2.2.1⟩)) hg hat); replace HO_532004 := a_ (Kd.V_afterv (ok := (fun a => ((P0_3_ a ∨ P0_4_ a ∨ P0_5_ a ∨ P0_7_ a) ∨ w.heap.size ≤ a) ∧ some a ≠ n.ownBlock ∧ some a ≠ (.slice E o.length F : Value).ownBlock ∧ a ≠ c)) (by refine vV_ ?_; exact vm_ HO_532004.out (fun _ hk => ⟨⟨hk.1, ⟨hk.2.1, ⟨hk.2.2.2.1, hk.2.2.2.2⟩⟩⟩, hk.2.2.1⟩)) hg hat); replace HO_532005 := a_ (Kd.V_afterv (ok := (fun a => ((P0_3_ a ∨ P0_4_ a ∨ P0_5_ a ∨ P0_7_ a) ∨ w.heap.size ≤ a) ∧ some a ≠ n.ownBlock ∧ some a ≠ (.slice E o.length F : Value).ownBlock ∧ a ≠ c)) (by refine vV_ ?_; exact vm_ HO_532005.out (fun _ hk => ⟨⟨hk.1, ⟨hk.2.1, ⟨hk.2.2.2.1, hk.2.2.2.2⟩⟩⟩, hk.2.2.1⟩)) hg hat); replace HO_532007 := a_ (Kd.V_afterv (ok := (fun a => ((P0_3_ a ∨ P0_4_ a ∨ P0_5_ a ∨ P0_7_ a) ∨ w.heap.size ≤ a) ∧ some a ≠ n.ownBlock ∧ some a ≠ (.slice E o.length F : Value).ownBlock ∧ a ≠ c)) (by refine vV_ ?_; exact vm_ HO_532007.out (fun _ hk => ⟨⟨hk.1, ⟨hk.2.1, ⟨hk.2.2.2.1, hk.2.2.2.2⟩⟩⟩, hk.2.2.1⟩)) hg hat); replace g := a_ (blk_grown (bk_ g.out) hg (Kd.N_ne HO_10.out g.out (by decide))); replace HB := a_ (hb); have aW := a_ (ho); clear HO_10 HO_12; clear ho hb hg hat)); try go_wp2_with (first | ((with_reducible refine gate_builtin (b := .append) (xs := #[.tmp 73, .tmp 75]) rfl ?_); at_builtin; refine Kd.N_append (Kd.slice 3 (Kd.int .i64)) (w0 := w) w.heap.size rfl (.tmp 73) (.tmp 75) 27 30 (.slice none 0 0) 24 rfl Tryz.underlying27 info30 rfl (by decide) (by omega) u10 B o [.slice E o.length F] (fun a => ((P0_3_ a ∨ P0_4_ a ∨ P0_5_ a ∨ P0_7_ a) ∨ w.heap.size ≤ a) ∧ some a ≠ n.ownBlock ∧ a ≠ c) (fun a => ((fun a => ((P0_3_ a ∨ P0_4_ a ∨ P0_5_ a ∨ P0_7_ a) ∨ w.heap.size ≤ a) ∧ some a ≠ n.ownBlock ∧ a ≠ c)) a ∧ some a ≠ u10.ownBlock) rfl rfl ?aP (fun _ hk => hk) ?aF ?aO ?aB ?aS ?aL ?_; (case aP => exact (Kd.FK_slice_mk (rr_ (rm_ (ok' := (fun a => ((fun a => ((P0_3_ a ∨ P0_4_ a ∨ P0_5_ a ∨ P0_7_ a) ∨ w.heap.size ≤ a) ∧ some a ≠ n.ownBlock ∧ a ≠ c)) a ∧ some a ≠ u10.ownBlock)) (rt_ (Kd.R_apart' (Kd.R_apart' (HO_12.out) (Kd.N_typed HO_8.out) (by decide)) (Kd.N_typed HO_10.out) (by decide)) g.out (by decide)) (fun a hk => ⟨⟨(.inr (hk.1.1.1)), ⟨hk.1.1.2, hk.2⟩⟩, hk.1.2⟩))).2.1 (Kd.R_F (rm_ (ok' := (fun a => ((fun a => ((P0_3_ a ∨ P0_4_ a ∨ P0_5_ a ∨ P0_7_ a) ∨ w.heap.size ≤ a) ∧ some a ≠ n.ownBlock ∧ a ≠ c)) a ∧ some a ≠ u10.ownBlock)) (rt_ (Kd.R_apart' (Kd.R_apart' (HO_12.out) (Kd.N_typed HO_8.out) (by decide)) (Kd.N_typed HO_10.out) (by decide)) g.out (by decide)) (fun a hk => ⟨⟨(.inr (hk.1.1.1)), ⟨hk.1.1.2, hk.2⟩⟩, hk.1.2⟩))))); (case aB => exact bel_); (case aF => exact (fun a hk => ⟨(.inr (Nat.le_trans (bz_ bel_) hk)), fr_ (Kd.N_lt (vN_ HO_8.out)) a hk, Kd.freshB (bk_ g.out) a hk⟩)); (case aO => exact (by refine vN_ ?_; exact nm_ HO_10.out (fun _ hk => ⟨hk.1, ⟨hk.2.1, hk.2.2.2⟩⟩))); (case aS => exact (bz_ bel_)); (case aL => have := LMc31.out; omega); intro bk w32 ho hb hg hat; rw [← aV.out] at ho; replace HO_8 := a_ (Kd.N_afterv (ok := (fun a => ((P0_3_ a ∨ P0_4_ a ∨ P0_5_ a ∨ P0_7_ a) ∨ w.heap.size ≤ a) ∧ some a ≠ (.slice E o.length F : Value).ownBlock ∧ a ≠ c)) (by refine vN_ ?_; exact nm_ HO_8.out (fun _ hk => ⟨⟨hk.1, ⟨hk.2.2.1, hk.2.2.2⟩⟩, hk.2.1⟩)) hg hat); replace HO_532003 := a_ (Kd.V_afterv (ok := (fun a => ((P0_3_ a ∨ P0_4_ a ∨ P0_5_ a ∨ P0_7_ a) ∨ w.heap.size ≤ a) ∧ some a ≠ n.ownBlock ∧ some a ≠ (.slice E o.length F : Value).ownBlock ∧ a ≠ c)) (by refine vV_ ?_; exact vm_ HO_532003.out (fun _ hk => ⟨⟨hk.1, ⟨hk.2.1, ⟨hk.2.2.2.1, hk.2.2.2.2⟩⟩⟩, hk.2.2.1⟩)) hg hat); replace HO_532004 := a_ (Kd.V_afterv (ok := (fun a => ((P0_3_ a ∨ P0_4_ a ∨ P0_5_ a ∨ P0_7_ a) ∨ w.heap.size ≤ a) ∧ some a ≠ n.ownBlock ∧ some a ≠ (.slice E o.length F : Value).ownBlock ∧ a ≠ c)) (by refine vV_ ?_; exact vm_ HO_532004.out (fun _ hk => ⟨⟨hk.1, ⟨hk.2.1, ⟨hk.2.2.2.1, hk.2.2.2.2⟩⟩⟩, hk.2.2.1⟩)) hg hat); replace HO_532005 := a_ (Kd.V_afterv (ok := (fun a => ((P0_3_ a ∨ P0_4_ a ∨ P0_5_ a ∨ P0_7_ a) ∨ w.heap.size ≤ a) ∧ some a ≠ n.ownBlock ∧ some a ≠ (.slice E o.length F : Value).ownBlock ∧ a ≠ c)) (by refine vV_ ?_; exact vm_ HO_532005.out (fun _ hk => ⟨⟨hk.1, ⟨hk.2.1, ⟨hk.2.2.2.1, hk.2.2.2.2⟩⟩⟩, hk.2.2.1⟩)) hg hat); replace HO_532007 := a_ (Kd.V_afterv (ok := (fun a => ((P0_3_ a ∨ P0_4_ a ∨ P0_5_ a ∨ P0_7_ a) ∨ w.heap.size ≤ a) ∧ some a ≠ n.ownBlock ∧ some a ≠ (.slice E o.length F : Value).ownBlock ∧ a ≠ c)) (by refine vV_ ?_; exact vm_ HO_532007.out (fun _ hk => ⟨⟨hk.1, ⟨hk.2.1, ⟨hk.2.2.2.1, hk.2.2.2.2⟩⟩⟩, hk.2.2.1⟩)) hg hat); replace g := a_ (blk_grown (bk_ g.out) hg (Kd.N_ne HO_10.out g.out (by decide))); replace HB := a_ (hb); have aW := a_ (ho); clear HO_10 HO_12; clear ho hb hg hat)))
    go_roundg k2
    case measure => have := ae.out; have := af.out; omega
    exact ⟨(bj), (wrap64 (d + 1)), eq_, H', ⟨by have := ae.out; have := af.out; omega⟩, ⟨by refine vN_ ?_; exact nm_ HO_8.out (fun _ hk => ⟨hk.1.1, ⟨hk.2, hk.1.2.2⟩⟩)⟩, ⟨vN_ aW.out⟩, ⟨by refine vV_ ?_; exact vm_ HO_532003.out (fun _ hk => ⟨hk.1.1, ⟨hk.1.2.1, ⟨hk.2, hk.1.2.2.2⟩⟩⟩)⟩, ⟨by refine vV_ ?_; exact vm_ HO_532004.out (fun _ hk => ⟨hk.1.1, ⟨hk.1.2.1, ⟨hk.2, hk.1.2.2.2⟩⟩⟩)⟩, ⟨by refine vV_ ?_; exact vm_ HO_532005.out (fun _ hk => ⟨hk.1.1, ⟨hk.1.2.1, ⟨hk.2, hk.1.2.2.2⟩⟩⟩)⟩, ⟨by refine vV_ ?_; exact vm_ HO_532007.out (fun _ hk => ⟨hk.1.1, ⟨hk.1.2.1, ⟨hk.2, hk.1.2.2.2⟩⟩⟩)⟩, ⟨bk_ g.out⟩, ⟨bel_⟩⟩
   rw [ip_ c11] at H
   have c11b0 : decide (l < ((rd_L3 q d).length : Int)) = true := dt_ c11
   clear c11
   have H' := a_ H
   clear H
   have p536 : 0 ≤ (d : Int) := dq_
   have ac : d < (q.length : Int) := dq_
   obtain ⟨aQ, bg, c536_0, aY, K, Z, ak⟩ := at_L3 aq.out d p536 ac
   cases aY
   replace K := hx_ HB K
   have ba := a_ Z
   clear ak Z
   replace p536 := et_ p536
   replace ac := et_ ac
   go_wp2
   repeat (go_quiet (fail); try go_wp2)
   go_loopg [14, 15] k2 (fun kq bS bT w' => ∃ (ah : Bool) (p : Int), bS = .bool ah ∧ bT = .int .i64 p ∧ Aside0 (jigsawref10_Exact.l2 kq q m B d o l ah p = some (r1, r2)) ∧ Aside0 (kq ≤ k2) ∧ Aside0 (Kd.N (Kd.slice 3 (Kd.int .i64)) 30 w' w.heap.size (fun a => ((P0_3_ a ∨ P0_4_ a ∨ P0_5_ a ∨ P0_7_ a) ∨ w.heap.size ≤ a) ∧ some a ≠ u10.ownBlock ∧ some a ≠ u12.ownBlock ∧ a ≠ c) n m) ∧ Aside0 (Kd.N (Kd.slice 3 (Kd.int .i64)) 30 w' w.heap.size (fun a => ((P0_3_ a ∨ P0_4_ a ∨ P0_5_ a ∨ P0_7_ a) ∨ w.heap.size ≤ a) ∧ some a ≠ n.ownBlock ∧ some a ≠ u12.ownBlock ∧ a ≠ c) u10 B) ∧ Aside0 (Kd.R (Kd.int .i64) 3 w' w.heap.size (fun a => (w.heap.size ≤ a)) u12 o) ∧ Aside0 (Kd.V (Kd.int .i64) 3 w' w.heap.size (fun a => ((P0_3_ a ∨ P0_4_ a ∨ P0_5_ a ∨ P0_7_ a) ∨ w.heap.size ≤ a) ∧ some a ≠ n.ownBlock ∧ some a ≠ u10.ownBlock ∧ some a ≠ u12.ownBlock ∧ a ≠ c) (.slice P r.length c0_3) r) ∧ Aside0 (Kd.V (Kd.int .i64) 3 w' w.heap.size (fun a => ((P0_3_ a ∨ P0_4_ a ∨ P0_5_ a ∨ P0_7_ a) ∨ w.heap.size ≤ a) ∧ some a ≠ n.ownBlock ∧ some a ≠ u10.ownBlock ∧ some a ≠ u12.ownBlock ∧ a ≠ c) (.slice Q s.length c0_4) s) ∧ Aside0 (Kd.V (Kd.int .i64) 3 w' w.heap.size (fun a => ((P0_3_ a ∨ P0_4_ a ∨ P0_5_ a ∨ P0_7_ a) ∨ w.heap.size ≤ a) ∧ some a ≠ n.ownBlock ∧ some a ≠ u10.ownBlock ∧ some a ≠ u12.ownBlock ∧ a ≠ c) (.slice U u.length c0_5) u) ∧ Aside0 (Kd.V (Kd.slice 3 (Kd.int .i64)) 30 w' w.heap.size (fun a => ((P0_3_ a ∨ P0_4_ a ∨ P0_5_ a ∨ P0_7_ a) ∨ w.heap.size ≤ a) ∧ some a ≠ n.ownBlock ∧ some a ≠ u10.ownBlock ∧ some a ≠ u12.ownBlock ∧ a ≠ c) (.slice W v.length c0_7) v) ∧ Aside0 (w'.heap[c]? = some (.cells #[.int .i64 X, (.slice aa M.length c0_1), (.slice ab O.length c0_2), (.slice P r.length c0_3), (.slice Q s.length c0_4), (.slice U u.length c0_5), .int .i64 Y, (.slice W v.length c0_7)] 32 (0, 0))) ∧ Aside0 (Below w.heap.size w w'))
   case atStart => exact ⟨(false), (0), eq_, eq_, H', ⟨lr_ _⟩, ⟨vN_ HO_8.out⟩, ⟨vN_ HO_10.out⟩, ⟨vR_ HO_12.out⟩, ⟨vV_ HO_532003.out⟩, ⟨vV_ HO_532004.out⟩, ⟨vV_ HO_532005.out⟩, ⟨vV_ HO_532007.out⟩, ⟨bk_ g.out⟩, ⟨bel_⟩⟩
   clear H'
   try clear c1
   try clear p2
   try clear c5
   try clear p5
   try clear q5
   try clear cb
   try clear c8
   try clear c8b0
   try clear c9
   try clear c9b0
   try clear c10
   try clear c10b0
   try clear c11
   try clear c11b0
   try clear K
   try clear p2
   try clear p536
   try clear ac
   obtain ⟨ah, p, rfl, rfl, HA, ap, HO_8, HO_10, HO_12, HO_532003, HO_532004, HO_532005, HO_532007, g, HB⟩ := hrel
   cases gk with
   | zero => exact absurd HA.out (by simp [jigsawref10_Exact.l2])
   | succ k3 =>
    have H := HA.out
    clear HA
    simp only [jigsawref10_Exact.l2] at H
    by_cases c12 : p < (m.length : Int)
    ·
     rw [ip_ c12] at H
     have c12b0 : decide (p < (m.length : Int)) = true := dt_ c12
     clear c12
     by_cases c13 : ah = true
     ·
      subst c13
      rw [ip_ rfl] at H
      have H' := a_ H
      clear H
      obtain ⟨b1, b2, bx⟩ := Kd.N_slice HO_8.out
      subst bx
      go_wp2
      repeat (go_quiet (fail); try go_wp2)
      go_roundg k3
      case measure => have := ae.out; have := af.out; have := ap.out; omega
      exact ⟨(true), (wrap64 (p + 1)), eq_, eq_, H', ⟨by have := ae.out; have := af.out; have := ap.out; omega⟩, ⟨vN_ HO_8.out⟩, ⟨vN_ HO_10.out⟩, ⟨vR_ HO_12.out⟩, ⟨vV_ HO_532003.out⟩, ⟨vV_ HO_532004.out⟩, ⟨vV_ HO_532005.out⟩, ⟨vV_ HO_532007.out⟩, ⟨bk_ g.out⟩, ⟨bel_⟩⟩
     replace c13 := bf_.mpr c13
     subst c13
     have H1 : (if 0 ≤ p then (if 0 ≤ d then (if d < ((rd_L3 m p).length : Int) then (if d < (q.length : Int) then (if 0 ≤ l then (if l < ((rd_L3 q d).length : Int) then (jigsawref10_Exact.l2 k3 q m B d o l ((rd (rd_L3 m p) d) == (rd (rd_L3 q d) l)) (wrap64 (p + 1))) else (none)) else (none)) else (none)) else (none)) else (none)) else (none)) = some (r1, r2) := by rw [ig_ (show ¬ (false = true) by decide)] at H; exact H
     clear H
     have H := H1
     clear H1
     by_cases c15 : 0 ≤ p
     rotate_left
     ·
      rw [ig_ c15] at H
      exact ab_ H
     rw [ip_ c15] at H
     have c15b0 : decide (0 ≤ p) = true := dt_ c15
     clear c15
     by_cases c16 : 0 ≤ d
     rotate_left
     ·
      rw [ig_ c16] at H
      exact ab_ H
     rw [ip_ c16] at H
     have c16b0 : decide (0 ≤ d) = true := dt_ c16
     clear c16
     by_cases c17 : d < ((rd_L3 m p).length : Int)
     rotate_left
     ·
      rw [ig_ c17] at H
      exact ab_ H
     rw [ip_ c17] at H
     have c17b0 : decide (d < ((rd_L3 m p).length : Int)) = true := dt_ c17
     clear c17
     by_cases c18 : d < (q.length : Int)
     rotate_left
     ·
      rw [ig_ c18] at H
      exact ab_ H
     rw [ip_ c18] at H
     have c18b0 : decide (d < (q.length : Int)) = true := dt_ c18
     clear c18
     by_cases c19 : 0 ≤ l
     rotate_left
     ·
      rw [ig_ c19] at H
      exact ab_ H
     rw [ip_ c19] at H
     have c19b0 : decide (0 ≤ l) = true := dt_ c19
     clear c19
     by_cases c20 : l < ((rd_L3 q d).length : Int)
     rotate_left
     ·
      rw [ig_ c20] at H
      exact ab_ H
     rw [ip_ c20] at H
     have c20b0 : decide (l < ((rd_L3 q d).length : Int)) = true := dt_ c20
     clear c20
     have H' := a_ H
     clear H
     obtain ⟨b3, b4, bz⟩ := Kd.N_slice HO_8.out
     subst bz
     have p540 : 0 ≤ (p : Int) := dq_
     have aR : p < (m.length : Int) := dq_
     obtain ⟨bX, bU, c540_0, bA, bb, av, aw⟩ := at_L3 (Kd.N_reads' HO_8.out).2.2 p p540 aR
     cases bA
     obtain ⟨ce540, hce540, hMe540, hcc540⟩ := Kd.N_get HO_8.out [] p p540 (by first | exact aR | exact dq_ | (have e_ := (Kd.N_reads' HO_8.out).1; omega))
     obtain ⟨ua540_0, uc540_0, rfl, ax, ay⟩ := Kd.FK_slice_open hMe540
     have ad := hcc540 0 _ rfl
     rw [Nat.add_zero, show ((Kd.slice 3 (Kd.int .i64))).sz = 1 from rfl, Nat.mul_one] at ad
     replace ad := si_ (ad.symm.trans bb)
     injection ad with hva_ hvn_ hvc_
     rw [hva_] at ay
     rw [hvc_] at ax
     clear hva_ hvn_ hvc_ ay ax
     clear hcc540 hce540
     have az := a_ aw
     have bL := a_ av
     clear aw av
     replace p540 := et_ p540
     replace aR := et_ aR
     have p541 : 0 ≤ (d : Int) := dq_
     have aZ : d < ((rd_L3 m p).length : Int) := dq_
     obtain ⟨bY, bB, bM⟩ := ai_ (by repeat (first | (with_reducible exact az.out) | (with_reducible refine Kd.C_alloc ?_ _) | (with_reducible refine Kd.C_drewN ?_ _) | (with_reducible refine Kd.C_drew ?_) | exact az.out)) d p541 aZ
     cases bB
     replace p541 := et_ p541
     replace aZ := et_ aZ
     have p542 : 0 ≤ (d : Int) := dq_
     have a0 : d < (q.length : Int) := dq_
     obtain ⟨bp, bV, c542_0, bC, al, aA, aC⟩ := at_L3 aq.out d p542 a0
     obtain rfl : aQ = bp := (by injection bC)
     replace al := hx_ HB al
     have bc := a_ aC
     have bN := a_ aA
     clear aC aA
     replace p542 := et_ p542
     replace a0 := et_ a0
     have p543 : 0 ≤ (l : Int) := dq_
     have a1 : l < ((rd_L3 q d).length : Int) := dq_
     obtain ⟨bZ, bD, am⟩ := ai_ bc.out l p543 a1
     cases bD
     replace am := hx_ HB am
     replace p543 := et_ p543
     replace a1 := et_ a1
     go_wp2
     repeat (go_quiet (fail); try go_wp2)
     go_roundg k3
     case measure => have := ae.out; have := af.out; have := ap.out; omega
     exact ⟨(((rd (rd_L3 m p) d) == (rd (rd_L3 q d) l))), (wrap64 (p + 1)), eq_, eq_, H', ⟨by have := ae.out; have := af.out; have := ap.out; omega⟩, ⟨vN_ HO_8.out⟩, ⟨vN_ HO_10.out⟩, ⟨vR_ HO_12.out⟩, ⟨vV_ HO_532003.out⟩, ⟨vV_ HO_532004.out⟩, ⟨vV_ HO_532005.out⟩, ⟨vV_ HO_532007.out⟩, ⟨bk_ g.out⟩, ⟨bel_⟩⟩
    rw [ig_ c12] at H
    have c12b0 : decide (p < (m.length : Int)) = false := df_ c12
    clear c12
    by_cases c22 : ah = true
    rotate_left
    ·
     replace c22 := bf_.mpr c22
     subst c22
     have H1 : (jigsawref10_Exact.l1 k3 q m B d o (wrap64 (l + 1))) = some (r1, r2) := by rw [ig_ (show ¬ (false = true) by decide)] at H; exact H
     clear H
     have H := H1
     clear H1
     have H' := a_ H
     clear H
     obtain ⟨b5, b6, bH⟩ := Kd.N_slice HO_8.out
     subst bH
     go_wp2
     repeat (go_quiet (fail); try go_wp2)
     go_roundg k3
     case measure => have := ae.out; have := af.out; have := ap.out; omega
     exact ⟨(o), (wrap64 (l + 1)), eq_, H', ⟨by have := ae.out; have := af.out; have := ap.out; omega⟩, ⟨vN_ HO_8.out⟩, ⟨vN_ HO_10.out⟩, ⟨vR_ HO_12.out⟩, ⟨vV_ HO_532003.out⟩, ⟨vV_ HO_532004.out⟩, ⟨vV_ HO_532005.out⟩, ⟨vV_ HO_532007.out⟩, ⟨bk_ g.out⟩, ⟨bel_⟩⟩
    subst c22
    rw [ip_ rfl] at H
    by_cases c23 : 0 ≤ d
    rotate_left
    ·
     rw [ig_ c23] at H
     exact ab_ H
    rw [ip_ c23] at H
    have c23b0 : decide (0 ≤ d) = true := dt_ c23
    clear c23
    by_cases c24 : d < (q.length : Int)
    rotate_left
    ·
     rw [ig_ c24] at H
     exact ab_ H
    rw [ip_ c24] at H
    have c24b0 : decide (d < (q.length : Int)) = true := dt_ c24
    clear c24
    by_cases c25 : 0 ≤ l
    rotate_left
    ·
     rw [ig_ c25] at H
     exact ab_ H
    rw [ip_ c25] at H
    have c25b0 : decide (0 ≤ l) = true := dt_ c25
    clear c25
    by_cases c26 : l < ((rd_L3 q d).length : Int)
    rotate_left
    ·
     rw [ig_ c26] at H
     exact ab_ H
    rw [ip_ c26] at H
    have c26b0 : decide (l < ((rd_L3 q d).length : Int)) = true := dt_ c26
    clear c26
    by_cases c27 : o.length < 17592186044416
    rotate_left
    ·
     rw [ig_ c27] at H
     exact ab_ H
    rw [ip_ c27] at H
    have LMc27 := a_ c27
    clear c27
    obtain ⟨bh, ai⟩ : ∃ y_ : List Int, y_ = (o ++ [rd (rd_L3 q d) l]) := ⟨_, rfl⟩
    replace H : (jigsawref10_Exact.l1 k3 q m B d bh (wrap64 (l + 1))) = some (r1, r2) := h2_ H ai
    have aT := a_ ai
    clear ai
    have H' := a_ H
    clear H
    obtain ⟨G, I, bE⟩ := Kd.N_slice HO_8.out
    subst bE
    have p544 : 0 ≤ (d : Int) := dq_
    have a3 : d < (q.length : Int) := dq_
    obtain ⟨bq, bW, c544_0, bF, an, aD, aE⟩ := at_L3 aq.out d p544 a3
    obtain rfl : aQ = bq := (by injection bF)
    replace an := hx_ HB an
    have bd := a_ aE
    have bO := a_ aD
    clear aE aD
    replace p544 := et_ p544
    replace a3 := et_ a3
    have p545 : 0 ≤ (l : Int) := dq_
    have a4 : l < ((rd_L3 q d).length : Int) := dq_
    obtain ⟨b0, bG, ao⟩ := ai_ bd.out l p545 a4
    cases bG
    replace ao := hx_ HB ao
    replace p545 := et_ p545
    replace a4 := et_ a4
    go_wp2_with (first | ((with_reducible refine gate_builtin (b := .append) (xs := #[.tmp 63, .tmp 71]) rfl ?_); at_builtin; refine Kd.R_append (Kd.int .i64) (w0 := w) w.heap.size rfl (.tmp 63) (.tmp 71) 30 3 (.int .i64 0) 8 rfl Tryz.underlying30 info3 rfl (by decide) (by omega) u12 o (rd (rd_L3 q d) l) [.int .i64 (rd (rd_L3 q d) l)] (fun a => (w.heap.size ≤ a)) (fun _ => False) rfl rfl ?aP (fun _ hk => hk.elim) ?aF ?aO ?aB ?aS ?aL ?_; (case aP => exact rfl); (case aB => exact bel_); (case aF => exact (fun a hk => (Nat.le_trans (bz_ bel_) hk))); (case aO => exact (vR_ HO_12.out)); (case aS => exact (bz_ bel_)); (case aL => have := LMc27.out; omega); intro bi w29 ho hb hg hat; rw [← aT.out] at ho; replace HO_8 := a_ (Kd.N_afterv (ok := (fun a => ((P0_3_ a ∨ P0_4_ a ∨ P0_5_ a ∨ P0_7_ a) ∨ w.heap.size ≤ a) ∧ some a ≠ u10.ownBlock ∧ a ≠ c)) (by refine vN_ ?_; exact nm_ HO_8.out (fun _ hk => ⟨⟨hk.1, ⟨hk.2.1, hk.2.2.2⟩⟩, hk.2.2.1⟩)) hg hat); replace HO_10 := a_ (Kd.N_afterv (ok := (fun a => ((P0_3_ a ∨ P0_4_ a ∨ P0_5_ a ∨ P0_7_ a) ∨ w.heap.size ≤ a) ∧ some a ≠ (.slice G m.length I : Value).ownBlock ∧ a ≠ c)) (by refine vN_ ?_; exact nm_ HO_10.out (fun _ hk => ⟨⟨hk.1, ⟨hk.2.1, hk.2.2.2⟩⟩, hk.2.2.1⟩)) hg hat); replace HO_532003 := a_ (Kd.V_afterv (ok := (fun a => ((P0_3_ a ∨ P0_4_ a ∨ P0_5_ a ∨ P0_7_ a) ∨ w.heap.size ≤ a) ∧ some a ≠ (.slice G m.length I : Value).ownBlock ∧ some a ≠ u10.ownBlock ∧ a ≠ c)) (by refine vV_ ?_; exact vm_ HO_532003.out (fun _ hk => ⟨⟨hk.1, ⟨hk.2.1, ⟨hk.2.2.1, hk.2.2.2.2⟩⟩⟩, hk.2.2.2.1⟩)) hg hat); replace HO_532004 := a_ (Kd.V_afterv (ok := (fun a => ((P0_3_ a ∨ P0_4_ a ∨ P0_5_ a ∨ P0_7_ a) ∨ w.heap.size ≤ a) ∧ some a ≠ (.slice G m.length I : Value).ownBlock ∧ some a ≠ u10.ownBlock ∧ a ≠ c)) (by refine vV_ ?_; exact vm_ HO_532004.out (fun _ hk => ⟨⟨hk.1, ⟨hk.2.1, ⟨hk.2.2.1, hk.2.2.2.2⟩⟩⟩, hk.2.2.2.1⟩)) hg hat); replace HO_532005 := a_ (Kd.V_afterv (ok := (fun a => ((P0_3_ a ∨ P0_4_ a ∨ P0_5_ a ∨ P0_7_ a) ∨ w.heap.size ≤ a) ∧ some a ≠ (.slice G m.length I : Value).ownBlock ∧ some a ≠ u10.ownBlock ∧ a ≠ c)) (by refine vV_ ?_; exact vm_ HO_532005.out (fun _ hk => ⟨⟨hk.1, ⟨hk.2.1, ⟨hk.2.2.1, hk.2.2.2.2⟩⟩⟩, hk.2.2.2.1⟩)) hg hat); replace HO_532007 := a_ (Kd.V_afterv (ok := (fun a => ((P0_3_ a ∨ P0_4_ a ∨ P0_5_ a ∨ P0_7_ a) ∨ w.heap.size ≤ a) ∧ some a ≠ (.slice G m.length I : Value).ownBlock ∧ some a ≠ u10.ownBlock ∧ a ≠ c)) (by refine vV_ ?_; exact vm_ HO_532007.out (fun _ hk => ⟨⟨hk.1, ⟨hk.2.1, ⟨hk.2.2.1, hk.2.2.2.2⟩⟩⟩, hk.2.2.2.1⟩)) hg hat); replace g := a_ (blk_grown (bk_ g.out) hg (Kd.R_ne HO_12.out g.out (by decide))); replace HB := a_ (hb); have aU := a_ (ho); clear HO_12; clear ho hb hg hat))
    repeat (go_quiet (first | ((with_reducible refine gate_builtin (b := .append) (xs := #[.tmp 63, .tmp 71]) rfl ?_); at_builtin; refine Kd.R_append (Kd.int .i64) (w0 := w) w.heap.size rfl (.tmp 63) (.tmp 71) 30 3 (.int .i64 0) 8 rfl Tryz.underlying30 info3 rfl (by decide) (by omega) u12 o (rd (rd_L3 q d) l) [.int .i64 (rd (rd_L3 q d) l)] (fun a => (w.heap.size ≤ a)) (fun _ => False) rfl rfl ?aP (fun _ hk => hk.elim) ?aF ?aO ?aB ?aS ?aL ?_; (case aP => exact rfl); (case aB => exact bel_); (case aF => exact (fun a hk => (Nat.le_trans (bz_ bel_) hk))); (case aO => exact (vR_ HO_12.out)); (case aS => exact (bz_ bel_)); (case aL => have := LMc27.out; omega); intro bi w29 ho hb hg hat; rw [← aT.out] at ho; replace HO_8 := a_ (Kd.N_afterv (ok := (fun a => ((P0_3_ a ∨ P0_4_ a ∨ P0_5_ a ∨ P0_7_ a) ∨ w.heap.size ≤ a) ∧ some a ≠ u10.ownBlock ∧ a ≠ c)) (by refine vN_ ?_; exact nm_ HO_8.out (fun _ hk => ⟨⟨hk.1, ⟨hk.2.1, hk.2.2.2⟩⟩, hk.2.2.1⟩)) hg hat); replace HO_10 := a_ (Kd.N_afterv (ok := (fun a => ((P0_3_ a ∨ P0_4_ a ∨ P0_5_ a ∨ P0_7_ a) ∨ w.heap.size ≤ a) ∧ some a ≠ (.slice G m.length I : Value).ownBlock ∧ a ≠ c)) (by refine vN_ ?_; exact nm_ HO_10.out (fun _ hk => ⟨⟨hk.1, ⟨hk.2.1, hk.2.2.2⟩⟩, hk.2.2.1⟩)) hg hat); replace HO_532003 := a_ (Kd.V_afterv (ok := (fun a => ((P0_3_ a ∨ P0_4_ a ∨ P0_5_ a ∨ P0_7_ a) ∨ w.heap.size ≤ a) ∧ some a ≠ (.slice G m.length I : Value).ownBlock ∧ some a ≠ u10.ownBlock ∧ a ≠ c)) (by refine vV_ ?_; exact vm_ HO_532003.out (fun _ hk => ⟨⟨hk.1, ⟨hk.2.1, ⟨hk.2.2.1, hk.2.2.2.2⟩⟩⟩, hk.2.2.2.1⟩)) hg hat); replace HO_532004 := a_ (Kd.V_afterv (ok := (fun a => ((P0_3_ a ∨ P0_4_ a ∨ P0_5_ a ∨ P0_7_ a) ∨ w.heap.size ≤ a) ∧ some a ≠ (.slice G m.length I : Value).ownBlock ∧ some a ≠ u10.ownBlock ∧ a ≠ c)) (by refine vV_ ?_; exact vm_ HO_532004.out (fun _ hk => ⟨⟨hk.1, ⟨hk.2.1, ⟨hk.2.2.1, hk.2.2.2.2⟩⟩⟩, hk.2.2.2.1⟩)) hg hat); replace HO_532005 := a_ (Kd.V_afterv (ok := (fun a => ((P0_3_ a ∨ P0_4_ a ∨ P0_5_ a ∨ P0_7_ a) ∨ w.heap.size ≤ a) ∧ some a ≠ (.slice G m.length I : Value).ownBlock ∧ some a ≠ u10.ownBlock ∧ a ≠ c)) (by refine vV_ ?_; exact vm_ HO_532005.out (fun _ hk => ⟨⟨hk.1, ⟨hk.2.1, ⟨hk.2.2.1, hk.2.2.2.2⟩⟩⟩, hk.2.2.2.1⟩)) hg hat); replace HO_532007 := a_ (Kd.V_afterv (ok := (fun a => ((P0_3_ a ∨ P0_4_ a ∨ P0_5_ a ∨ P0_7_ a) ∨ w.heap.size ≤ a) ∧ some a ≠ (.slice G m.length I : Value).ownBlock ∧ some a ≠ u10.ownBlock ∧ a ≠ c)) (by refine vV_ ?_; exact vm_ HO_532007.out (fun _ hk => ⟨⟨hk.1, ⟨hk.2.1, ⟨hk.2.2.1, hk.2.2.2.2⟩⟩⟩, hk.2.2.2.1⟩)) hg hat); replace g := a_ (blk_grown (bk_ g.out) hg (Kd.R_ne HO_12.out g.out (by decide))); replace HB := a_ (hb); have aU := a_ (ho); clear HO_12; clear ho hb hg hat)); try go_wp2_with (first | ((with_reducible refine gate_builtin (b := .append) (xs := #[.tmp 63, .tmp 71]) rfl ?_); at_builtin; refine Kd.R_append (Kd.int .i64) (w0 := w) w.heap.size rfl (.tmp 63) (.tmp 71) 30 3 (.int .i64 0) 8 rfl Tryz.underlying30 info3 rfl (by decide) (by omega) u12 o (rd (rd_L3 q d) l) [.int .i64 (rd (rd_L3 q d) l)] (fun a => (w.heap.size ≤ a)) (fun _ => False) rfl rfl ?aP (fun _ hk => hk.elim) ?aF ?aO ?aB ?aS ?aL ?_; (case aP => exact rfl); (case aB => exact bel_); (case aF => exact (fun a hk => (Nat.le_trans (bz_ bel_) hk))); (case aO => exact (vR_ HO_12.out)); (case aS => exact (bz_ bel_)); (case aL => have := LMc27.out; omega); intro bi w29 ho hb hg hat; rw [← aT.out] at ho; replace HO_8 := a_ (Kd.N_afterv (ok := (fun a => ((P0_3_ a ∨ P0_4_ a ∨ P0_5_ a ∨ P0_7_ a) ∨ w.heap.size ≤ a) ∧ some a ≠ u10.ownBlock ∧ a ≠ c)) (by refine vN_ ?_; exact nm_ HO_8.out (fun _ hk => ⟨⟨hk.1, ⟨hk.2.1, hk.2.2.2⟩⟩, hk.2.2.1⟩)) hg hat); replace HO_10 := a_ (Kd.N_afterv (ok := (fun a => ((P0_3_ a ∨ P0_4_ a ∨ P0_5_ a ∨ P0_7_ a) ∨ w.heap.size ≤ a) ∧ some a ≠ (.slice G m.length I : Value).ownBlock ∧ a ≠ c)) (by refine vN_ ?_; exact nm_ HO_10.out (fun _ hk => ⟨⟨hk.1, ⟨hk.2.1, hk.2.2.2⟩⟩, hk.2.2.1⟩)) hg hat); replace HO_532003 := a_ (Kd.V_afterv (ok := (fun a => ((P0_3_ a ∨ P0_4_ a ∨ P0_5_ a ∨ P0_7_ a) ∨ w.heap.size ≤ a) ∧ some a ≠ (.slice G m.length I : Value).ownBlock ∧ some a ≠ u10.ownBlock ∧ a ≠ c)) (by refine vV_ ?_; exact vm_ HO_532003.out (fun _ hk => ⟨⟨hk.1, ⟨hk.2.1, ⟨hk.2.2.1, hk.2.2.2.2⟩⟩⟩, hk.2.2.2.1⟩)) hg hat); replace HO_532004 := a_ (Kd.V_afterv (ok := (fun a => ((P0_3_ a ∨ P0_4_ a ∨ P0_5_ a ∨ P0_7_ a) ∨ w.heap.size ≤ a) ∧ some a ≠ (.slice G m.length I : Value).ownBlock ∧ some a ≠ u10.ownBlock ∧ a ≠ c)) (by refine vV_ ?_; exact vm_ HO_532004.out (fun _ hk => ⟨⟨hk.1, ⟨hk.2.1, ⟨hk.2.2.1, hk.2.2.2.2⟩⟩⟩, hk.2.2.2.1⟩)) hg hat); replace HO_532005 := a_ (Kd.V_afterv (ok := (fun a => ((P0_3_ a ∨ P0_4_ a ∨ P0_5_ a ∨ P0_7_ a) ∨ w.heap.size ≤ a) ∧ some a ≠ (.slice G m.length I : Value).ownBlock ∧ some a ≠ u10.ownBlock ∧ a ≠ c)) (by refine vV_ ?_; exact vm_ HO_532005.out (fun _ hk => ⟨⟨hk.1, ⟨hk.2.1, ⟨hk.2.2.1, hk.2.2.2.2⟩⟩⟩, hk.2.2.2.1⟩)) hg hat); replace HO_532007 := a_ (Kd.V_afterv (ok := (fun a => ((P0_3_ a ∨ P0_4_ a ∨ P0_5_ a ∨ P0_7_ a) ∨ w.heap.size ≤ a) ∧ some a ≠ (.slice G m.length I : Value).ownBlock ∧ some a ≠ u10.ownBlock ∧ a ≠ c)) (by refine vV_ ?_; exact vm_ HO_532007.out (fun _ hk => ⟨⟨hk.1, ⟨hk.2.1, ⟨hk.2.2.1, hk.2.2.2.2⟩⟩⟩, hk.2.2.2.1⟩)) hg hat); replace g := a_ (blk_grown (bk_ g.out) hg (Kd.R_ne HO_12.out g.out (by decide))); replace HB := a_ (hb); have aU := a_ (ho); clear HO_12; clear ho hb hg hat)))
    go_roundg k3
    case measure => have := ae.out; have := af.out; have := ap.out; omega
    exact ⟨(bh), (wrap64 (l + 1)), eq_, H', ⟨by have := ae.out; have := af.out; have := ap.out; omega⟩, ⟨by refine vN_ ?_; exact nm_ HO_8.out (fun _ hk => ⟨hk.1.1, ⟨hk.1.2.1, ⟨hk.2, hk.1.2.2⟩⟩⟩)⟩, ⟨by refine vN_ ?_; exact nm_ HO_10.out (fun _ hk => ⟨hk.1.1, ⟨hk.1.2.1, ⟨hk.2, hk.1.2.2⟩⟩⟩)⟩, ⟨vR_ aU.out⟩, ⟨by refine vV_ ?_; exact vm_ HO_532003.out (fun _ hk => ⟨hk.1.1, ⟨hk.1.2.1, ⟨hk.1.2.2.1, ⟨hk.2, hk.1.2.2.2⟩⟩⟩⟩)⟩, ⟨by refine vV_ ?_; exact vm_ HO_532004.out (fun _ hk => ⟨hk.1.1, ⟨hk.1.2.1, ⟨hk.1.2.2.1, ⟨hk.2, hk.1.2.2.2⟩⟩⟩⟩)⟩, ⟨by refine vV_ ?_; exact vm_ HO_532005.out (fun _ hk => ⟨hk.1.1, ⟨hk.1.2.1, ⟨hk.1.2.2.1, ⟨hk.2, hk.1.2.2.2⟩⟩⟩⟩)⟩, ⟨by refine vV_ ?_; exact vm_ HO_532007.out (fun _ hk => ⟨hk.1.1, ⟨hk.1.2.1, ⟨hk.1.2.2.1, ⟨hk.2, hk.1.2.2.2⟩⟩⟩⟩)⟩, ⟨bk_ g.out⟩, ⟨bel_⟩⟩

end Go.Proofs.YtckfbfdnlpnllaaGreatDoor.XAllDiffFilters
