-- by xprint.py, a program of this session, over the kit's print
import Derived.Test.YtckfbfdnlpnllaaGreatDoorXAFix0
import Derived.Test.YtckfbfdnlpnllaaGreatDoorXAFix6
import Derived.Test.YtckfbfdnlpnllaaGreatDoorXAFix7
import Derived.Test.YtckfbfdnlpnllaaGreatDoorXAFix8
import Derived.Test.YtckfbfdnlpnllaaGreatDoorSq
namespace Go.Proofs.YtckfbfdnlpnllaaGreatDoor.XAllDiffFilters
open Go.RowKit Go.Proofs.YtckfbfdnlpnllaaGreatDoor.Sq Go.Proofs.YtckfbfdnlpnllaaGreatDoorW.PrintWords Go.Proofs.YtckfbfdnlpnllaaGreatDoorW.PrintLast Go.Proofs.YtckfbfdnlpnllaaGreatDoorW.PrintMore
attribute [local go_sem] max2_int min2_int max_two min_two max_three min_three max_four min_four   -- for this text's walks alone
set_option linter.unusedVariables false
set_option linter.unusedSimpArgs false

/-! ### jigsawref10_Solutions: function 9 -/
mutual
def jigsawref10_Solutions.l0 : Nat → List (List Int) → Int → Int → Int → Int → List Int → List Int → List Int → List Int → List Int → Int → List (List Int) → Option ((List (List Int)) × Bool)
 | 0, _, _, _, _, _, _, _, _, _, _, _, _ => none
 | k + 1, o, q, s, p, b, c, d, e, g, l, m, n => if p < (o.length : Int) then (if 0 ≤ p then (if (wrap64 (s * ((rd_L3 o p).length : Int))) > q then (some (([] : List (List Int)), false)) else (jigsawref10_Solutions.l0 k o q (wrap64 (s * ((rd_L3 o p).length : Int))) (wrap64 (p + 1)) b c d e g l m n)) else (none)) else ((jigsawref10_Local.f k b c d e g l m n).bind fun a => ((jigsawref09_Product.f k o q).bind fun r => (jigsawref10_Solutions.l1 k r ([] : List (List Int)) 0 a.1 a.2.1 a.2.2.1 a.2.2.2.1 a.2.2.2.2.1 a.2.2.2.2.2.1 a.2.2.2.2.2.2.1 a.2.2.2.2.2.2.2)))
def jigsawref10_Solutions.l1 : Nat → List (List Int) → List (List Int) → Int → Int → List Int → List Int → List Int → List Int → List Int → Int → List (List Int) → Option ((List (List Int)) × Bool)
 | 0, _, _, _, _, _, _, _, _, _, _, _ => none
 | k + 1, o, p, n, a, b, c, d, e, g, l, m => if n < (o.length : Int) then (if 0 ≤ n then ((jigsawref09_Holds.f k a b c d e g l m (rd_L3 o n)).bind fun q => (if q = true then (if p.length < 5864062014805 then (jigsawref10_Solutions.l1 k o (p ++ [rd_L3 o n]) (wrap64 (n + 1)) a b c d e g l m) else (none)) else (jigsawref10_Solutions.l1 k o p (wrap64 (n + 1)) a b c d e g l m))) else (none)) else (some (p, true))
end
def jigsawref10_Solutions.f (k : Nat) (a : Int) (b : List Int) (c : List Int) (d : List Int) (e : List Int) (g : List Int) (l : Int) (m : List (List Int)) (n : List (List Int)) (o : Int) : Option ((List (List Int)) × Bool) := jigsawref10_Solutions.l0 k n o 1 0 a b c d e g l m
theorem jigsawref10_Solutions.mono_l : ∀ k, (∀ b c d e f g l m n o a p, LeO (jigsawref10_Solutions.l0 k b c d e f g l m n o a p) (jigsawref10_Solutions.l0 (k + 1) b c d e f g l m n o a p)) ∧ (∀ b c d e f g l m n o a, LeO (jigsawref10_Solutions.l1 k b c d e f g l m n o a) (jigsawref10_Solutions.l1 (k + 1) b c d e f g l m n o a))
 | 0 => by refine ⟨?_, ?_⟩ <;> (intros; exact LeO.none _)
 | k + 1 => by
  obtain ⟨ih0, ih1⟩ := jigsawref10_Solutions.mono_l k
  have m0 := @jigsawref09_Holds.mono
  have m1 := @jigsawref09_Product.mono
  have m2 := @jigsawref10_Local.mono
  refine ⟨?_, ?_⟩ <;> intros
  all_goals first | unfold jigsawref10_Solutions.l0 | unfold jigsawref10_Solutions.l1
  all_goals exact leo_
theorem jigsawref10_Solutions.mono : ∀ a b c d e g l m n o k, LeO (jigsawref10_Solutions.f k a b c d e g l m n o) (jigsawref10_Solutions.f (k + 1) a b c d e g l m n o) := by
 intro a b c d e g l m n o k
 obtain ⟨ih0, ih1⟩ := jigsawref10_Solutions.mono_l k
 unfold jigsawref10_Solutions.f
 have m0 := @jigsawref09_Holds.mono
 have m1 := @jigsawref09_Product.mono
 have m2 := @jigsawref10_Local.mono
 exact leo_
set_option maxHeartbeats 8000000 in
set_option maxRecDepth 100000 in
theorem jigsawref10_Solutions.calls (k : Nat) (aq : Int) (aE : Option Addr) (c0_1 : Nat) (ad : List Int) (aG : Option Addr) (c0_2 : Nat) (ae : List Int) (P0_3_ : Nat → Prop) (al : Option Addr) (c0_3 : Nat) (J : List Int) (P0_4_ : Nat → Prop) (am : Option Addr) (c0_4 : Nat) (O : List Int) (P0_5_ : Nat → Prop) (an : Option Addr) (c0_5 : Nat) (P : List Int) (ar : Int) (P0_7_ : Nat → Prop) (ao : Option Addr) (c0_7 : Nat) (Q : List (List Int)) (A1 : Option Addr) (c1 : Nat) (l1 : List (List Int)) (a2 : Int) (r1 : List (List Int)) (r2 : Bool) (w : World) (bj : Kd.C (Kd.int .i64) w aE ad.length ad) (bk : ad.length ≤ c0_1) (bl : Kd.C (Kd.int .i64) w aG ae.length ae) (bm : ae.length ≤ c0_2) (bx : Kd.V (Kd.int .i64) 3 w w.heap.size (fun a => P0_3_ a) (.slice al J.length c0_3) J) (bz : Kd.V (Kd.int .i64) 3 w w.heap.size (fun a => P0_4_ a) (.slice am O.length c0_4) O) (bA : Kd.V (Kd.int .i64) 3 w w.heap.size (fun a => P0_5_ a) (.slice an P.length c0_5) P) (bB : Kd.V (Kd.slice 3 (Kd.int .i64)) 30 w w.heap.size (fun a => P0_7_ a) (.slice ao Q.length c0_7) Q) (bN : Kd.C (Kd.slice 3 (Kd.int .i64)) w A1 l1.length l1) (bO : l1.length ≤ c1) (h : jigsawref10_Solutions.f k aq ad ae J O P ar Q l1 a2 = some (r1, r2)) :
  Calls Tryz.prog 9 #[.agg #[.int .i64 aq, .slice aE ad.length c0_1, .slice aG ae.length c0_2, .slice al J.length c0_3, .slice am O.length c0_4, .slice an P.length c0_5, .int .i64 ar, .slice ao Q.length c0_7], .slice A1 l1.length c1, .int .i64 a2] w fun e w' => ∃ bP : Value, e = .returned (.tuple #[bP, .bool r2]) ∧ Kd.N (Kd.slice 3 (Kd.int .i64)) 30 w' w.heap.size (fun a => ((P0_3_ a ∨ P0_4_ a ∨ P0_5_ a ∨ P0_7_ a) ∨ w.heap.size ≤ a)) bP r1 ∧ Below w.heap.size w w' := by
 have hu32 := Tryz.underlying32
 have bC := a_ bj
 have bD := a_ bk
 clear bj bk
 have bE := a_ bl
 have bF := a_ bm
 clear bl bm
 have a9 := a_ (show Kd.V (Kd.int .i64) 3 w w.heap.size (fun a => ((P0_3_ a ∨ P0_4_ a ∨ P0_5_ a ∨ P0_7_ a) ∨ w.heap.size ≤ a)) (.slice al J.length c0_3) J from vm_ bx (fun a hk => .inl (.inl hk)))
 have ba := a_ (show Kd.V (Kd.int .i64) 3 w w.heap.size (fun a => ((P0_3_ a ∨ P0_4_ a ∨ P0_5_ a ∨ P0_7_ a) ∨ w.heap.size ≤ a)) (.slice am O.length c0_4) O from vm_ bz (fun a hk => .inl (.inr (.inl hk))))
 have bb := a_ (show Kd.V (Kd.int .i64) 3 w w.heap.size (fun a => ((P0_3_ a ∨ P0_4_ a ∨ P0_5_ a ∨ P0_7_ a) ∨ w.heap.size ≤ a)) (.slice an P.length c0_5) P from vm_ bA (fun a hk => .inl (.inr (.inr (.inl hk)))))
 have bc := a_ (show Kd.V (Kd.slice 3 (Kd.int .i64)) 30 w w.heap.size (fun a => ((P0_3_ a ∨ P0_4_ a ∨ P0_5_ a ∨ P0_7_ a) ∨ w.heap.size ≤ a)) (.slice ao Q.length c0_7) Q from vm_ bB (fun a hk => .inl (.inr (.inr (.inr hk)))))
 have bs := a_ bN
 have b9 := a_ bO
 clear bN bO
 have HB := a_ (Below.refl w.heap.size w)
 unfold jigsawref10_Solutions.f at h
 have H := h
 clear h
 have H' := a_ H
 clear H
 go_enter Tryz.func9, Tryz.ntmps9
 go_wp2_with (first | ((with_reducible refine gate_dst (N := 3) rfl ?_); refine bxe_ (N := 3) (cs := #[.int .i64 aq, .slice aE ad.length c0_1, .slice aG ae.length c0_2, .slice al J.length c0_3, .slice am O.length c0_4, .slice an P.length c0_5, .int .i64 ar, .slice ao Q.length c0_7]) (t := 32) ?_; intro d hg w4 hbox hb; replace a9 := a_ (vb_ (Kd.V_elderB (vV_ a9.out) d (Nat.le_of_eq hg.symm)) hb); replace ba := a_ (vb_ (Kd.V_elderB (vV_ ba.out) d (Nat.le_of_eq hg.symm)) hb); replace bb := a_ (vb_ (Kd.V_elderB (vV_ bb.out) d (Nat.le_of_eq hg.symm)) hb); replace bc := a_ (vb_ (Kd.V_elderB (vV_ bc.out) d (Nat.le_of_eq hg.symm)) hb); have s := a_ (hbox); have bG := a_ (by rw [hg]; exact (bz_ bel_) : w.heap.size ≤ d); have cb := bG; replace HB := hq_ hb; clear hb hbox hg))
 go_loopg [8, 9] k (fun kq v8 v9 w' => ∃ (aW : Int) (G : Int), v8 = .int .i64 aW ∧ v9 = .int .i64 G ∧ Aside0 (jigsawref10_Solutions.l0 kq l1 a2 aW G aq ad ae J O P ar Q = some (r1, r2)) ∧ Aside0 (kq ≤ k) ∧ Aside0 (Kd.V (Kd.int .i64) 3 w' w.heap.size (fun a => ((P0_3_ a ∨ P0_4_ a ∨ P0_5_ a ∨ P0_7_ a) ∨ w.heap.size ≤ a) ∧ a ≠ d) (.slice al J.length c0_3) J) ∧ Aside0 (Kd.V (Kd.int .i64) 3 w' w.heap.size (fun a => ((P0_3_ a ∨ P0_4_ a ∨ P0_5_ a ∨ P0_7_ a) ∨ w.heap.size ≤ a) ∧ a ≠ d) (.slice am O.length c0_4) O) ∧ Aside0 (Kd.V (Kd.int .i64) 3 w' w.heap.size (fun a => ((P0_3_ a ∨ P0_4_ a ∨ P0_5_ a ∨ P0_7_ a) ∨ w.heap.size ≤ a) ∧ a ≠ d) (.slice an P.length c0_5) P) ∧ Aside0 (Kd.V (Kd.slice 3 (Kd.int .i64)) 30 w' w.heap.size (fun a => ((P0_3_ a ∨ P0_4_ a ∨ P0_5_ a ∨ P0_7_ a) ∨ w.heap.size ≤ a) ∧ a ≠ d) (.slice ao Q.length c0_7) Q) ∧ Aside0 (w'.heap[d]? = some (.cells #[.int .i64 aq, (.slice aE ad.length c0_1), (.slice aG ae.length c0_2), (.slice al J.length c0_3), (.slice am O.length c0_4), (.slice an P.length c0_5), .int .i64 ar, (.slice ao Q.length c0_7)] 32 (0, 0))) ∧ Aside0 (Below w.heap.size w w'))
 case atStart => exact ⟨(1), (0), eq_, eq_, H', ⟨lr_ _⟩, ⟨vV_ a9.out⟩, ⟨vV_ ba.out⟩, ⟨vV_ bb.out⟩, ⟨vV_ bc.out⟩, ⟨bk_ s.out⟩, ⟨bel_⟩⟩
 clear H'
 try clear c1
 try clear p2
 obtain ⟨aW, G, rfl, rfl, HA, a5, HO_246003, HO_246004, HO_246005, HO_246007, s, HB⟩ := hrel
 cases gk with
 | zero => exact absurd HA.out (by simp [jigsawref10_Solutions.l0])
 | succ k1 =>
  have H := HA.out
  clear HA
  simp only [jigsawref10_Solutions.l0] at H
  by_cases c5 : G < (l1.length : Int)
  ·
   rw [ip_ c5] at H
   have c5b0 : decide (G < (l1.length : Int)) = true := dt_ c5
   clear c5
   by_cases c6 : 0 ≤ G
   rotate_left
   ·
    rw [ig_ c6] at H
    exact ab_ H
   rw [ip_ c6] at H
   have c6b0 : decide (0 ≤ G) = true := dt_ c6
   clear c6
   by_cases c7 : (wrap64 (aW * ((rd_L3 l1 G).length : Int))) > a2
   ·
    rw [ip_ c7] at H
    have c7b0 : decide (a2 < (wrap64 (aW * ((rd_L3 l1 G).length : Int)))) = true := dt_ c7
    clear c7
    simp only [Option.some.injEq, Prod.mk.injEq] at H
    obtain ⟨rfl, rfl⟩ := H
    have p246 : 0 ≤ (G : Int) := dq_
    have aI : G < (l1.length : Int) := dq_
    obtain ⟨bH, bu, c246_0, bh, aa, av, aY⟩ := at_L3 bs.out G p246 aI
    cases bh
    replace aa := hx_ HB aa
    have bq := a_ av
    clear aY av
    replace p246 := et_ p246
    replace aI := et_ aI
    go_wp2
    go_ret2
    exact ⟨_, er_, by first | exact Kd.S_nil _ _ _ _ _ | exact Kd.N_nil _ _ _ _ _ | exact Kd.V_nil _ _ _ _ _ | exact Kd.Q_nil _ _ _ _ _ | exact Kd.R_nil _ _ _ _ _, bel_⟩
   rw [ig_ c7] at H
   have c7b0 : decide (a2 < (wrap64 (aW * ((rd_L3 l1 G).length : Int)))) = false := df_ c7
   clear c7
   have H' := a_ H
   clear H
   have p246 : 0 ≤ (G : Int) := dq_
   have aI : G < (l1.length : Int) := dq_
   obtain ⟨bH, bu, c246_0, bh, aa, av, aY⟩ := at_L3 bs.out G p246 aI
   cases bh
   replace aa := hx_ HB aa
   have bq := a_ av
   clear aY av
   replace p246 := et_ p246
   replace aI := et_ aI
   go_wp2
   go_roundg k1
   case measure => have := a5.out; omega
   exact ⟨(wrap64 (aW * ((rd_L3 l1 G).length : Int))), (wrap64 (G + 1)), eq_, eq_, H', ⟨by have := a5.out; omega⟩, ⟨vV_ HO_246003.out⟩, ⟨vV_ HO_246004.out⟩, ⟨vV_ HO_246005.out⟩, ⟨vV_ HO_246007.out⟩, ⟨bk_ s.out⟩, ⟨bel_⟩⟩
  rw [ig_ c5] at H
  have c5b0 : decide (G < (l1.length : Int)) = false := df_ c5
  clear c5
  replace H := bs_.mp H
  obtain ⟨⟨A, l, m, B, E, I, Y, Z⟩, bQ, H⟩ := H
  try dsimp only at H
  have A8 := a_ bQ
  clear bQ
  replace H := bo_ H
  obtain ⟨z, A9, H⟩ := H
  try dsimp only at H
  have H' := a_ H
  clear H
  obtain ⟨_, _, _, _, _, _, _, _, _, _, _, _, _, _, _, _⟩ := cel8_ s.out
  go_wp2_with (first | ((with_reducible refine gate_callee (f := 19) rfl ?_); refine goesL_ (some 32) rfl rfl Tryz.func19 kr_ rfl #[.agg #[.int .i64 aq, .slice aE ad.length c0_1, .slice aG ae.length c0_2, .slice al J.length c0_3, .slice am O.length c0_4, .slice an P.length c0_5, .int .i64 ar, .slice ao Q.length c0_7]] rfl ar_ ?_; (with_reducible refine (jigsawref10_Local.calls k1 aq _ _ ad _ _ ae (fun a => (((P0_3_ a ∨ P0_4_ a ∨ P0_5_ a ∨ P0_7_ a) ∨ w.heap.size ≤ a) ∧ a ≠ d)) _ _ J (fun a => (((P0_3_ a ∨ P0_4_ a ∨ P0_5_ a ∨ P0_7_ a) ∨ w.heap.size ≤ a) ∧ a ≠ d)) _ _ O (fun a => (((P0_3_ a ∨ P0_4_ a ∨ P0_5_ a ∨ P0_7_ a) ∨ w.heap.size ≤ a) ∧ a ≠ d)) _ _ P ar (fun a => (((P0_3_ a ∨ P0_4_ a ∨ P0_5_ a ∨ P0_7_ a) ∨ w.heap.size ≤ a) ∧ a ≠ d)) _ _ Q A l m B E I Y Z _ ?_ ?_ ?_ ?_ ?_ ?_ ?_ ?_ A8.out).mono ?_); exact ca_ ((cb_ bC.out HB.out)); exact bD.out; exact ca_ ((cb_ bE.out HB.out)); exact bF.out; exact HO_246003.out; exact HO_246004.out; exact HO_246005.out; exact HO_246007.out; rintro e w11 ⟨a3, a4, cj, ck, cl, cm, rfl, ah, a6, bR, bS, bT, bU, hb⟩; refine ⟨_, rfl, ?_⟩; replace HO_246003 := a_ (vm_ (Kd.V_told (Kd.V_told (Kd.V_old (vV_ HO_246003.out) hb) (rs_ ah)) (rs_ a6)) (fun _ h_ => h_.1)); replace HO_246004 := a_ (vm_ (Kd.V_told (Kd.V_told (Kd.V_old (vV_ HO_246004.out) hb) (rs_ ah)) (rs_ a6)) (fun _ h_ => h_.1)); replace HO_246005 := a_ (vm_ (Kd.V_told (Kd.V_told (Kd.V_old (vV_ HO_246005.out) hb) (rs_ ah)) (rs_ a6)) (fun _ h_ => h_.1)); replace HO_246007 := a_ (vm_ (Kd.V_told (Kd.V_told (Kd.V_old (vV_ HO_246007.out) hb) (rs_ ah)) (rs_ a6)) (fun _ h_ => h_.1)); have aA := a_ (Kd.R_lower (Kd.R_newM (M := fun a => (w.heap.size ≤ a)) (rm_ (ok' := fun a => some a ≠ a4.ownBlock) ah (fun _ hk_ => hk_.2)) (bz_ bel_) (fun a h_ => h_)) (bz_ bel_)); have aC := a_ (Kd.R_lower (Kd.R_newM (M := fun a => (w.heap.size ≤ a)) (rm_ (ok' := fun a => some a ≠ a3.ownBlock) a6 (fun _ hk_ => hk_.2)) (bz_ bel_) (fun a h_ => h_)) (bz_ bel_)); have aN := a_ (Kd.V_lower (vm_ (ok' := fun a => ((P0_3_ a ∨ P0_4_ a ∨ P0_5_ a ∨ P0_7_ a) ∨ w.heap.size ≤ a) ∧ some a ≠ a3.ownBlock ∧ some a ≠ a4.ownBlock ∧ a ≠ d) bR (fun a hk_ => ⟨Or.elim hk_.1 (fun hs_ => Or.elim hs_ (fun hs_ => hs_.1) (fun hs_ => Or.elim hs_ (fun hs_ => hs_.1) (fun hs_ => Or.elim hs_ (fun hs_ => hs_.1) (fun hs_ => hs_.1)))) (fun hn_ => (.inr (Nat.le_trans (bz_ bel_) hn_))), hk_.2.1, hk_.2.2, Or.elim hk_.1 (fun hs_ => Or.elim hs_ (fun hs_ => hs_.2) (fun hs_ => Or.elim hs_ (fun hs_ => hs_.2) (fun hs_ => Or.elim hs_ (fun hs_ => hs_.2) (fun hs_ => hs_.2)))) (fun hn_ => (Kd.freshB (bk_ s.out) a hn_))⟩)) (bz_ bel_)); have aQ := a_ (Kd.V_lower (vm_ (ok' := fun a => ((P0_3_ a ∨ P0_4_ a ∨ P0_5_ a ∨ P0_7_ a) ∨ w.heap.size ≤ a) ∧ some a ≠ a3.ownBlock ∧ some a ≠ a4.ownBlock ∧ a ≠ d) bS (fun a hk_ => ⟨Or.elim hk_.1 (fun hs_ => Or.elim hs_ (fun hs_ => hs_.1) (fun hs_ => Or.elim hs_ (fun hs_ => hs_.1) (fun hs_ => Or.elim hs_ (fun hs_ => hs_.1) (fun hs_ => hs_.1)))) (fun hn_ => (.inr (Nat.le_trans (bz_ bel_) hn_))), hk_.2.1, hk_.2.2, Or.elim hk_.1 (fun hs_ => Or.elim hs_ (fun hs_ => hs_.2) (fun hs_ => Or.elim hs_ (fun hs_ => hs_.2) (fun hs_ => Or.elim hs_ (fun hs_ => hs_.2) (fun hs_ => hs_.2)))) (fun hn_ => (Kd.freshB (bk_ s.out) a hn_))⟩)) (bz_ bel_)); have aR := a_ (Kd.V_lower (vm_ (ok' := fun a => ((P0_3_ a ∨ P0_4_ a ∨ P0_5_ a ∨ P0_7_ a) ∨ w.heap.size ≤ a) ∧ some a ≠ a3.ownBlock ∧ some a ≠ a4.ownBlock ∧ a ≠ d) bT (fun a hk_ => ⟨Or.elim hk_.1 (fun hs_ => Or.elim hs_ (fun hs_ => hs_.1) (fun hs_ => Or.elim hs_ (fun hs_ => hs_.1) (fun hs_ => Or.elim hs_ (fun hs_ => hs_.1) (fun hs_ => hs_.1)))) (fun hn_ => (.inr (Nat.le_trans (bz_ bel_) hn_))), hk_.2.1, hk_.2.2, Or.elim hk_.1 (fun hs_ => Or.elim hs_ (fun hs_ => hs_.2) (fun hs_ => Or.elim hs_ (fun hs_ => hs_.2) (fun hs_ => Or.elim hs_ (fun hs_ => hs_.2) (fun hs_ => hs_.2)))) (fun hn_ => (Kd.freshB (bk_ s.out) a hn_))⟩)) (bz_ bel_)); have aT := a_ (Kd.V_lower (vm_ (ok' := fun a => ((P0_3_ a ∨ P0_4_ a ∨ P0_5_ a ∨ P0_7_ a) ∨ w.heap.size ≤ a) ∧ some a ≠ a3.ownBlock ∧ some a ≠ a4.ownBlock ∧ a ≠ d) bU (fun a hk_ => ⟨Or.elim hk_.1 (fun hs_ => Or.elim hs_ (fun hs_ => hs_.1) (fun hs_ => Or.elim hs_ (fun hs_ => hs_.1) (fun hs_ => Or.elim hs_ (fun hs_ => hs_.1) (fun hs_ => hs_.1)))) (fun hn_ => (.inr (Nat.le_trans (bz_ bel_) hn_))), hk_.2.1, hk_.2.2, Or.elim hk_.1 (fun hs_ => Or.elim hs_ (fun hs_ => hs_.2) (fun hs_ => Or.elim hs_ (fun hs_ => hs_.2) (fun hs_ => Or.elim hs_ (fun hs_ => hs_.2) (fun hs_ => hs_.2)))) (fun hn_ => (Kd.freshB (bk_ s.out) a hn_))⟩)) (bz_ bel_)); replace s := a_ (bq_ s.out hb); replace HB := hq_ hb; clear hb ah a6 bR bS bT bU) | ((with_reducible refine gate_dst (N := 10) rfl ?_); refine bxe_ (N := 10) (cs := #[.int .i64 0, .slice none 0 0, .slice none 0 0, .slice none 0 0, .slice none 0 0, .slice none 0 0, .int .i64 0, .slice none 0 0]) (t := 32) ?_; intro c hg w12 hbox hb; replace HO_246003 := a_ (vb_ (Kd.V_elderB (vV_ HO_246003.out) c (Nat.le_of_eq hg.symm)) hb); replace HO_246004 := a_ (vb_ (Kd.V_elderB (vV_ HO_246004.out) c (Nat.le_of_eq hg.symm)) hb); replace HO_246005 := a_ (vb_ (Kd.V_elderB (vV_ HO_246005.out) c (Nat.le_of_eq hg.symm)) hb); replace HO_246007 := a_ (vb_ (Kd.V_elderB (vV_ HO_246007.out) c (Nat.le_of_eq hg.symm)) hb); replace aA := a_ (rb_ (vR_ aA.out) hb); replace aC := a_ (rb_ (vR_ aC.out) hb); replace aN := a_ (vb_ (Kd.V_elderB (vV_ aN.out) c (Nat.le_of_eq hg.symm)) hb); replace aQ := a_ (vb_ (Kd.V_elderB (vV_ aQ.out) c (Nat.le_of_eq hg.symm)) hb); replace aR := a_ (vb_ (Kd.V_elderB (vV_ aR.out) c (Nat.le_of_eq hg.symm)) hb); replace aT := a_ (vb_ (Kd.V_elderB (vV_ aT.out) c (Nat.le_of_eq hg.symm)) hb); have y := a_ (hbox); have bI := a_ (by rw [hg]; exact (bz_ bel_) : w.heap.size ≤ c); have cc := bI; replace HB := hq_ hb; have x := a_ ((by rw [hg]; exact Nat.ne_of_lt (blk_lt (bk_ s.out)) : d ≠ c)); have bg := a_ ((by rw [hg]; exact Nat.ne_of_gt (blk_lt (bk_ s.out)) : c ≠ d)); replace s := a_ (bq_ s.out hb); clear hb hbox hg; have cd := bg.out; have ce := x.out; obtain ⟨_, _, _, _, _, _, _, _, _, _, _, _, _, _, _, _⟩ := cel8_ y.out; obtain ⟨q, r, bX⟩ := Kd.R_slice aA.out; subst bX; obtain ⟨u, v, bY⟩ := Kd.R_slice aC.out; subst bY; obtain ⟨W, X, bZ⟩ := Kd.V_slice aN.out; subst bZ; obtain ⟨ab, ac, b0⟩ := Kd.V_slice aQ.out; subst b0; obtain ⟨ai, aj, b1⟩ := Kd.V_slice aR.out; subst b1; obtain ⟨aJ, aK, b2⟩ := Kd.V_slice aT.out; subst b2) | ((with_reducible refine gate_callee (f := 25) rfl ?_); refine goesL_ (some 35) rfl rfl Tryz.func25 kr_ rfl #[.slice A1 l1.length c1, .int .i64 a2] rfl ar_ ?_; (with_reducible refine (jigsawref09_Product.calls k1 _ _ l1 a2 z _ ?_ ?_ A9.out).mono ?_); exact cb_ bs.out bel_; exact b9.out; rintro e w21 ⟨au, rfl, ah, hb⟩; refine ⟨_, rfl, ?_⟩; replace HO_246003 := a_ (Kd.V_elder' (by refine vV_ ?_; exact (vm_ (fV_ (fV_ (fV_ (fV_ (fV_ (fV_ (fV_ (fV_ (vm_ HO_246003.out (fun a hk => (⟨hk, hk.2⟩ : _ ∧ a ≠ c))))))))))) (fun _ h_ => h_.1))) (Kd.N_base (Kd.S_N ah)) hb); replace HO_246004 := a_ (Kd.V_elder' (by refine vV_ ?_; exact (vm_ (fV_ (fV_ (fV_ (fV_ (fV_ (fV_ (fV_ (fV_ (vm_ HO_246004.out (fun a hk => (⟨hk, hk.2⟩ : _ ∧ a ≠ c))))))))))) (fun _ h_ => h_.1))) (Kd.N_base (Kd.S_N ah)) hb); replace HO_246005 := a_ (Kd.V_elder' (by refine vV_ ?_; exact (vm_ (fV_ (fV_ (fV_ (fV_ (fV_ (fV_ (fV_ (fV_ (vm_ HO_246005.out (fun a hk => (⟨hk, hk.2⟩ : _ ∧ a ≠ c))))))))))) (fun _ h_ => h_.1))) (Kd.N_base (Kd.S_N ah)) hb); replace HO_246007 := a_ (Kd.V_elder' (by refine vV_ ?_; exact (vm_ (fV_ (fV_ (fV_ (fV_ (fV_ (fV_ (fV_ (fV_ (vm_ HO_246007.out (fun a hk => (⟨hk, hk.2⟩ : _ ∧ a ≠ c))))))))))) (fun _ h_ => h_.1))) (Kd.N_base (Kd.S_N ah)) hb); replace aN := a_ (Kd.V_elder' (by refine vV_ ?_; exact (vm_ (fV_ (fV_ (fV_ (fV_ (fV_ (fV_ (fV_ (fV_ (vm_ aN.out (fun a hk => (⟨hk, hk.2⟩ : _ ∧ a ≠ c))))))))))) (fun _ h_ => h_.1))) (Kd.N_base (Kd.S_N ah)) hb); replace aQ := a_ (Kd.V_elder' (by refine vV_ ?_; exact (vm_ (fV_ (fV_ (fV_ (fV_ (fV_ (fV_ (fV_ (fV_ (vm_ aQ.out (fun a hk => (⟨hk, hk.2⟩ : _ ∧ a ≠ c))))))))))) (fun _ h_ => h_.1))) (Kd.N_base (Kd.S_N ah)) hb); replace aR := a_ (Kd.V_elder' (by refine vV_ ?_; exact (vm_ (fV_ (fV_ (fV_ (fV_ (fV_ (fV_ (fV_ (fV_ (vm_ aR.out (fun a hk => (⟨hk, hk.2⟩ : _ ∧ a ≠ c))))))))))) (fun _ h_ => h_.1))) (Kd.N_base (Kd.S_N ah)) hb); replace aT := a_ (Kd.V_elder' (by refine vV_ ?_; exact (vm_ (fV_ (fV_ (fV_ (fV_ (fV_ (fV_ (fV_ (fV_ (vm_ aT.out (fun a hk => (⟨hk, hk.2⟩ : _ ∧ a ≠ c))))))))))) (fun _ h_ => h_.1))) (Kd.N_base (Kd.S_N ah)) hb); have bJ := a_ (Kd.N_lower (nm_ (ok' := fun a => ((P0_3_ a ∨ P0_4_ a ∨ P0_5_ a ∨ P0_7_ a) ∨ w.heap.size ≤ a) ∧ some a ≠ (.slice q l.length r : Value).ownBlock ∧ some a ≠ (.slice u m.length v : Value).ownBlock ∧ a ≠ d ∧ a ≠ c) (Kd.S_N (Kd.S_bound ah)) (fun a hk_ => ⟨(.inr (Nat.le_trans (bz_ bel_) hk_.2.1)), (fr_ (rl_ (by refine vR_ ?_; exact (rm_ (fR_ (fR_ (fR_ (fR_ (fR_ (fR_ (fR_ (fR_ (rt_ aA.out y.out (by decide)))))))))) (fun _ h_ => h_.1)))) a hk_.2.1), (fr_ (rl_ (by refine vR_ ?_; exact (rm_ (fR_ (fR_ (fR_ (fR_ (fR_ (fR_ (fR_ (fR_ (rt_ aC.out y.out (by decide)))))))))) (fun _ h_ => h_.1)))) a hk_.2.1), (Kd.freshB (g := d) (o := .cells #[.int .i64 aq, .slice aE ad.length c0_1, .slice aG ae.length c0_2, .slice al J.length c0_3, .slice am O.length c0_4, .slice an P.length c0_5, .int .i64 ar, .slice ao Q.length c0_7] 32 (0, 0)) (by refine bk_ ?_; refine blk_far ?_ x.out _; refine bk_ ?_; refine blk_far ?_ x.out _; refine bk_ ?_; refine blk_far ?_ x.out _; refine bk_ ?_; refine blk_far ?_ x.out _; refine bk_ ?_; refine blk_far ?_ x.out _; refine bk_ ?_; refine blk_far ?_ x.out _; refine bk_ ?_; refine blk_far ?_ x.out _; refine bk_ ?_; refine blk_far ?_ x.out _; refine bk_ ?_; exact s.out) a hk_.2.1), (Kd.freshB (g := c) (o := .cells #[.int .i64 A, .slice q l.length r, .slice u m.length v, .slice W B.length X, .slice ab E.length ac, .slice ai I.length aj, .int .i64 Y, .slice aJ Z.length aK] 32 (0, 0)) (by refine bk_ ?_; refine bu_ (cs := #[.int .i64 A, .slice q l.length r, .slice u m.length v, .slice W B.length X, .slice ab E.length ac, .slice ai I.length aj, .int .i64 Y, .slice none 0 0]) ?_ 7 _ rfl; refine bk_ ?_; refine bu_ (cs := #[.int .i64 A, .slice q l.length r, .slice u m.length v, .slice W B.length X, .slice ab E.length ac, .slice ai I.length aj, .int .i64 0, .slice none 0 0]) ?_ 6 _ rfl; refine bk_ ?_; refine bu_ (cs := #[.int .i64 A, .slice q l.length r, .slice u m.length v, .slice W B.length X, .slice ab E.length ac, .slice none 0 0, .int .i64 0, .slice none 0 0]) ?_ 5 _ rfl; refine bk_ ?_; refine bu_ (cs := #[.int .i64 A, .slice q l.length r, .slice u m.length v, .slice W B.length X, .slice none 0 0, .slice none 0 0, .int .i64 0, .slice none 0 0]) ?_ 4 _ rfl; refine bk_ ?_; refine bu_ (cs := #[.int .i64 A, .slice q l.length r, .slice u m.length v, .slice none 0 0, .slice none 0 0, .slice none 0 0, .int .i64 0, .slice none 0 0]) ?_ 3 _ rfl; refine bk_ ?_; refine bu_ (cs := #[.int .i64 A, .slice q l.length r, .slice none 0 0, .slice none 0 0, .slice none 0 0, .slice none 0 0, .int .i64 0, .slice none 0 0]) ?_ 2 _ rfl; refine bk_ ?_; refine bu_ (cs := #[.int .i64 A, .slice none 0 0, .slice none 0 0, .slice none 0 0, .slice none 0 0, .slice none 0 0, .int .i64 0, .slice none 0 0]) ?_ 1 _ rfl; refine bk_ ?_; refine bu_ (cs := #[.int .i64 0, .slice none 0 0, .slice none 0 0, .slice none 0 0, .slice none 0 0, .slice none 0 0, .int .i64 0, .slice none 0 0]) ?_ 0 _ rfl; refine bk_ ?_; exact y.out) a hk_.2.1)⟩)) (bz_ bel_)); replace aA := a_ (rb_ (by refine vR_ ?_; exact (rm_ (fR_ (fR_ (fR_ (fR_ (fR_ (fR_ (fR_ (fR_ (rt_ aA.out y.out (by decide)))))))))) (fun _ h_ => h_.1))) hb); replace aC := a_ (rb_ (by refine vR_ ?_; exact (rm_ (fR_ (fR_ (fR_ (fR_ (fR_ (fR_ (fR_ (fR_ (rt_ aC.out y.out (by decide)))))))))) (fun _ h_ => h_.1))) hb); replace s := a_ (bb_ (g := d) (o := .cells #[.int .i64 aq, .slice aE ad.length c0_1, .slice aG ae.length c0_2, .slice al J.length c0_3, .slice am O.length c0_4, .slice an P.length c0_5, .int .i64 ar, .slice ao Q.length c0_7] 32 (0, 0)) (by refine bk_ ?_; refine blk_far ?_ x.out _; refine bk_ ?_; refine blk_far ?_ x.out _; refine bk_ ?_; refine blk_far ?_ x.out _; refine bk_ ?_; refine blk_far ?_ x.out _; refine bk_ ?_; refine blk_far ?_ x.out _; refine bk_ ?_; refine blk_far ?_ x.out _; refine bk_ ?_; refine blk_far ?_ x.out _; refine bk_ ?_; refine blk_far ?_ x.out _; refine bk_ ?_; exact s.out) hb); replace y := a_ (bb_ (g := c) (o := .cells #[.int .i64 A, .slice q l.length r, .slice u m.length v, .slice W B.length X, .slice ab E.length ac, .slice ai I.length aj, .int .i64 Y, .slice aJ Z.length aK] 32 (0, 0)) (by refine bk_ ?_; refine bu_ (cs := #[.int .i64 A, .slice q l.length r, .slice u m.length v, .slice W B.length X, .slice ab E.length ac, .slice ai I.length aj, .int .i64 Y, .slice none 0 0]) ?_ 7 _ rfl; refine bk_ ?_; refine bu_ (cs := #[.int .i64 A, .slice q l.length r, .slice u m.length v, .slice W B.length X, .slice ab E.length ac, .slice ai I.length aj, .int .i64 0, .slice none 0 0]) ?_ 6 _ rfl; refine bk_ ?_; refine bu_ (cs := #[.int .i64 A, .slice q l.length r, .slice u m.length v, .slice W B.length X, .slice ab E.length ac, .slice none 0 0, .int .i64 0, .slice none 0 0]) ?_ 5 _ rfl; refine bk_ ?_; refine bu_ (cs := #[.int .i64 A, .slice q l.length r, .slice u m.length v, .slice W B.length X, .slice none 0 0, .slice none 0 0, .int .i64 0, .slice none 0 0]) ?_ 4 _ rfl; refine bk_ ?_; refine bu_ (cs := #[.int .i64 A, .slice q l.length r, .slice u m.length v, .slice none 0 0, .slice none 0 0, .slice none 0 0, .int .i64 0, .slice none 0 0]) ?_ 3 _ rfl; refine bk_ ?_; refine bu_ (cs := #[.int .i64 A, .slice q l.length r, .slice none 0 0, .slice none 0 0, .slice none 0 0, .slice none 0 0, .int .i64 0, .slice none 0 0]) ?_ 2 _ rfl; refine bk_ ?_; refine bu_ (cs := #[.int .i64 A, .slice none 0 0, .slice none 0 0, .slice none 0 0, .slice none 0 0, .slice none 0 0, .int .i64 0, .slice none 0 0]) ?_ 1 _ rfl; refine bk_ ?_; refine bu_ (cs := #[.int .i64 0, .slice none 0 0, .slice none 0 0, .slice none 0 0, .slice none 0 0, .slice none 0 0, .int .i64 0, .slice none 0 0]) ?_ 0 _ rfl; refine bk_ ?_; exact y.out) hb); replace HB := hq_ hb; clear hb ah))
  go_loopg [12, 13] k1 (fun kq aV ca w' => ∃ (ap : List (List Int)) (p : Int), ca = .int .i64 p ∧ Aside0 (jigsawref10_Solutions.l1 kq z ap p A l m B E I Y Z = some (r1, r2)) ∧ Aside0 (kq ≤ k1) ∧ Aside0 (Kd.N (Kd.slice 3 (Kd.int .i64)) 30 w' w.heap.size (fun a => ((P0_3_ a ∨ P0_4_ a ∨ P0_5_ a ∨ P0_7_ a) ∨ w.heap.size ≤ a) ∧ some a ≠ aV.ownBlock ∧ some a ≠ ((.slice q l.length r) : Value).ownBlock ∧ some a ≠ ((.slice u m.length v) : Value).ownBlock ∧ a ≠ d ∧ a ≠ c) au z) ∧ Aside0 (Kd.N (Kd.slice 3 (Kd.int .i64)) 30 w' w.heap.size (fun a => ((P0_3_ a ∨ P0_4_ a ∨ P0_5_ a ∨ P0_7_ a) ∨ w.heap.size ≤ a) ∧ some a ≠ au.ownBlock ∧ some a ≠ ((.slice q l.length r) : Value).ownBlock ∧ some a ≠ ((.slice u m.length v) : Value).ownBlock ∧ a ≠ d ∧ a ≠ c) aV ap) ∧ Aside0 (Kd.V (Kd.int .i64) 3 w' w.heap.size (fun a => ((P0_3_ a ∨ P0_4_ a ∨ P0_5_ a ∨ P0_7_ a) ∨ w.heap.size ≤ a) ∧ some a ≠ au.ownBlock ∧ some a ≠ aV.ownBlock ∧ some a ≠ ((.slice q l.length r) : Value).ownBlock ∧ some a ≠ ((.slice u m.length v) : Value).ownBlock ∧ a ≠ d ∧ a ≠ c) (.slice al J.length c0_3) J) ∧ Aside0 (Kd.V (Kd.int .i64) 3 w' w.heap.size (fun a => ((P0_3_ a ∨ P0_4_ a ∨ P0_5_ a ∨ P0_7_ a) ∨ w.heap.size ≤ a) ∧ some a ≠ au.ownBlock ∧ some a ≠ aV.ownBlock ∧ some a ≠ ((.slice q l.length r) : Value).ownBlock ∧ some a ≠ ((.slice u m.length v) : Value).ownBlock ∧ a ≠ d ∧ a ≠ c) (.slice am O.length c0_4) O) ∧ Aside0 (Kd.V (Kd.int .i64) 3 w' w.heap.size (fun a => ((P0_3_ a ∨ P0_4_ a ∨ P0_5_ a ∨ P0_7_ a) ∨ w.heap.size ≤ a) ∧ some a ≠ au.ownBlock ∧ some a ≠ aV.ownBlock ∧ some a ≠ ((.slice q l.length r) : Value).ownBlock ∧ some a ≠ ((.slice u m.length v) : Value).ownBlock ∧ a ≠ d ∧ a ≠ c) (.slice an P.length c0_5) P) ∧ Aside0 (Kd.V (Kd.slice 3 (Kd.int .i64)) 30 w' w.heap.size (fun a => ((P0_3_ a ∨ P0_4_ a ∨ P0_5_ a ∨ P0_7_ a) ∨ w.heap.size ≤ a) ∧ some a ≠ au.ownBlock ∧ some a ≠ aV.ownBlock ∧ some a ≠ ((.slice q l.length r) : Value).ownBlock ∧ some a ≠ ((.slice u m.length v) : Value).ownBlock ∧ a ≠ d ∧ a ≠ c) (.slice ao Q.length c0_7) Q) ∧ Aside0 (Kd.R (Kd.int .i64) 3 w' w.heap.size (fun a => (w.heap.size ≤ a) ∧ some a ≠ ((.slice u m.length v) : Value).ownBlock) (.slice q l.length r) l) ∧ Aside0 (Kd.R (Kd.int .i64) 3 w' w.heap.size (fun a => (w.heap.size ≤ a) ∧ some a ≠ ((.slice q l.length r) : Value).ownBlock) (.slice u m.length v) m) ∧ Aside0 (Kd.V (Kd.int .i64) 3 w' w.heap.size (fun a => ((P0_3_ a ∨ P0_4_ a ∨ P0_5_ a ∨ P0_7_ a) ∨ w.heap.size ≤ a) ∧ some a ≠ au.ownBlock ∧ some a ≠ aV.ownBlock ∧ some a ≠ ((.slice q l.length r) : Value).ownBlock ∧ some a ≠ ((.slice u m.length v) : Value).ownBlock ∧ a ≠ d ∧ a ≠ c) (.slice W B.length X) B) ∧ Aside0 (Kd.V (Kd.int .i64) 3 w' w.heap.size (fun a => ((P0_3_ a ∨ P0_4_ a ∨ P0_5_ a ∨ P0_7_ a) ∨ w.heap.size ≤ a) ∧ some a ≠ au.ownBlock ∧ some a ≠ aV.ownBlock ∧ some a ≠ ((.slice q l.length r) : Value).ownBlock ∧ some a ≠ ((.slice u m.length v) : Value).ownBlock ∧ a ≠ d ∧ a ≠ c) (.slice ab E.length ac) E) ∧ Aside0 (Kd.V (Kd.int .i64) 3 w' w.heap.size (fun a => ((P0_3_ a ∨ P0_4_ a ∨ P0_5_ a ∨ P0_7_ a) ∨ w.heap.size ≤ a) ∧ some a ≠ au.ownBlock ∧ some a ≠ aV.ownBlock ∧ some a ≠ ((.slice q l.length r) : Value).ownBlock ∧ some a ≠ ((.slice u m.length v) : Value).ownBlock ∧ a ≠ d ∧ a ≠ c) (.slice ai I.length aj) I) ∧ Aside0 (Kd.V (Kd.slice 3 (Kd.int .i64)) 30 w' w.heap.size (fun a => ((P0_3_ a ∨ P0_4_ a ∨ P0_5_ a ∨ P0_7_ a) ∨ w.heap.size ≤ a) ∧ some a ≠ au.ownBlock ∧ some a ≠ aV.ownBlock ∧ some a ≠ ((.slice q l.length r) : Value).ownBlock ∧ some a ≠ ((.slice u m.length v) : Value).ownBlock ∧ a ≠ d ∧ a ≠ c) (.slice aJ Z.length aK) Z) ∧ Aside0 (w'.heap[d]? = some (.cells #[.int .i64 aq, (.slice aE ad.length c0_1), (.slice aG ae.length c0_2), (.slice al J.length c0_3), (.slice am O.length c0_4), (.slice an P.length c0_5), .int .i64 ar, (.slice ao Q.length c0_7)] 32 (0, 0))) ∧ Aside0 (w'.heap[c]? = some (.cells #[.int .i64 A, (.slice q l.length r), (.slice u m.length v), (.slice W B.length X), (.slice ab E.length ac), (.slice ai I.length aj), .int .i64 Y, (.slice aJ Z.length aK)] 32 (0, 0))) ∧ Aside0 (Below w.heap.size w w'))
  case atStart => exact ⟨(([] : List (List Int))), (0), eq_, H', ⟨lr_ _⟩, ⟨by refine vN_ ?_; exact nm_ bJ.out (fun _ hk => ⟨hk.1, ⟨(by simp [Value.ownBlock]), ⟨hk.2.1, ⟨hk.2.2.1, ⟨hk.2.2.2.1, hk.2.2.2.2⟩⟩⟩⟩⟩)⟩, ⟨nil_⟩, ⟨by refine vV_ ?_; exact vm_ HO_246003.out (fun _ hk => ⟨hk.1.1.1.1.1, ⟨hk.2, ⟨(by simp [Value.ownBlock]), ⟨hk.1.1.1.2, ⟨hk.1.1.2, ⟨hk.1.1.1.1.2, hk.1.2⟩⟩⟩⟩⟩⟩)⟩, ⟨by refine vV_ ?_; exact vm_ HO_246004.out (fun _ hk => ⟨hk.1.1.1.1.1, ⟨hk.2, ⟨(by simp [Value.ownBlock]), ⟨hk.1.1.1.2, ⟨hk.1.1.2, ⟨hk.1.1.1.1.2, hk.1.2⟩⟩⟩⟩⟩⟩)⟩, ⟨by refine vV_ ?_; exact vm_ HO_246005.out (fun _ hk => ⟨hk.1.1.1.1.1, ⟨hk.2, ⟨(by simp [Value.ownBlock]), ⟨hk.1.1.1.2, ⟨hk.1.1.2, ⟨hk.1.1.1.1.2, hk.1.2⟩⟩⟩⟩⟩⟩)⟩, ⟨by refine vV_ ?_; exact vm_ HO_246007.out (fun _ hk => ⟨hk.1.1.1.1.1, ⟨hk.2, ⟨(by simp [Value.ownBlock]), ⟨hk.1.1.1.2, ⟨hk.1.1.2, ⟨hk.1.1.1.1.2, hk.1.2⟩⟩⟩⟩⟩⟩)⟩, ⟨vR_ aA.out⟩, ⟨vR_ aC.out⟩, ⟨by refine vV_ ?_; exact vm_ aN.out (fun _ hk => ⟨hk.1.1.1, ⟨hk.2, ⟨(by simp [Value.ownBlock]), ⟨hk.1.1.2.1, ⟨hk.1.1.2.2.1, ⟨hk.1.1.2.2.2, hk.1.2⟩⟩⟩⟩⟩⟩)⟩, ⟨by refine vV_ ?_; exact vm_ aQ.out (fun _ hk => ⟨hk.1.1.1, ⟨hk.2, ⟨(by simp [Value.ownBlock]), ⟨hk.1.1.2.1, ⟨hk.1.1.2.2.1, ⟨hk.1.1.2.2.2, hk.1.2⟩⟩⟩⟩⟩⟩)⟩, ⟨by refine vV_ ?_; exact vm_ aR.out (fun _ hk => ⟨hk.1.1.1, ⟨hk.2, ⟨(by simp [Value.ownBlock]), ⟨hk.1.1.2.1, ⟨hk.1.1.2.2.1, ⟨hk.1.1.2.2.2, hk.1.2⟩⟩⟩⟩⟩⟩)⟩, ⟨by refine vV_ ?_; exact vm_ aT.out (fun _ hk => ⟨hk.1.1.1, ⟨hk.2, ⟨(by simp [Value.ownBlock]), ⟨hk.1.1.2.1, ⟨hk.1.1.2.2.1, ⟨hk.1.1.2.2.2, hk.1.2⟩⟩⟩⟩⟩⟩)⟩, ⟨bk_ s.out⟩, ⟨bk_ y.out⟩, ⟨bel_⟩⟩
  clear H'
  try clear c1
  try clear c2
  try clear p2
  try clear q2
  try clear cu
  try clear c5
  try clear c5b0
  try clear c6
  try clear c6b0
  try clear p6
  try clear c7
  try clear c7b0
  try clear c9
  try clear c13
  try clear c19
  try clear aa
  try clear p2
  try clear p246
  try clear aI
  obtain ⟨ap, p, rfl, HA, bn, HO_11, HO_12, HO_246003, HO_246004, HO_246005, HO_246007, HO_268001, HO_268002, HO_268003, HO_268004, HO_268005, HO_268007, s, y, HB⟩ := hrel
  cases gk with
  | zero => exact absurd HA.out (by simp [jigsawref10_Solutions.l1])
  | succ k2 =>
   have H := HA.out
   clear HA
   simp only [jigsawref10_Solutions.l1] at H
   by_cases c22 : p < (z.length : Int)
   rotate_left
   ·
    rw [ig_ c22] at H
    have c22b0 : decide (p < (z.length : Int)) = false := df_ c22
    clear c22
    simp only [Option.some.injEq, Prod.mk.injEq] at H
    obtain ⟨rfl, rfl⟩ := H
    obtain ⟨cr, ct, b7⟩ := Kd.N_slice HO_11.out
    subst b7
    go_wp2
    go_ret2
    exact ⟨_, er_, by refine vN_ ?_; exact nm_ HO_12.out (fun _ hk => hk.1), bel_⟩
   rw [ip_ c22] at H
   have c22b0 : decide (p < (z.length : Int)) = true := dt_ c22
   clear c22
   by_cases c23 : 0 ≤ p
   rotate_left
   ·
    rw [ig_ c23] at H
    exact ab_ H
   rw [ip_ c23] at H
   have c23b0 : decide (0 ≤ p) = true := dt_ c23
   clear c23
   replace H := bo_ H
   obtain ⟨b3, bV, H⟩ := H
   try dsimp only at H
   by_cases c25 : b3 = true
   rotate_left
   ·
    replace c25 := bf_.mpr c25
    subst c25
    have H1 : (jigsawref10_Solutions.l1 k2 z ap (wrap64 (p + 1)) A l m B E I Y Z) = some (r1, r2) := by rw [ig_ (show ¬ (false = true) by decide)] at H; exact H
    clear H
    have H := H1
    clear H1
    have H' := a_ H
    clear H
    obtain ⟨cp, cq, b6⟩ := Kd.N_slice HO_11.out
    subst b6
    try go_wp2
    replace HO_11 := a_ (Kd.N_drew HO_11.out)
    replace HO_12 := a_ (Kd.N_drew HO_12.out)
    replace HO_246003 := a_ (Kd.V_drew HO_246003.out)
    replace HO_246004 := a_ (Kd.V_drew HO_246004.out)
    replace HO_246005 := a_ (Kd.V_drew HO_246005.out)
    replace HO_246007 := a_ (Kd.V_drew HO_246007.out)
    replace HO_268001 := a_ (Kd.R_drew HO_268001.out)
    replace HO_268002 := a_ (Kd.R_drew HO_268002.out)
    replace HO_268003 := a_ (Kd.V_drew HO_268003.out)
    replace HO_268004 := a_ (Kd.V_drew HO_268004.out)
    replace HO_268005 := a_ (Kd.V_drew HO_268005.out)
    replace HO_268007 := a_ (Kd.V_drew HO_268007.out)
    replace s := a_ (blk_drew s.out)
    replace y := a_ (blk_drew y.out)
    replace HB := a_ (below_drew1 HB.out)
    have p271 : 0 ≤ (p : Int) := dq_
    have aD : p < (z.length : Int) := dq_
    obtain ⟨F, aM, c271_0, bi, af, aw, ax⟩ := at_L3 (Kd.N_reads' HO_11.out).2.2 p p271 aD
    cases bi
    obtain ⟨ce271, hce271, hMe271, hcc271⟩ := Kd.N_get HO_11.out [] p p271 (by first | exact aD | exact dq_ | (have e_ := (Kd.N_reads' HO_11.out).1; omega))
    obtain ⟨ua271_0, uc271_0, rfl, ay, az⟩ := Kd.FK_slice_open hMe271
    have U := hcc271 0 _ rfl
    rw [Nat.add_zero, show ((Kd.slice 3 (Kd.int .i64))).sz = 1 from rfl, Nat.mul_one] at U
    replace U := si_ (U.symm.trans af)
    injection U with hva_ hvn_ hvc_
    rw [hva_] at az
    rw [hvc_] at ay
    clear hva_ hvn_ hvc_ az ay
    clear hcc271 hce271
    have ag := a_ ax
    have aZ := a_ aw
    clear ax aw
    replace p271 := et_ p271
    replace aD := et_ aD
    refine start_ (n := 7) (S := fun w' => w'.cell? ⟨c, 0, none⟩ = some (.int .i64 A) ∧ w'.cell? ⟨c, 1, none⟩ = some (.slice q l.length r) ∧ w'.cell? ⟨c, 2, none⟩ = some (.slice u m.length v) ∧ w'.cell? ⟨c, 3, none⟩ = some (.slice W B.length X) ∧ w'.cell? ⟨c, 4, none⟩ = some (.slice ab E.length ac) ∧ w'.cell? ⟨c, 5, none⟩ = some (.slice ai I.length aj) ∧ w'.cell? ⟨c, 6, none⟩ = some (.int .i64 Y) ∧ w'.cell? ⟨c, 7, none⟩ = some (.slice aJ Z.length aK) ∧ w'.cell? (F.add (p).toNat) = some (.slice aM (rd_L3 z p).length c271_0)) (ds := []) #[false, false, false, false, false, false, false] kr_ rfl rfl (cb8_ y.out (af)) (fun hHeld => ?_)
    generalize wr.drew = w32 at HO_11 HO_12 HO_246003 HO_246004 HO_246005 HO_246007 HO_268001 HO_268002 HO_268003 HO_268004 HO_268005 HO_268007 s y HB ag af hHeld ⊢
    refine pn_ 1 43 kr_ ?_
    refine pn_ 2 44 kr_ ?_
    refine pn_ 3 45 kr_ ?_
    refine tn_ 0 42 kr_ hHeld ?_
    refine tn_ 4 46 kr_ hHeld ?_
    refine onn_ 5 47 #[true, true, true, true, true, true, false] rfl rfl kr_ (by decide) (fun K hK => ?_)
    refine goes_ Tryz.func20 kr_ rfl #[.agg #[.int .i64 A, .slice q l.length r, .slice u m.length v, .slice W B.length X, .slice ab E.length ac, .slice ai I.length aj, .int .i64 Y, .slice aJ Z.length aK], .slice aM (rd_L3 z p).length c271_0] (by rfl) rfl rfl ar_ ?_
    with_reducible refine (jigsawref09_Holds.calls k2 A _ _ l _ _ m _ _ B _ _ E _ _ I Y _ _ Z _ _ (rd_L3 z p) false _ ?_ ?_ ?_ ?_ ?_ ?_ ?_ ?_ ?_ ?_ ?_ ?_ ?_ ?_ bV.out).mono ?_
    exact ca_ ((rr_ HO_268001.out).2.2)
    exact (rr_ HO_268001.out).2.1
    exact ca_ ((rr_ HO_268002.out).2.2)
    exact (rr_ HO_268002.out).2.1
    exact ca_ ((Kd.V_reads' HO_268003.out).2.2)
    exact (Kd.V_reads' HO_268003.out).2.1
    exact ca_ ((Kd.V_reads' HO_268004.out).2.2)
    exact (Kd.V_reads' HO_268004.out).2.1
    exact ca_ ((Kd.V_reads' HO_268005.out).2.2)
    exact (Kd.V_reads' HO_268005.out).2.1
    exact ca_ ((Kd.V_reads' HO_268007.out).2.2)
    exact (Kd.V_reads' HO_268007.out).2.1
    focus repeat (first | exact (by repeat (first | (with_reducible exact ag.out) | (with_reducible refine Kd.C_alloc ?_ _) | (with_reducible refine Kd.C_drewN ?_ _) | (with_reducible refine Kd.C_drew ?_) | exact ag.out)) | (with_reducible refine Kd.C_alloc ?_ _) | (with_reducible refine Kd.C_drewN ?_ _) | (with_reducible refine Kd.C_drew ?_))
    exact aZ.out
    rintro e w33 ⟨rfl, hb⟩
    have bd := (hb.cell (wl_ _ _ (hHeld.2.2.2.2.2.2.2.2))).trans (hHeld.2.2.2.2.2.2.2.2)
    refine ⟨_, rfl, ?_⟩
    replace HO_11 := a_ (Kd.N_below (vN_ HO_11.out) hb)
    replace HO_12 := a_ (Kd.N_below (vN_ HO_12.out) hb)
    replace HO_246003 := a_ (vb_ (vV_ HO_246003.out) hb)
    replace HO_246004 := a_ (vb_ (vV_ HO_246004.out) hb)
    replace HO_246005 := a_ (vb_ (vV_ HO_246005.out) hb)
    replace HO_246007 := a_ (vb_ (vV_ HO_246007.out) hb)
    replace HO_268001 := a_ (rb_ (vR_ HO_268001.out) hb)
    replace HO_268002 := a_ (rb_ (vR_ HO_268002.out) hb)
    replace HO_268003 := a_ (vb_ (vV_ HO_268003.out) hb)
    replace HO_268004 := a_ (vb_ (vV_ HO_268004.out) hb)
    replace HO_268005 := a_ (vb_ (vV_ HO_268005.out) hb)
    replace HO_268007 := a_ (vb_ (vV_ HO_268007.out) hb)
    replace s := a_ (bq_ s.out hb)
    replace y := a_ (bq_ y.out hb)
    replace HB := hq_ hb
    clear hb
    refine hK.out _ _ (cb8_ y.out (bd)) (fun hHeld => ?_)
    clear hK K
    refine nor_ (N := some 47) ?_
    refine pn_ 6 14 kr_ ?_
    refine done_ kr_ ?_
    try go_wp2
    go_roundg k2
    case measure => have := a5.out; have := bn.out; omega
    exact ⟨(ap), (wrap64 (p + 1)), eq_, H', ⟨by have := a5.out; have := bn.out; omega⟩, ⟨vN_ HO_11.out⟩, ⟨vN_ HO_12.out⟩, ⟨vV_ HO_246003.out⟩, ⟨vV_ HO_246004.out⟩, ⟨vV_ HO_246005.out⟩, ⟨vV_ HO_246007.out⟩, ⟨vR_ HO_268001.out⟩, ⟨vR_ HO_268002.out⟩, ⟨vV_ HO_268003.out⟩, ⟨vV_ HO_268004.out⟩, ⟨vV_ HO_268005.out⟩, ⟨vV_ HO_268007.out⟩, ⟨bk_ s.out⟩, ⟨bk_ y.out⟩, ⟨bel_⟩⟩
   subst c25
   rw [ip_ rfl] at H
   by_cases c26 : ap.length < 5864062014805
   rotate_left
   ·
    rw [ig_ c26] at H
    exact ab_ H
   rw [ip_ c26] at H
   have LMc26 := a_ c26
   clear c26
   obtain ⟨bv, aX⟩ : ∃ y_ : List (List Int), y_ = (ap ++ [rd_L3 z p]) := ⟨_, rfl⟩
   replace H : (jigsawref10_Solutions.l1 k2 z bv (wrap64 (p + 1)) A l m B E I Y Z) = some (r1, r2) := h2_ H aX
   have bK := a_ aX
   clear aX
   have H' := a_ H
   clear H
   obtain ⟨cn, ak, b4⟩ := Kd.N_slice HO_11.out
   subst b4
   try go_wp2
   replace HO_11 := a_ (Kd.N_drew HO_11.out)
   replace HO_12 := a_ (Kd.N_drew HO_12.out)
   replace HO_246003 := a_ (Kd.V_drew HO_246003.out)
   replace HO_246004 := a_ (Kd.V_drew HO_246004.out)
   replace HO_246005 := a_ (Kd.V_drew HO_246005.out)
   replace HO_246007 := a_ (Kd.V_drew HO_246007.out)
   replace HO_268001 := a_ (Kd.R_drew HO_268001.out)
   replace HO_268002 := a_ (Kd.R_drew HO_268002.out)
   replace HO_268003 := a_ (Kd.V_drew HO_268003.out)
   replace HO_268004 := a_ (Kd.V_drew HO_268004.out)
   replace HO_268005 := a_ (Kd.V_drew HO_268005.out)
   replace HO_268007 := a_ (Kd.V_drew HO_268007.out)
   replace s := a_ (blk_drew s.out)
   replace y := a_ (blk_drew y.out)
   replace HB := a_ (below_drew1 HB.out)
   have p271 : 0 ≤ (p : Int) := dq_
   have aD : p < (z.length : Int) := dq_
   obtain ⟨F, aM, c271_0, bi, af, aw, ax⟩ := at_L3 (Kd.N_reads' HO_11.out).2.2 p p271 aD
   cases bi
   obtain ⟨ce271, hce271, hMe271, hcc271⟩ := Kd.N_get HO_11.out [] p p271 (by first | exact aD | exact dq_ | (have e_ := (Kd.N_reads' HO_11.out).1; omega))
   obtain ⟨ua271_0, uc271_0, rfl, ay, az⟩ := Kd.FK_slice_open hMe271
   have U := hcc271 0 _ rfl
   rw [Nat.add_zero, show ((Kd.slice 3 (Kd.int .i64))).sz = 1 from rfl, Nat.mul_one] at U
   replace U := si_ (U.symm.trans af)
   injection U with hva_ hvn_ hvc_
   rw [hva_] at az
   rw [hvc_] at ay
   clear hva_ hvn_ hvc_ az ay
   clear hcc271 hce271
   have ag := a_ ax
   have aZ := a_ aw
   clear ax aw
   replace p271 := et_ p271
   replace aD := et_ aD
   refine start_ (n := 7) (S := fun w' => w'.cell? ⟨c, 0, none⟩ = some (.int .i64 A) ∧ w'.cell? ⟨c, 1, none⟩ = some (.slice q l.length r) ∧ w'.cell? ⟨c, 2, none⟩ = some (.slice u m.length v) ∧ w'.cell? ⟨c, 3, none⟩ = some (.slice W B.length X) ∧ w'.cell? ⟨c, 4, none⟩ = some (.slice ab E.length ac) ∧ w'.cell? ⟨c, 5, none⟩ = some (.slice ai I.length aj) ∧ w'.cell? ⟨c, 6, none⟩ = some (.int .i64 Y) ∧ w'.cell? ⟨c, 7, none⟩ = some (.slice aJ Z.length aK) ∧ w'.cell? (F.add (p).toNat) = some (.slice aM (rd_L3 z p).length c271_0)) (ds := []) #[false, false, false, false, false, false, false] kr_ rfl rfl (cb8_ y.out (af)) (fun hHeld => ?_)
   generalize wr.drew = w28 at HO_11 HO_12 HO_246003 HO_246004 HO_246005 HO_246007 HO_268001 HO_268002 HO_268003 HO_268004 HO_268005 HO_268007 s y HB ag af hHeld ⊢
   refine pn_ 1 43 kr_ ?_
   refine pn_ 2 44 kr_ ?_
   refine pn_ 3 45 kr_ ?_
   refine tn_ 0 42 kr_ hHeld ?_
   refine tn_ 4 46 kr_ hHeld ?_
   refine onn_ 5 47 #[true, true, true, true, true, true, false] rfl rfl kr_ (by decide) (fun K hK => ?_)
   refine goes_ Tryz.func20 kr_ rfl #[.agg #[.int .i64 A, .slice q l.length r, .slice u m.length v, .slice W B.length X, .slice ab E.length ac, .slice ai I.length aj, .int .i64 Y, .slice aJ Z.length aK], .slice aM (rd_L3 z p).length c271_0] (by rfl) rfl rfl ar_ ?_
   with_reducible refine (jigsawref09_Holds.calls k2 A _ _ l _ _ m _ _ B _ _ E _ _ I Y _ _ Z _ _ (rd_L3 z p) true _ ?_ ?_ ?_ ?_ ?_ ?_ ?_ ?_ ?_ ?_ ?_ ?_ ?_ ?_ bV.out).mono ?_
   exact ca_ ((rr_ HO_268001.out).2.2)
   exact (rr_ HO_268001.out).2.1
   exact ca_ ((rr_ HO_268002.out).2.2)
   exact (rr_ HO_268002.out).2.1
   exact ca_ ((Kd.V_reads' HO_268003.out).2.2)
   exact (Kd.V_reads' HO_268003.out).2.1
   exact ca_ ((Kd.V_reads' HO_268004.out).2.2)
   exact (Kd.V_reads' HO_268004.out).2.1
   exact ca_ ((Kd.V_reads' HO_268005.out).2.2)
   exact (Kd.V_reads' HO_268005.out).2.1
   exact ca_ ((Kd.V_reads' HO_268007.out).2.2)
   exact (Kd.V_reads' HO_268007.out).2.1
   focus repeat (first | exact (by repeat (first | (with_reducible exact ag.out) | (with_reducible refine Kd.C_alloc ?_ _) | (with_reducible refine Kd.C_drewN ?_ _) | (with_reducible refine Kd.C_drew ?_) | exact ag.out)) | (with_reducible refine Kd.C_alloc ?_ _) | (with_reducible refine Kd.C_drewN ?_ _) | (with_reducible refine Kd.C_drew ?_))
   exact aZ.out
   rintro e w29 ⟨rfl, hb⟩
   have bd := (hb.cell (wl_ _ _ (hHeld.2.2.2.2.2.2.2.2))).trans (hHeld.2.2.2.2.2.2.2.2)
   refine ⟨_, rfl, ?_⟩
   replace HO_11 := a_ (Kd.N_below (vN_ HO_11.out) hb)
   replace HO_12 := a_ (Kd.N_below (vN_ HO_12.out) hb)
   replace HO_246003 := a_ (vb_ (vV_ HO_246003.out) hb)
   replace HO_246004 := a_ (vb_ (vV_ HO_246004.out) hb)
   replace HO_246005 := a_ (vb_ (vV_ HO_246005.out) hb)
   replace HO_246007 := a_ (vb_ (vV_ HO_246007.out) hb)
   replace HO_268001 := a_ (rb_ (vR_ HO_268001.out) hb)
   replace HO_268002 := a_ (rb_ (vR_ HO_268002.out) hb)
   replace HO_268003 := a_ (vb_ (vV_ HO_268003.out) hb)
   replace HO_268004 := a_ (vb_ (vV_ HO_268004.out) hb)
   replace HO_268005 := a_ (vb_ (vV_ HO_268005.out) hb)
   replace HO_268007 := a_ (vb_ (vV_ HO_268007.out) hb)
   replace s := a_ (bq_ s.out hb)
   replace y := a_ (bq_ y.out hb)
   replace HB := hq_ hb
   clear hb
   refine hK.out _ _ (cb8_ y.out (bd)) (fun hHeld => ?_)
   clear hK K
   refine nor_ (N := some 47) ?_
   refine pn_ 6 14 kr_ ?_
   refine done_ kr_ ?_
   have p273 : 0 ≤ (p : Int) := dq_
   have be : p < (z.length : Int) := dq_
   obtain ⟨bL, bw, c273_0, b5, a7, a8, br⟩ := at_L3 (Kd.N_reads' HO_11.out).2.2 p p273 be
   obtain rfl : F = bL := (by injection b5)
   obtain ⟨ce273, hce273, hMe273, hcc273⟩ := Kd.N_get HO_11.out [] p p273 (by first | exact be | exact dq_ | (have e_ := (Kd.N_reads' HO_11.out).1; omega))
   obtain ⟨ua273_0, uc273_0, rfl, a0, a1⟩ := Kd.FK_slice_open hMe273
   have aU := hcc273 0 _ rfl
   rw [Nat.add_zero, show ((Kd.slice 3 (Kd.int .i64))).sz = 1 from rfl, Nat.mul_one] at aU
   replace aU := si_ (aU.symm.trans a7)
   injection aU with hva_ hvn_ hvc_
   rw [hva_] at a1
   rw [hvc_] at a0
   have HL273_0 := a_ (show Kd.V (Kd.int .i64) 3 _ w.heap.size _ _ (rd_L3 z p) from Kd.V_mk a0 a1)
   clear hva_ hvn_ hvc_ a1 a0
   clear hcc273 hce273
   have b8 := a_ a8
   clear br a8
   replace p273 := et_ p273
   replace be := et_ be
   (have hq_ := a7.symm.trans bd); injection hq_ with hq_; injection hq_ with h1_ _ h3_; subst h1_; subst h3_
   try go_wp2_with (first | ((with_reducible refine gate_builtin (b := .append) (xs := #[.tmp 49, .tmp 54]) rfl ?_); at_builtin; refine Kd.N_append (Kd.slice 3 (Kd.int .i64)) (w0 := w) w.heap.size rfl (.tmp 49) (.tmp 54) 27 30 (.slice none 0 0) 24 rfl Tryz.underlying27 info30 rfl (by decide) (by omega) u12 ap (rd_L3 z p) [.slice bw (rd_L3 z p).length c273_0] (fun a => ((P0_3_ a ∨ P0_4_ a ∨ P0_5_ a ∨ P0_7_ a) ∨ w.heap.size ≤ a) ∧ some a ≠ (.slice (some F) z.length ak : Value).ownBlock ∧ some a ≠ (.slice q l.length r : Value).ownBlock ∧ some a ≠ (.slice u m.length v : Value).ownBlock ∧ a ≠ d ∧ a ≠ c) (fun a => ((fun a => ((P0_3_ a ∨ P0_4_ a ∨ P0_5_ a ∨ P0_7_ a) ∨ w.heap.size ≤ a) ∧ some a ≠ (.slice (some F) z.length ak : Value).ownBlock ∧ some a ≠ (.slice q l.length r : Value).ownBlock ∧ some a ≠ (.slice u m.length v : Value).ownBlock ∧ a ≠ d ∧ a ≠ c)) a ∧ some a ≠ u12.ownBlock) rfl rfl ?aP (fun _ hk => hk) ?aF ?aO ?aB ?aS ?aL ?_; (case aP => exact (Kd.FK_slice_mk (Kd.V_reads' (vm_ (ok' := (fun a => ((fun a => ((P0_3_ a ∨ P0_4_ a ∨ P0_5_ a ∨ P0_7_ a) ∨ w.heap.size ≤ a) ∧ some a ≠ (.slice (some F) z.length ak : Value).ownBlock ∧ some a ≠ (.slice q l.length r : Value).ownBlock ∧ some a ≠ (.slice u m.length v : Value).ownBlock ∧ a ≠ d ∧ a ≠ c)) a ∧ some a ≠ u12.ownBlock)) (HL273_0.out) (fun a hk => ⟨⟨hk.1.1, ⟨hk.2, ⟨hk.1.2.2.1, ⟨hk.1.2.2.2.1, ⟨hk.1.2.2.2.2.1, hk.1.2.2.2.2.2⟩⟩⟩⟩⟩, hk.1.2.1⟩))).2.1 (Kd.V_F (vm_ (ok' := (fun a => ((fun a => ((P0_3_ a ∨ P0_4_ a ∨ P0_5_ a ∨ P0_7_ a) ∨ w.heap.size ≤ a) ∧ some a ≠ (.slice (some F) z.length ak : Value).ownBlock ∧ some a ≠ (.slice q l.length r : Value).ownBlock ∧ some a ≠ (.slice u m.length v : Value).ownBlock ∧ a ≠ d ∧ a ≠ c)) a ∧ some a ≠ u12.ownBlock)) (HL273_0.out) (fun a hk => ⟨⟨hk.1.1, ⟨hk.2, ⟨hk.1.2.2.1, ⟨hk.1.2.2.2.1, ⟨hk.1.2.2.2.2.1, hk.1.2.2.2.2.2⟩⟩⟩⟩⟩, hk.1.2.1⟩))))); (case aB => exact bel_); (case aF => exact (fun a hk => ⟨(.inr (Nat.le_trans (bz_ bel_) hk)), fr_ (Kd.N_lt (vN_ HO_11.out)) a hk, fr_ (rl_ (vR_ HO_268001.out)) a hk, fr_ (rl_ (vR_ HO_268002.out)) a hk, Kd.freshB (bk_ s.out) a hk, Kd.freshB (bk_ y.out) a hk⟩)); (case aO => exact (vN_ HO_12.out)); (case aS => exact (bz_ bel_)); (case aL => have := LMc26.out; omega); intro co w30 ho hb hg hat; rw [← bK.out] at ho; replace HO_11 := a_ (Kd.N_afterv (ok := (fun a => ((P0_3_ a ∨ P0_4_ a ∨ P0_5_ a ∨ P0_7_ a) ∨ w.heap.size ≤ a) ∧ some a ≠ (.slice q l.length r : Value).ownBlock ∧ some a ≠ (.slice u m.length v : Value).ownBlock ∧ a ≠ d ∧ a ≠ c)) (by refine vN_ ?_; exact nm_ HO_11.out (fun _ hk => ⟨⟨hk.1, ⟨hk.2.2.1, ⟨hk.2.2.2.1, ⟨hk.2.2.2.2.1, hk.2.2.2.2.2⟩⟩⟩⟩, hk.2.1⟩)) hg hat); replace HO_246003 := a_ (Kd.V_afterv (ok := (fun a => ((P0_3_ a ∨ P0_4_ a ∨ P0_5_ a ∨ P0_7_ a) ∨ w.heap.size ≤ a) ∧ some a ≠ (.slice (some F) z.length ak : Value).ownBlock ∧ some a ≠ (.slice q l.length r : Value).ownBlock ∧ some a ≠ (.slice u m.length v : Value).ownBlock ∧ a ≠ d ∧ a ≠ c)) (by refine vV_ ?_; exact vm_ HO_246003.out (fun _ hk => ⟨⟨hk.1, ⟨hk.2.1, ⟨hk.2.2.2.1, ⟨hk.2.2.2.2.1, ⟨hk.2.2.2.2.2.1, hk.2.2.2.2.2.2⟩⟩⟩⟩⟩, hk.2.2.1⟩)) hg hat); replace HO_246004 := a_ (Kd.V_afterv (ok := (fun a => ((P0_3_ a ∨ P0_4_ a ∨ P0_5_ a ∨ P0_7_ a) ∨ w.heap.size ≤ a) ∧ some a ≠ (.slice (some F) z.length ak : Value).ownBlock ∧ some a ≠ (.slice q l.length r : Value).ownBlock ∧ some a ≠ (.slice u m.length v : Value).ownBlock ∧ a ≠ d ∧ a ≠ c)) (by refine vV_ ?_; exact vm_ HO_246004.out (fun _ hk => ⟨⟨hk.1, ⟨hk.2.1, ⟨hk.2.2.2.1, ⟨hk.2.2.2.2.1, ⟨hk.2.2.2.2.2.1, hk.2.2.2.2.2.2⟩⟩⟩⟩⟩, hk.2.2.1⟩)) hg hat); replace HO_246005 := a_ (Kd.V_afterv (ok := (fun a => ((P0_3_ a ∨ P0_4_ a ∨ P0_5_ a ∨ P0_7_ a) ∨ w.heap.size ≤ a) ∧ some a ≠ (.slice (some F) z.length ak : Value).ownBlock ∧ some a ≠ (.slice q l.length r : Value).ownBlock ∧ some a ≠ (.slice u m.length v : Value).ownBlock ∧ a ≠ d ∧ a ≠ c)) (by refine vV_ ?_; exact vm_ HO_246005.out (fun _ hk => ⟨⟨hk.1, ⟨hk.2.1, ⟨hk.2.2.2.1, ⟨hk.2.2.2.2.1, ⟨hk.2.2.2.2.2.1, hk.2.2.2.2.2.2⟩⟩⟩⟩⟩, hk.2.2.1⟩)) hg hat); replace HO_246007 := a_ (Kd.V_afterv (ok := (fun a => ((P0_3_ a ∨ P0_4_ a ∨ P0_5_ a ∨ P0_7_ a) ∨ w.heap.size ≤ a) ∧ some a ≠ (.slice (some F) z.length ak : Value).ownBlock ∧ some a ≠ (.slice q l.length r : Value).ownBlock ∧ some a ≠ (.slice u m.length v : Value).ownBlock ∧ a ≠ d ∧ a ≠ c)) (by refine vV_ ?_; exact vm_ HO_246007.out (fun _ hk => ⟨⟨hk.1, ⟨hk.2.1, ⟨hk.2.2.2.1, ⟨hk.2.2.2.2.1, ⟨hk.2.2.2.2.2.1, hk.2.2.2.2.2.2⟩⟩⟩⟩⟩, hk.2.2.1⟩)) hg hat); replace HO_268001 := a_ (Kd.R_over' (vR_ HO_268001.out) (Kd.N_typed (vN_ HO_12.out)) (by decide) hg); replace HO_268002 := a_ (Kd.R_over' (vR_ HO_268002.out) (Kd.N_typed (vN_ HO_12.out)) (by decide) hg); replace HO_268003 := a_ (Kd.V_afterv (ok := (fun a => ((P0_3_ a ∨ P0_4_ a ∨ P0_5_ a ∨ P0_7_ a) ∨ w.heap.size ≤ a) ∧ some a ≠ (.slice (some F) z.length ak : Value).ownBlock ∧ some a ≠ (.slice q l.length r : Value).ownBlock ∧ some a ≠ (.slice u m.length v : Value).ownBlock ∧ a ≠ d ∧ a ≠ c)) (by refine vV_ ?_; exact vm_ HO_268003.out (fun _ hk => ⟨⟨hk.1, ⟨hk.2.1, ⟨hk.2.2.2.1, ⟨hk.2.2.2.2.1, ⟨hk.2.2.2.2.2.1, hk.2.2.2.2.2.2⟩⟩⟩⟩⟩, hk.2.2.1⟩)) hg hat); replace HO_268004 := a_ (Kd.V_afterv (ok := (fun a => ((P0_3_ a ∨ P0_4_ a ∨ P0_5_ a ∨ P0_7_ a) ∨ w.heap.size ≤ a) ∧ some a ≠ (.slice (some F) z.length ak : Value).ownBlock ∧ some a ≠ (.slice q l.length r : Value).ownBlock ∧ some a ≠ (.slice u m.length v : Value).ownBlock ∧ a ≠ d ∧ a ≠ c)) (by refine vV_ ?_; exact vm_ HO_268004.out (fun _ hk => ⟨⟨hk.1, ⟨hk.2.1, ⟨hk.2.2.2.1, ⟨hk.2.2.2.2.1, ⟨hk.2.2.2.2.2.1, hk.2.2.2.2.2.2⟩⟩⟩⟩⟩, hk.2.2.1⟩)) hg hat); replace HO_268005 := a_ (Kd.V_afterv (ok := (fun a => ((P0_3_ a ∨ P0_4_ a ∨ P0_5_ a ∨ P0_7_ a) ∨ w.heap.size ≤ a) ∧ some a ≠ (.slice (some F) z.length ak : Value).ownBlock ∧ some a ≠ (.slice q l.length r : Value).ownBlock ∧ some a ≠ (.slice u m.length v : Value).ownBlock ∧ a ≠ d ∧ a ≠ c)) (by refine vV_ ?_; exact vm_ HO_268005.out (fun _ hk => ⟨⟨hk.1, ⟨hk.2.1, ⟨hk.2.2.2.1, ⟨hk.2.2.2.2.1, ⟨hk.2.2.2.2.2.1, hk.2.2.2.2.2.2⟩⟩⟩⟩⟩, hk.2.2.1⟩)) hg hat); replace HO_268007 := a_ (Kd.V_afterv (ok := (fun a => ((P0_3_ a ∨ P0_4_ a ∨ P0_5_ a ∨ P0_7_ a) ∨ w.heap.size ≤ a) ∧ some a ≠ (.slice (some F) z.length ak : Value).ownBlock ∧ some a ≠ (.slice q l.length r : Value).ownBlock ∧ some a ≠ (.slice u m.length v : Value).ownBlock ∧ a ≠ d ∧ a ≠ c)) (by refine vV_ ?_; exact vm_ HO_268007.out (fun _ hk => ⟨⟨hk.1, ⟨hk.2.1, ⟨hk.2.2.2.1, ⟨hk.2.2.2.2.1, ⟨hk.2.2.2.2.2.1, hk.2.2.2.2.2.2⟩⟩⟩⟩⟩, hk.2.2.1⟩)) hg hat); replace s := a_ (blk_grown (bk_ s.out) hg (Kd.N_ne HO_12.out s.out (by decide))); replace y := a_ (blk_grown (bk_ y.out) hg (Kd.N_ne HO_12.out y.out (by decide))); replace HB := a_ (hb); have bM := a_ (ho); clear HO_12; clear ho hb hg hat))
   go_roundg k2
   case measure => have := a5.out; have := bn.out; omega
   exact ⟨(bv), (wrap64 (p + 1)), eq_, H', ⟨by have := a5.out; have := bn.out; omega⟩, ⟨by refine vN_ ?_; exact nm_ HO_11.out (fun _ hk => ⟨hk.1.1, ⟨hk.2, ⟨hk.1.2.1, ⟨hk.1.2.2.1, ⟨hk.1.2.2.2.1, hk.1.2.2.2.2⟩⟩⟩⟩⟩)⟩, ⟨vN_ bM.out⟩, ⟨by refine vV_ ?_; exact vm_ HO_246003.out (fun _ hk => ⟨hk.1.1, ⟨hk.1.2.1, ⟨hk.2, ⟨hk.1.2.2.1, ⟨hk.1.2.2.2.1, ⟨hk.1.2.2.2.2.1, hk.1.2.2.2.2.2⟩⟩⟩⟩⟩⟩)⟩, ⟨by refine vV_ ?_; exact vm_ HO_246004.out (fun _ hk => ⟨hk.1.1, ⟨hk.1.2.1, ⟨hk.2, ⟨hk.1.2.2.1, ⟨hk.1.2.2.2.1, ⟨hk.1.2.2.2.2.1, hk.1.2.2.2.2.2⟩⟩⟩⟩⟩⟩)⟩, ⟨by refine vV_ ?_; exact vm_ HO_246005.out (fun _ hk => ⟨hk.1.1, ⟨hk.1.2.1, ⟨hk.2, ⟨hk.1.2.2.1, ⟨hk.1.2.2.2.1, ⟨hk.1.2.2.2.2.1, hk.1.2.2.2.2.2⟩⟩⟩⟩⟩⟩)⟩, ⟨by refine vV_ ?_; exact vm_ HO_246007.out (fun _ hk => ⟨hk.1.1, ⟨hk.1.2.1, ⟨hk.2, ⟨hk.1.2.2.1, ⟨hk.1.2.2.2.1, ⟨hk.1.2.2.2.2.1, hk.1.2.2.2.2.2⟩⟩⟩⟩⟩⟩)⟩, ⟨vR_ HO_268001.out⟩, ⟨vR_ HO_268002.out⟩, ⟨by refine vV_ ?_; exact vm_ HO_268003.out (fun _ hk => ⟨hk.1.1, ⟨hk.1.2.1, ⟨hk.2, ⟨hk.1.2.2.1, ⟨hk.1.2.2.2.1, ⟨hk.1.2.2.2.2.1, hk.1.2.2.2.2.2⟩⟩⟩⟩⟩⟩)⟩, ⟨by refine vV_ ?_; exact vm_ HO_268004.out (fun _ hk => ⟨hk.1.1, ⟨hk.1.2.1, ⟨hk.2, ⟨hk.1.2.2.1, ⟨hk.1.2.2.2.1, ⟨hk.1.2.2.2.2.1, hk.1.2.2.2.2.2⟩⟩⟩⟩⟩⟩)⟩, ⟨by refine vV_ ?_; exact vm_ HO_268005.out (fun _ hk => ⟨hk.1.1, ⟨hk.1.2.1, ⟨hk.2, ⟨hk.1.2.2.1, ⟨hk.1.2.2.2.1, ⟨hk.1.2.2.2.2.1, hk.1.2.2.2.2.2⟩⟩⟩⟩⟩⟩)⟩, ⟨by refine vV_ ?_; exact vm_ HO_268007.out (fun _ hk => ⟨hk.1.1, ⟨hk.1.2.1, ⟨hk.2, ⟨hk.1.2.2.1, ⟨hk.1.2.2.2.1, ⟨hk.1.2.2.2.2.1, hk.1.2.2.2.2.2⟩⟩⟩⟩⟩⟩)⟩, ⟨bk_ s.out⟩, ⟨bk_ y.out⟩, ⟨bel_⟩⟩

end Go.Proofs.YtckfbfdnlpnllaaGreatDoor.XAllDiffFilters
