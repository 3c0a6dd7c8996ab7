import Derived.Test.YtijjhobjmehhoaaGreatDoorXGKex0
import Derived.Test.YtijjhobjmehhoaaGreatDoorXGKex24
import Derived.Test.YtijjhobjmehhoaaGreatDoorXGKex26
import Derived.Test.YtijjhobjmehhoaaGreatDoorSq
namespace Go.Proofs.YtijjhobjmehhoaaGreatDoor.XGccKeeps
open Go.RowKit Go.Proofs.YtijjhobjmehhoaaGreatDoor.Sq Go.Proofs.YtijjhobjmehhoaaGreatDoorW.PrintWords Go.Proofs.YtijjhobjmehhoaaGreatDoorW.PrintLast Go.Proofs.YtijjhobjmehhoaaGreatDoorW.PrintMore
attribute [local go_sem] max2_int min2_int max_two min_two max_three min_three max_four min_four
set_option linter.unusedVariables false
set_option linter.unusedSimpArgs false

mutual
def jigsawref10_Solutions.l0 : Nat → List (List Int) → Int → Int → Int → Int → List Int → List Int → List Int → List Int → List Int → Int → List (List Int) → Option ((List (List Int)) × Bool)
 | 0, _, _, _, _, _, _, _, _, _, _, _, _ => none
 | k + 1, o, q, s, p, b, c, d, e, g, l, m, n => if p < (o.length : Int) then (if 0 ≤ p then (if (wrap64 (s * ((rd_L7 o p).length : Int))) > q then (some (([] : List (List Int)), false)) else (jigsawref10_Solutions.l0 k o q (wrap64 (s * ((rd_L7 o p).length : Int))) (wrap64 (p + 1)) b c d e g l m n)) else (none)) else ((jigsawref10_Local.f k b c d e g l m n).bind fun a => ((jigsawref09_Product.f k o q).bind fun r => (jigsawref10_Solutions.l1 k r ([] : List (List Int)) 0 a.1 a.2.1 a.2.2.1 a.2.2.2.1 a.2.2.2.2.1 a.2.2.2.2.2.1 a.2.2.2.2.2.2.1 a.2.2.2.2.2.2.2)))
def jigsawref10_Solutions.l1 : Nat → List (List Int) → List (List Int) → Int → Int → List Int → List Int → List Int → List Int → List Int → Int → List (List Int) → Option ((List (List Int)) × Bool)
 | 0, _, _, _, _, _, _, _, _, _, _, _ => none
 | k + 1, o, p, n, a, b, c, d, e, g, l, m => if n < (o.length : Int) then (if 0 ≤ n then ((jigsawref09_Holds.f k a b c d e g l m (rd_L7 o n)).bind fun q => (if q = true then (if p.length < 5864062014805 then (jigsawref10_Solutions.l1 k o (p ++ [rd_L7 o n]) (wrap64 (n + 1)) a b c d e g l m) else (none)) else (jigsawref10_Solutions.l1 k o p (wrap64 (n + 1)) a b c d e g l m))) else (none)) else (some (p, true))
end
def jigsawref10_Solutions.f (k : Nat) (a : Int) (b : List Int) (c : List Int) (d : List Int) (e : List Int) (g : List Int) (l : Int) (m : List (List Int)) (n : List (List Int)) (o : Int) : Option ((List (List Int)) × Bool) := jigsawref10_Solutions.l0 k n o 1 0 a b c d e g l m
theorem jigsawref10_Solutions.mono_l : ∀ k, (∀ b c d e f g l m n o a p, LeO (jigsawref10_Solutions.l0 k b c d e f g l m n o a p) (jigsawref10_Solutions.l0 (k + 1) b c d e f g l m n o a p)) ∧ (∀ b c d e f g l m n o a, LeO (jigsawref10_Solutions.l1 k b c d e f g l m n o a) (jigsawref10_Solutions.l1 (k + 1) b c d e f g l m n o a))
 | 0 => by refine ⟨?_, ?_⟩ <;> (intros; exact LeO.none _)
 | k + 1 => by
  obtain ⟨ih0, ih1⟩ := jigsawref10_Solutions.mono_l k
  have m0 := @jigsawref09_Holds.mono
  have m1 := @jigsawref09_Product.mono
  have m2 := @jigsawref10_Local.mono
  refine ⟨?_, ?_⟩ <;> intros
  all_goals first | unfold jigsawref10_Solutions.l0 | unfold jigsawref10_Solutions.l1
  all_goals exact leo_
theorem jigsawref10_Solutions.mono : ∀ a b c d e g l m n o k, LeO (jigsawref10_Solutions.f k a b c d e g l m n o) (jigsawref10_Solutions.f (k + 1) a b c d e g l m n o) := by
 intro a b c d e g l m n o k
 obtain ⟨ih0, ih1⟩ := jigsawref10_Solutions.mono_l k
 unfold jigsawref10_Solutions.f
 have m0 := @jigsawref09_Holds.mono
 have m1 := @jigsawref09_Product.mono
 have m2 := @jigsawref10_Local.mono
 exact leo_
set_option maxHeartbeats 8000000 in
set_option maxRecDepth 100000 in
theorem jigsawref10_Solutions.calls (k : Nat) (aq : Int) (aE : Option Addr) (c0_1 : Nat) (ae : List Int) (aG : Option Addr) (c0_2 : Nat) (af : List Int) (P0_3_ : Nat → Prop) (al : Option Addr) (c0_3 : Nat) (J : List Int) (P0_4_ : Nat → Prop) (am : Option Addr) (c0_4 : Nat) (O : List Int) (P0_5_ : Nat → Prop) (an : Option Addr) (c0_5 : Nat) (P : List Int) (ar : Int) (P0_7_ : Nat → Prop) (ao : Option Addr) (c0_7 : Nat) (Q : List (List Int)) (A1 : Option Addr) (c1 : Nat) (l1 : List (List Int)) (a2 : Int) (r1 : List (List Int)) (r2 : Bool) (w : World) (bj : Kd.C (Kd.int .i64) w aE ae.length ae) (bk : ae.length ≤ c0_1) (bl : Kd.C (Kd.int .i64) w aG af.length af) (bm : af.length ≤ c0_2) (bx : Kd.V (Kd.int .i64) 3 w w.heap.size (fun a => P0_3_ a) (.slice al J.length c0_3) J) (bz : Kd.V (Kd.int .i64) 3 w w.heap.size (fun a => P0_4_ a) (.slice am O.length c0_4) O) (bA : Kd.V (Kd.int .i64) 3 w w.heap.size (fun a => P0_5_ a) (.slice an P.length c0_5) P) (bB : Kd.V (Kd.slice 3 (Kd.int .i64)) 30 w w.heap.size (fun a => P0_7_ a) (.slice ao Q.length c0_7) Q) (bN : Kd.C (Kd.slice 3 (Kd.int .i64)) w A1 l1.length l1) (bO : l1.length ≤ c1) (h : jigsawref10_Solutions.f k aq ae af J O P ar Q l1 a2 = some (r1, r2)) :
  Calls Tryz.prog 24 #[.agg #[.int .i64 aq, .slice aE ae.length c0_1, .slice aG af.length c0_2, .slice al J.length c0_3, .slice am O.length c0_4, .slice an P.length c0_5, .int .i64 ar, .slice ao Q.length c0_7], .slice A1 l1.length c1, .int .i64 a2] w fun e w' => ∃ bP : Value, e = .returned (.tuple #[bP, .bool r2]) ∧ Kd.N (Kd.slice 3 (Kd.int .i64)) 30 w' w.heap.size (fun a => ((P0_3_ a ∨ P0_4_ a ∨ P0_5_ a ∨ P0_7_ a) ∨ w.heap.size ≤ a)) bP r1 ∧ Below w.heap.size w w' := by
 have hu32 := Tryz.underlying32
 have bC := a_ bj
 have bD := a_ bk
 clear bj bk
 have bE := a_ bl
 have bF := a_ bm
 clear bl bm
 have a9 := a_ (show Kd.V (Kd.int .i64) 3 w w.heap.size (fun a => ((P0_3_ a ∨ P0_4_ a ∨ P0_5_ a ∨ P0_7_ a) ∨ w.heap.size ≤ a)) (.slice al J.length c0_3) J from vm_ bx (fun a hk => .inl (.inl hk)))
 have ba := a_ (show Kd.V (Kd.int .i64) 3 w w.heap.size (fun a => ((P0_3_ a ∨ P0_4_ a ∨ P0_5_ a ∨ P0_7_ a) ∨ w.heap.size ≤ a)) (.slice am O.length c0_4) O from vm_ bz (fun a hk => .inl (.inr (.inl hk))))
 have bb := a_ (show Kd.V (Kd.int .i64) 3 w w.heap.size (fun a => ((P0_3_ a ∨ P0_4_ a ∨ P0_5_ a ∨ P0_7_ a) ∨ w.heap.size ≤ a)) (.slice an P.length c0_5) P from vm_ bA (fun a hk => .inl (.inr (.inr (.inl hk)))))
 have bc := a_ (show Kd.V (Kd.slice 3 (Kd.int .i64)) 30 w w.heap.size (fun a => ((P0_3_ a ∨ P0_4_ a ∨ P0_5_ a ∨ P0_7_ a) ∨ w.heap.size ≤ a)) (.slice ao Q.length c0_7) Q from vm_ bB (fun a hk => .inl (.inr (.inr (.inr hk)))))
 have bs := a_ bN
 have b9 := a_ bO
 clear bN bO
 have HB := a_ (Below.refl w.heap.size w)
 unfold jigsawref10_Solutions.f at h
 have H := h
 clear h
 have H' := a_ H
 clear H
 go_enter Tryz.func24, Tryz.ntmps24
 go_wp2_with (first | ((with_reducible refine gate_dst (N := 3) rfl ?_); refine bxe_ (N := 3) (cs := #[.int .i64 aq, .slice aE ae.length c0_1, .slice aG af.length c0_2, .slice al J.length c0_3, .slice am O.length c0_4, .slice an P.length c0_5, .int .i64 ar, .slice ao Q.length c0_7]) (t := 32) ?_; intro d hg w4 hbox hb; replace a9 := a_ (vb_ (Kd.V_elderB (vV_ a9.out) d (Nat.le_of_eq hg.symm)) hb); replace ba := a_ (vb_ (Kd.V_elderB (vV_ ba.out) d (Nat.le_of_eq hg.symm)) hb); replace bb := a_ (vb_ (Kd.V_elderB (vV_ bb.out) d (Nat.le_of_eq hg.symm)) hb); replace bc := a_ (vb_ (Kd.V_elderB (vV_ bc.out) d (Nat.le_of_eq hg.symm)) hb); have v := a_ (hbox); have bG := a_ (by rw [hg]; exact (bz_ bel_) : w.heap.size ≤ d); have cb := bG; replace HB := hq_ hb; clear hb hbox hg))
 go_loopg [8, 9] k (fun kq v8 v9 w' => ∃ (aW : Int) (G : Int), v8 = .int .i64 aW ∧ v9 = .int .i64 G ∧ Aside0 (jigsawref10_Solutions.l0 kq l1 a2 aW G aq ae af J O P ar Q = some (r1, r2)) ∧ Aside0 (kq ≤ k) ∧ Aside0 (Kd.V (Kd.int .i64) 3 w' w.heap.size (fun a => ((P0_3_ a ∨ P0_4_ a ∨ P0_5_ a ∨ P0_7_ a) ∨ w.heap.size ≤ a) ∧ a ≠ d) (.slice al J.length c0_3) J) ∧ Aside0 (Kd.V (Kd.int .i64) 3 w' w.heap.size (fun a => ((P0_3_ a ∨ P0_4_ a ∨ P0_5_ a ∨ P0_7_ a) ∨ w.heap.size ≤ a) ∧ a ≠ d) (.slice am O.length c0_4) O) ∧ Aside0 (Kd.V (Kd.int .i64) 3 w' w.heap.size (fun a => ((P0_3_ a ∨ P0_4_ a ∨ P0_5_ a ∨ P0_7_ a) ∨ w.heap.size ≤ a) ∧ a ≠ d) (.slice an P.length c0_5) P) ∧ Aside0 (Kd.V (Kd.slice 3 (Kd.int .i64)) 30 w' w.heap.size (fun a => ((P0_3_ a ∨ P0_4_ a ∨ P0_5_ a ∨ P0_7_ a) ∨ w.heap.size ≤ a) ∧ a ≠ d) (.slice ao Q.length c0_7) Q) ∧ Aside0 (w'.heap[d]? = some (.cells #[.int .i64 aq, (.slice aE ae.length c0_1), (.slice aG af.length c0_2), (.slice al J.length c0_3), (.slice am O.length c0_4), (.slice an P.length c0_5), .int .i64 ar, (.slice ao Q.length c0_7)] 32 (0, 0))) ∧ Aside0 (Below w.heap.size w w'))
 case atStart => exact ⟨(1), (0), eq_, eq_, H', ⟨lr_ _⟩, ⟨vV_ a9.out⟩, ⟨vV_ ba.out⟩, ⟨vV_ bb.out⟩, ⟨vV_ bc.out⟩, ⟨bk_ v.out⟩, ⟨bel_⟩⟩
 clear H'
 try clear c1
 try clear c2
 try clear p2
 obtain ⟨aW, G, rfl, rfl, HA, a5, HO_659003, HO_659004, HO_659005, HO_659007, v, HB⟩ := hrel
 cases gk with
 | zero => exact absurd HA.out (by simp [jigsawref10_Solutions.l0])
 | succ k1 =>
  have H := HA.out
  clear HA
  simp only [jigsawref10_Solutions.l0] at H
  by_cases c5 : G < (l1.length : Int)
  ·
   rw [ip_ c5] at H
   have c5b0 : decide (G < (l1.length : Int)) = true := dt_ c5
   clear c5
   by_cases c6 : 0 ≤ G
   rotate_left
   ·
    rw [ig_ c6] at H
    exact ab_ H
   rw [ip_ c6] at H
   have c6b0 : decide (0 ≤ G) = true := dt_ c6
   clear c6
   by_cases c7 : (wrap64 (aW * ((rd_L7 l1 G).length : Int))) > a2
   ·
    rw [ip_ c7] at H
    have c7b0 : decide (a2 < (wrap64 (aW * ((rd_L7 l1 G).length : Int)))) = true := dt_ c7
    clear c7
    simp only [Option.some.injEq, Prod.mk.injEq] at H
    obtain ⟨rfl, rfl⟩ := H
    have p659 : 0 ≤ (G : Int) := dq_
    have aI : G < (l1.length : Int) := dq_
    obtain ⟨bH, bu, c659_0, bh, aa, av, aY⟩ := at_L7 bs.out G p659 aI
    cases bh
    replace aa := hx_ HB aa
    have bq := a_ av
    clear aY av
    replace p659 := et_ p659
    replace aI := et_ aI
    go_wp2
    go_ret2
    exact ⟨_, er_, by first | exact Kd.S_nil _ _ _ _ _ | exact Kd.N_nil _ _ _ _ _ | exact Kd.V_nil _ _ _ _ _ | exact Kd.Q_nil _ _ _ _ _ | exact Kd.R_nil _ _ _ _ _, bel_⟩
   rw [ig_ c7] at H
   have c7b0 : decide (a2 < (wrap64 (aW * ((rd_L7 l1 G).length : Int)))) = false := df_ c7
   clear c7
   have H' := a_ H
   clear H
   have p659 : 0 ≤ (G : Int) := dq_
   have aI : G < (l1.length : Int) := dq_
   obtain ⟨bH, bu, c659_0, bh, aa, av, aY⟩ := at_L7 bs.out G p659 aI
   cases bh
   replace aa := hx_ HB aa
   have bq := a_ av
   clear aY av
   replace p659 := et_ p659
   replace aI := et_ aI
   go_wp2
   go_roundg k1
   case measure => have := a5.out; omega
   exact ⟨(wrap64 (aW * ((rd_L7 l1 G).length : Int))), (wrap64 (G + 1)), eq_, eq_, H', ⟨by have := a5.out; omega⟩, ⟨vV_ HO_659003.out⟩, ⟨vV_ HO_659004.out⟩, ⟨vV_ HO_659005.out⟩, ⟨vV_ HO_659007.out⟩, ⟨bk_ v.out⟩, ⟨bel_⟩⟩
  rw [ig_ c5] at H
  have c5b0 : decide (G < (l1.length : Int)) = false := df_ c5
  clear c5
  replace H := bs_.mp H
  obtain ⟨⟨A, l, m, B, F, I, Y, Z⟩, bQ, H⟩ := H
  try dsimp only at H
  have A8 := a_ bQ
  clear bQ
  replace H := bo_ H
  obtain ⟨z, A9, H⟩ := H
  try dsimp only at H
  have H' := a_ H
  clear H
  obtain ⟨_, _, _, _, _, _, _, _, _, _, _, _, _, _, _, _⟩ := cel8_ v.out
  go_wp2_with (first | ((with_reducible refine gate_callee (f := 19) rfl ?_); refine goesL_ (some 32) rfl rfl Tryz.func19 kr_ rfl #[.agg #[.int .i64 aq, .slice aE ae.length c0_1, .slice aG af.length c0_2, .slice al J.length c0_3, .slice am O.length c0_4, .slice an P.length c0_5, .int .i64 ar, .slice ao Q.length c0_7]] rfl ar_ ?_; (with_reducible refine (jigsawref10_Local.calls k1 aq _ _ ae _ _ af (fun a => (((P0_3_ a ∨ P0_4_ a ∨ P0_5_ a ∨ P0_7_ a) ∨ w.heap.size ≤ a) ∧ a ≠ d)) _ _ J (fun a => (((P0_3_ a ∨ P0_4_ a ∨ P0_5_ a ∨ P0_7_ a) ∨ w.heap.size ≤ a) ∧ a ≠ d)) _ _ O (fun a => (((P0_3_ a ∨ P0_4_ a ∨ P0_5_ a ∨ P0_7_ a) ∨ w.heap.size ≤ a) ∧ a ≠ d)) _ _ P ar (fun a => (((P0_3_ a ∨ P0_4_ a ∨ P0_5_ a ∨ P0_7_ a) ∨ w.heap.size ≤ a) ∧ a ≠ d)) _ _ Q A l m B F I Y Z _ ?_ ?_ ?_ ?_ ?_ ?_ ?_ ?_ A8.out).mono ?_); exact ca_ ((cb_ bC.out HB.out)); exact bD.out; exact ca_ ((cb_ bE.out HB.out)); exact bF.out; exact HO_659003.out; exact HO_659004.out; exact HO_659005.out; exact HO_659007.out; rintro e w11 ⟨a3, a4, cj, ck, cl, cm, rfl, ai, a6, bR, bS, bT, bU, hb⟩; refine ⟨_, rfl, ?_⟩; replace HO_659003 := a_ (vm_ (Kd.V_told (Kd.V_told (Kd.V_old (vV_ HO_659003.out) hb) (rs_ ai)) (rs_ a6)) (fun _ h_ => h_.1)); replace HO_659004 := a_ (vm_ (Kd.V_told (Kd.V_told (Kd.V_old (vV_ HO_659004.out) hb) (rs_ ai)) (rs_ a6)) (fun _ h_ => h_.1)); replace HO_659005 := a_ (vm_ (Kd.V_told (Kd.V_told (Kd.V_old (vV_ HO_659005.out) hb) (rs_ ai)) (rs_ a6)) (fun _ h_ => h_.1)); replace HO_659007 := a_ (vm_ (Kd.V_told (Kd.V_told (Kd.V_old (vV_ HO_659007.out) hb) (rs_ ai)) (rs_ a6)) (fun _ h_ => h_.1)); have aA := a_ (Kd.R_lower (Kd.R_newM (M := fun a => (w.heap.size ≤ a)) (rm_ (ok' := fun a => some a ≠ a4.ownBlock) ai (fun _ hk_ => hk_.2)) (bz_ bel_) (fun a h_ => h_)) (bz_ bel_)); have aC := a_ (Kd.R_lower (Kd.R_newM (M := fun a => (w.heap.size ≤ a)) (rm_ (ok' := fun a => some a ≠ a3.ownBlock) a6 (fun _ hk_ => hk_.2)) (bz_ bel_) (fun a h_ => h_)) (bz_ bel_)); have aN := a_ (Kd.V_lower (vm_ (ok' := fun a => ((P0_3_ a ∨ P0_4_ a ∨ P0_5_ a ∨ P0_7_ a) ∨ w.heap.size ≤ a) ∧ some a ≠ a3.ownBlock ∧ some a ≠ a4.ownBlock ∧ a ≠ d) bR (fun a hk_ => ⟨Or.elim hk_.1 (fun hs_ => Or.elim hs_ (fun hs_ => hs_.1) (fun hs_ => Or.elim hs_ (fun hs_ => hs_.1) (fun hs_ => Or.elim hs_ (fun hs_ => hs_.1) (fun hs_ => hs_.1)))) (fun hn_ => (.inr (Nat.le_trans (bz_ bel_) hn_))), hk_.2.1, hk_.2.2, Or.elim hk_.1 (fun hs_ => Or.elim hs_ (fun hs_ => hs_.2) (fun hs_ => Or.elim hs_ (fun hs_ => hs_.2) (fun hs_ => Or.elim hs_ (fun hs_ => hs_.2) (fun hs_ => hs_.2)))) (fun hn_ => (Kd.freshB (bk_ v.out) a hn_))⟩)) (bz_ bel_)); have aQ := a_ (Kd.V_lower (vm_ (ok' := fun a => ((P0_3_ a ∨ P0_4_ a ∨ P0_5_ a ∨ P0_7_ a) ∨ w.heap.size ≤ a) ∧ some a ≠ a3.ownBlock ∧ some a ≠ a4.ownBlock ∧ a ≠ d) bS (fun a hk_ => ⟨Or.elim hk_.1 (fun hs_ => Or.elim hs_ (fun hs_ => hs_.1) (fun hs_ => Or.elim hs_ (fun hs_ => hs_.1) (fun hs_ => Or.elim hs_ (fun hs_ => hs_.1) (fun hs_ => hs_.1)))) (fun hn_ => (.inr (Nat.le_trans (bz_ bel_) hn_))), hk_.2.1, hk_.2.2, Or.elim hk_.1 (fun hs_ => Or.elim hs_ (fun hs_ => hs_.2) (fun hs_ => Or.elim hs_ (fun hs_ => hs_.2) (fun hs_ => Or.elim hs_ (fun hs_ => hs_.2) (fun hs_ => hs_.2)))) (fun hn_ => (Kd.freshB (bk_ v.out) a hn_))⟩)) (bz_ bel_)); have aR := a_ (Kd.V_lower (vm_ (ok' := fun a => ((P0_3_ a ∨ P0_4_ a ∨ P0_5_ a ∨ P0_7_ a) ∨ w.heap.size ≤ a) ∧ some a ≠ a3.ownBlock ∧ some a ≠ a4.ownBlock ∧ a ≠ d) bT (fun a hk_ => ⟨Or.elim hk_.1 (fun hs_ => Or.elim hs_ (fun hs_ => hs_.1) (fun hs_ => Or.elim hs_ (fun hs_ => hs_.1) (fun hs_ => Or.elim hs_ (fun hs_ => hs_.1) (fun hs_ => hs_.1)))) (fun hn_ => (.inr (Nat.le_trans (bz_ bel_) hn_))), hk_.2.1, hk_.2.2, Or.elim hk_.1 (fun hs_ => Or.elim hs_ (fun hs_ => hs_.2) (fun hs_ => Or.elim hs_ (fun hs_ => hs_.2) (fun hs_ => Or.elim hs_ (fun hs_ => hs_.2) (fun hs_ => hs_.2)))) (fun hn_ => (Kd.freshB (bk_ v.out) a hn_))⟩)) (bz_ bel_)); have aT := a_ (Kd.V_lower (vm_ (ok' := fun a => ((P0_3_ a ∨ P0_4_ a ∨ P0_5_ a ∨ P0_7_ a) ∨ w.heap.size ≤ a) ∧ some a ≠ a3.ownBlock ∧ some a ≠ a4.ownBlock ∧ a ≠ d) bU (fun a hk_ => ⟨Or.elim hk_.1 (fun hs_ => Or.elim hs_ (fun hs_ => hs_.1) (fun hs_ => Or.elim hs_ (fun hs_ => hs_.1) (fun hs_ => Or.elim hs_ (fun hs_ => hs_.1) (fun hs_ => hs_.1)))) (fun hn_ => (.inr (Nat.le_trans (bz_ bel_) hn_))), hk_.2.1, hk_.2.2, Or.elim hk_.1 (fun hs_ => Or.elim hs_ (fun hs_ => hs_.2) (fun hs_ => Or.elim hs_ (fun hs_ => hs_.2) (fun hs_ => Or.elim hs_ (fun hs_ => hs_.2) (fun hs_ => hs_.2)))) (fun hn_ => (Kd.freshB (bk_ v.out) a hn_))⟩)) (bz_ bel_)); replace v := a_ (bq_ v.out hb); replace HB := hq_ hb; clear hb ai a6 bR bS bT bU) | ((with_reducible refine gate_dst (N := 10) rfl ?_); refine bxe_ (N := 10) (cs := #[.int .i64 0, .slice none 0 0, .slice none 0 0, .slice none 0 0, .slice none 0 0, .slice none 0 0, .int .i64 0, .slice none 0 0]) (t := 32) ?_; intro c hg w12 hbox hb; replace HO_659003 := a_ (vb_ (Kd.V_elderB (vV_ HO_659003.out) c (Nat.le_of_eq hg.symm)) hb); replace HO_659004 := a_ (vb_ (Kd.V_elderB (vV_ HO_659004.out) c (Nat.le_of_eq hg.symm)) hb); replace HO_659005 := a_ (vb_ (Kd.V_elderB (vV_ HO_659005.out) c (Nat.le_of_eq hg.symm)) hb); replace HO_659007 := a_ (vb_ (Kd.V_elderB (vV_ HO_659007.out) c (Nat.le_of_eq hg.symm)) hb); replace aA := a_ (rb_ (vR_ aA.out) hb); replace aC := a_ (rb_ (vR_ aC.out) hb); replace aN := a_ (vb_ (Kd.V_elderB (vV_ aN.out) c (Nat.le_of_eq hg.symm)) hb); replace aQ := a_ (vb_ (Kd.V_elderB (vV_ aQ.out) c (Nat.le_of_eq hg.symm)) hb); replace aR := a_ (vb_ (Kd.V_elderB (vV_ aR.out) c (Nat.le_of_eq hg.symm)) hb); replace aT := a_ (vb_ (Kd.V_elderB (vV_ aT.out) c (Nat.le_of_eq hg.symm)) hb); have y := a_ (hbox); have bI := a_ (by rw [hg]; exact (bz_ bel_) : w.heap.size ≤ c); have cc := bI; replace HB := hq_ hb; have x := a_ ((by rw [hg]; exact Nat.ne_of_lt (blk_lt (bk_ v.out)) : d ≠ c)); have bg := a_ ((by rw [hg]; exact Nat.ne_of_gt (blk_lt (bk_ v.out)) : c ≠ d)); replace v := a_ (bq_ v.out hb); clear hb hbox hg; have cd := bg.out; have ce := x.out; obtain ⟨_, _, _, _, _, _, _, _, _, _, _, _, _, _, _, _⟩ := cel8_ y.out; obtain ⟨p, q, bX⟩ := Kd.R_slice aA.out; subst bX; obtain ⟨s, u, bY⟩ := Kd.R_slice aC.out; subst bY; obtain ⟨W, X, bZ⟩ := Kd.V_slice aN.out; subst bZ; obtain ⟨ab, ac, b0⟩ := Kd.V_slice aQ.out; subst b0; obtain ⟨aj, ak, b1⟩ := Kd.V_slice aR.out; subst b1; obtain ⟨aJ, aK, b2⟩ := Kd.V_slice aT.out; subst b2) | ((with_reducible refine gate_callee (f := 52) rfl ?_); refine goesL_ (some 35) rfl rfl Tryz.func52 kr_ rfl #[.slice A1 l1.length c1, .int .i64 a2] rfl ar_ ?_; (with_reducible refine (jigsawref09_Product.calls k1 _ _ l1 a2 z _ ?_ ?_ A9.out).mono ?_); exact cb_ bs.out bel_; exact b9.out; rintro e w21 ⟨au, rfl, ai, hb⟩; refine ⟨_, rfl, ?_⟩; replace HO_659003 := a_ (Kd.V_elder' (by refine vV_ ?_; exact (vm_ (fV_ (fV_ (fV_ (fV_ (fV_ (fV_ (fV_ (fV_ (vm_ HO_659003.out (fun a hk => (⟨hk, hk.2⟩ : _ ∧ a ≠ c))))))))))) (fun _ h_ => h_.1))) (Kd.N_base (Kd.S_N ai)) hb); replace HO_659004 := a_ (Kd.V_elder' (by refine vV_ ?_; exact (vm_ (fV_ (fV_ (fV_ (fV_ (fV_ (fV_ (fV_ (fV_ (vm_ HO_659004.out (fun a hk => (⟨hk, hk.2⟩ : _ ∧ a ≠ c))))))))))) (fun _ h_ => h_.1))) (Kd.N_base (Kd.S_N ai)) hb); replace HO_659005 := a_ (Kd.V_elder' (by refine vV_ ?_; exact (vm_ (fV_ (fV_ (fV_ (fV_ (fV_ (fV_ (fV_ (fV_ (vm_ HO_659005.out (fun a hk => (⟨hk, hk.2⟩ : _ ∧ a ≠ c))))))))))) (fun _ h_ => h_.1))) (Kd.N_base (Kd.S_N ai)) hb); replace HO_659007 := a_ (Kd.V_elder' (by refine vV_ ?_; exact (vm_ (fV_ (fV_ (fV_ (fV_ (fV_ (fV_ (fV_ (fV_ (vm_ HO_659007.out (fun a hk => (⟨hk, hk.2⟩ : _ ∧ a ≠ c))))))))))) (fun _ h_ => h_.1))) (Kd.N_base (Kd.S_N ai)) hb); replace aN := a_ (Kd.V_elder' (by refine vV_ ?_; exact (vm_ (fV_ (fV_ (fV_ (fV_ (fV_ (fV_ (fV_ (fV_ (vm_ aN.out (fun a hk => (⟨hk, hk.2⟩ : _ ∧ a ≠ c))))))))))) (fun _ h_ => h_.1))) (Kd.N_base (Kd.S_N ai)) hb); replace aQ := a_ (Kd.V_elder' (by refine vV_ ?_; exact (vm_ (fV_ (fV_ (fV_ (fV_ (fV_ (fV_ (fV_ (fV_ (vm_ aQ.out (fun a hk => (⟨hk, hk.2⟩ : _ ∧ a ≠ c))))))))))) (fun _ h_ => h_.1))) (Kd.N_base (Kd.S_N ai)) hb); replace aR := a_ (Kd.V_elder' (by refine vV_ ?_; exact (vm_ (fV_ (fV_ (fV_ (fV_ (fV_ (fV_ (fV_ (fV_ (vm_ aR.out (fun a hk => (⟨hk, hk.2⟩ : _ ∧ a ≠ c))))))))))) (fun _ h_ => h_.1))) (Kd.N_base (Kd.S_N ai)) hb); replace aT := a_ (Kd.V_elder' (by refine vV_ ?_; exact (vm_ (fV_ (fV_ (fV_ (fV_ (fV_ (fV_ (fV_ (fV_ (vm_ aT.out (fun a hk => (⟨hk, hk.2⟩ : _ ∧ a ≠ c))))))))))) (fun _ h_ => h_.1))) (Kd.N_base (Kd.S_N ai)) hb); have bJ := a_ (Kd.N_lower (nm_ (ok' := fun a => ((P0_3_ a ∨ P0_4_ a ∨ P0_5_ a ∨ P0_7_ a) ∨ w.heap.size ≤ a) ∧ some a ≠ (.slice p l.length q : Value).ownBlock ∧ some a ≠ (.slice s m.length u : Value).ownBlock ∧ a ≠ d ∧ a ≠ c) (Kd.S_N (Kd.S_bound ai)) (fun a hk_ => ⟨(.inr (Nat.le_trans (bz_ bel_) hk_.2.1)), (fr_ (rl_ (by refine vR_ ?_; exact (rm_ (fR_ (fR_ (fR_ (fR_ (fR_ (fR_ (fR_ (fR_ (rt_ aA.out y.out (by decide)))))))))) (fun _ h_ => h_.1)))) a hk_.2.1), (fr_ (rl_ (by refine vR_ ?_; exact (rm_ (fR_ (fR_ (fR_ (fR_ (fR_ (fR_ (fR_ (fR_ (rt_ aC.out y.out (by decide)))))))))) (fun _ h_ => h_.1)))) a hk_.2.1), (Kd.freshB (g := d) (o := .cells #[.int .i64 aq, .slice aE ae.length c0_1, .slice aG af.length c0_2, .slice al J.length c0_3, .slice am O.length c0_4, .slice an P.length c0_5, .int .i64 ar, .slice ao Q.length c0_7] 32 (0, 0)) (by refine bk_ ?_; refine blk_far ?_ x.out _; refine bk_ ?_; refine blk_far ?_ x.out _; refine bk_ ?_; refine blk_far ?_ x.out _; refine bk_ ?_; refine blk_far ?_ x.out _; refine bk_ ?_; refine blk_far ?_ x.out _; refine bk_ ?_; refine blk_far ?_ x.out _; refine bk_ ?_; refine blk_far ?_ x.out _; refine bk_ ?_; refine blk_far ?_ x.out _; refine bk_ ?_; exact v.out) a hk_.2.1), (Kd.freshB (g := c) (o := .cells #[.int .i64 A, .slice p l.length q, .slice s m.length u, .slice W B.length X, .slice ab F.length ac, .slice aj I.length ak, .int .i64 Y, .slice aJ Z.length aK] 32 (0, 0)) (by refine bk_ ?_; refine bu_ (cs := #[.int .i64 A, .slice p l.length q, .slice s m.length u, .slice W B.length X, .slice ab F.length ac, .slice aj I.length ak, .int .i64 Y, .slice none 0 0]) ?_ 7 _ rfl; refine bk_ ?_; refine bu_ (cs := #[.int .i64 A, .slice p l.length q, .slice s m.length u, .slice W B.length X, .slice ab F.length ac, .slice aj I.length ak, .int .i64 0, .slice none 0 0]) ?_ 6 _ rfl; refine bk_ ?_; refine bu_ (cs := #[.int .i64 A, .slice p l.length q, .slice s m.length u, .slice W B.length X, .slice ab F.length ac, .slice none 0 0, .int .i64 0, .slice none 0 0]) ?_ 5 _ rfl; refine bk_ ?_; refine bu_ (cs := #[.int .i64 A, .slice p l.length q, .slice s m.length u, .slice W B.length X, .slice none 0 0, .slice none 0 0, .int .i64 0, .slice none 0 0]) ?_ 4 _ rfl; refine bk_ ?_; refine bu_ (cs := #[.int .i64 A, .slice p l.length q, .slice s m.length u, .slice none 0 0, .slice none 0 0, .slice none 0 0, .int .i64 0, .slice none 0 0]) ?_ 3 _ rfl; refine bk_ ?_; refine bu_ (cs := #[.int .i64 A, .slice p l.length q, .slice none 0 0, .slice none 0 0, .slice none 0 0, .slice none 0 0, .int .i64 0, .slice none 0 0]) ?_ 2 _ rfl; refine bk_ ?_; refine bu_ (cs := #[.int .i64 A, .slice none 0 0, .slice none 0 0, .slice none 0 0, .slice none 0 0, .slice none 0 0, .int .i64 0, .slice none 0 0]) ?_ 1 _ rfl; refine bk_ ?_; refine bu_ (cs := #[.int .i64 0, .slice none 0 0, .slice none 0 0, .slice none 0 0, .slice none 0 0, .slice none 0 0, .int .i64 0, .slice none 0 0]) ?_ 0 _ rfl; refine bk_ ?_; exact y.out) a hk_.2.1)⟩)) (bz_ bel_)); replace aA := a_ (rb_ (by refine vR_ ?_; exact (rm_ (fR_ (fR_ (fR_ (fR_ (fR_ (fR_ (fR_ (fR_ (rt_ aA.out y.out (by decide)))))))))) (fun _ h_ => h_.1))) hb); replace aC := a_ (rb_ (by refine vR_ ?_; exact (rm_ (fR_ (fR_ (fR_ (fR_ (fR_ (fR_ (fR_ (fR_ (rt_ aC.out y.out (by decide)))))))))) (fun _ h_ => h_.1))) hb); replace v := a_ (bb_ (g := d) (o := .cells #[.int .i64 aq, .slice aE ae.length c0_1, .slice aG af.length c0_2, .slice al J.length c0_3, .slice am O.length c0_4, .slice an P.length c0_5, .int .i64 ar, .slice ao Q.length c0_7] 32 (0, 0)) (by refine bk_ ?_; refine blk_far ?_ x.out _; refine bk_ ?_; refine blk_far ?_ x.out _; refine bk_ ?_; refine blk_far ?_ x.out _; refine bk_ ?_; refine blk_far ?_ x.out _; refine bk_ ?_; refine blk_far ?_ x.out _; refine bk_ ?_; refine blk_far ?_ x.out _; refine bk_ ?_; refine blk_far ?_ x.out _; refine bk_ ?_; refine blk_far ?_ x.out _; refine bk_ ?_; exact v.out) hb); replace y := a_ (bb_ (g := c) (o := .cells #[.int .i64 A, .slice p l.length q, .slice s m.length u, .slice W B.length X, .slice ab F.length ac, .slice aj I.length ak, .int .i64 Y, .slice aJ Z.length aK] 32 (0, 0)) (by refine bk_ ?_; refine bu_ (cs := #[.int .i64 A, .slice p l.length q, .slice s m.length u, .slice W B.length X, .slice ab F.length ac, .slice aj I.length ak, .int .i64 Y, .slice none 0 0]) ?_ 7 _ rfl; refine bk_ ?_; refine bu_ (cs := #[.int .i64 A, .slice p l.length q, .slice s m.length u, .slice W B.length X, .slice ab F.length ac, .slice aj I.length ak, .int .i64 0, .slice none 0 0]) ?_ 6 _ rfl; refine bk_ ?_; refine bu_ (cs := #[.int .i64 A, .slice p l.length q, .slice s m.length u, .slice W B.length X, .slice ab F.length ac, .slice none 0 0, .int .i64 0, .slice none 0 0]) ?_ 5 _ rfl; refine bk_ ?_; refine bu_ (cs := #[.int .i64 A, .slice p l.length q, .slice s m.length u, .slice W B.length X, .slice none 0 0, .slice none 0 0, .int .i64 0, .slice none 0 0]) ?_ 4 _ rfl; refine bk_ ?_; refine bu_ (cs := #[.int .i64 A, .slice p l.length q, .slice s m.length u, .slice none 0 0, .slice none 0 0, .slice none 0 0, .int .i64 0, .slice none 0 0]) ?_ 3 _ rfl; refine bk_ ?_; refine bu_ (cs := #[.int .i64 A, .slice p l.length q, .slice none 0 0, .slice none 0 0, .slice none 0 0, .slice none 0 0, .int .i64 0, .slice none 0 0]) ?_ 2 _ rfl; refine bk_ ?_; refine bu_ (cs := #[.int .i64 A, .slice none 0 0, .slice none 0 0, .slice none 0 0, .slice none 0 0, .slice none 0 0, .int .i64 0, .slice none 0 0]) ?_ 1 _ rfl; refine bk_ ?_; refine bu_ (cs := #[.int .i64 0, .slice none 0 0, .slice none 0 0, .slice none 0 0, .slice none 0 0, .slice none 0 0, .int .i64 0, .slice none 0 0]) ?_ 0 _ rfl; refine bk_ ?_; exact y.out) hb); replace HB := hq_ hb; clear hb ai))
  go_loopg [12, 13] k1 (fun kq aV ca w' => ∃ (ap : List (List Int)) (r : Int), ca = .int .i64 r ∧ Aside0 (jigsawref10_Solutions.l1 kq z ap r A l m B F I Y Z = some (r1, r2)) ∧ Aside0 (kq ≤ k1) ∧ Aside0 (Kd.N (Kd.slice 3 (Kd.int .i64)) 30 w' w.heap.size (fun a => ((P0_3_ a ∨ P0_4_ a ∨ P0_5_ a ∨ P0_7_ a) ∨ w.heap.size ≤ a) ∧ some a ≠ aV.ownBlock ∧ some a ≠ ((.slice p l.length q) : Value).ownBlock ∧ some a ≠ ((.slice s m.length u) : Value).ownBlock ∧ a ≠ d ∧ a ≠ c) au z) ∧ Aside0 (Kd.N (Kd.slice 3 (Kd.int .i64)) 30 w' w.heap.size (fun a => ((P0_3_ a ∨ P0_4_ a ∨ P0_5_ a ∨ P0_7_ a) ∨ w.heap.size ≤ a) ∧ some a ≠ au.ownBlock ∧ some a ≠ ((.slice p l.length q) : Value).ownBlock ∧ some a ≠ ((.slice s m.length u) : Value).ownBlock ∧ a ≠ d ∧ a ≠ c) aV ap) ∧ Aside0 (Kd.V (Kd.int .i64) 3 w' w.heap.size (fun a => ((P0_3_ a ∨ P0_4_ a ∨ P0_5_ a ∨ P0_7_ a) ∨ w.heap.size ≤ a) ∧ some a ≠ au.ownBlock ∧ some a ≠ aV.ownBlock ∧ some a ≠ ((.slice p l.length q) : Value).ownBlock ∧ some a ≠ ((.slice s m.length u) : Value).ownBlock ∧ a ≠ d ∧ a ≠ c) (.slice al J.length c0_3) J) ∧ Aside0 (Kd.V (Kd.int .i64) 3 w' w.heap.size (fun a => ((P0_3_ a ∨ P0_4_ a ∨ P0_5_ a ∨ P0_7_ a) ∨ w.heap.size ≤ a) ∧ some a ≠ au.ownBlock ∧ some a ≠ aV.ownBlock ∧ some a ≠ ((.slice p l.length q) : Value).ownBlock ∧ some a ≠ ((.slice s m.length u) : Value).ownBlock ∧ a ≠ d ∧ a ≠ c) (.slice am O.length c0_4) O) ∧ Aside0 (Kd.V (Kd.int .i64) 3 w' w.heap.size (fun a => ((P0_3_ a ∨ P0_4_ a ∨ P0_5_ a ∨ P0_7_ a) ∨ w.heap.size ≤ a) ∧ some a ≠ au.ownBlock ∧ some a ≠ aV.ownBlock ∧ some a ≠ ((.slice p l.length q) : Value).ownBlock ∧ some a ≠ ((.slice s m.length u) : Value).ownBlock ∧ a ≠ d ∧ a ≠ c) (.slice an P.length c0_5) P) ∧ Aside0 (Kd.V (Kd.slice 3 (Kd.int .i64)) 30 w' w.heap.size (fun a => ((P0_3_ a ∨ P0_4_ a ∨ P0_5_ a ∨ P0_7_ a) ∨ w.heap.size ≤ a) ∧ some a ≠ au.ownBlock ∧ some a ≠ aV.ownBlock ∧ some a ≠ ((.slice p l.length q) : Value).ownBlock ∧ some a ≠ ((.slice s m.length u) : Value).ownBlock ∧ a ≠ d ∧ a ≠ c) (.slice ao Q.length c0_7) Q) ∧ Aside0 (Kd.R (Kd.int .i64) 3 w' w.heap.size (fun a => (w.heap.size ≤ a) ∧ some a ≠ ((.slice s m.length u) : Value).ownBlock) (.slice p l.length q) l) ∧ Aside0 (Kd.R (Kd.int .i64) 3 w' w.heap.size (fun a => (w.heap.size ≤ a) ∧ some a ≠ ((.slice p l.length q) : Value).ownBlock) (.slice s m.length u) m) ∧ Aside0 (Kd.V (Kd.int .i64) 3 w' w.heap.size (fun a => ((P0_3_ a ∨ P0_4_ a ∨ P0_5_ a ∨ P0_7_ a) ∨ w.heap.size ≤ a) ∧ some a ≠ au.ownBlock ∧ some a ≠ aV.ownBlock ∧ some a ≠ ((.slice p l.length q) : Value).ownBlock ∧ some a ≠ ((.slice s m.length u) : Value).ownBlock ∧ a ≠ d ∧ a ≠ c) (.slice W B.length X) B) ∧ Aside0 (Kd.V (Kd.int .i64) 3 w' w.heap.size (fun a => ((P0_3_ a ∨ P0_4_ a ∨ P0_5_ a ∨ P0_7_ a) ∨ w.heap.size ≤ a) ∧ some a ≠ au.ownBlock ∧ some a ≠ aV.ownBlock ∧ some a ≠ ((.slice p l.length q) : Value).ownBlock ∧ some a ≠ ((.slice s m.length u) : Value).ownBlock ∧ a ≠ d ∧ a ≠ c) (.slice ab F.length ac) F) ∧ Aside0 (Kd.V (Kd.int .i64) 3 w' w.heap.size (fun a => ((P0_3_ a ∨ P0_4_ a ∨ P0_5_ a ∨ P0_7_ a) ∨ w.heap.size ≤ a) ∧ some a ≠ au.ownBlock ∧ some a ≠ aV.ownBlock ∧ some a ≠ ((.slice p l.length q) : Value).ownBlock ∧ some a ≠ ((.slice s m.length u) : Value).ownBlock ∧ a ≠ d ∧ a ≠ c) (.slice aj I.length ak) I) ∧ Aside0 (Kd.V (Kd.slice 3 (Kd.int .i64)) 30 w' w.heap.size (fun a => ((P0_3_ a ∨ P0_4_ a ∨ P0_5_ a ∨ P0_7_ a) ∨ w.heap.size ≤ a) ∧ some a ≠ au.ownBlock ∧ some a ≠ aV.ownBlock ∧ some a ≠ ((.slice p l.length q) : Value).ownBlock ∧ some a ≠ ((.slice s m.length u) : Value).ownBlock ∧ a ≠ d ∧ a ≠ c) (.slice aJ Z.length aK) Z) ∧ Aside0 (w'.heap[d]? = some (.cells #[.int .i64 aq, (.slice aE ae.length c0_1), (.slice aG af.length c0_2), (.slice al J.length c0_3), (.slice am O.length c0_4), (.slice an P.length c0_5), .int .i64 ar, (.slice ao Q.length c0_7)] 32 (0, 0))) ∧ Aside0 (w'.heap[c]? = some (.cells #[.int .i64 A, (.slice p l.length q), (.slice s m.length u), (.slice W B.length X), (.slice ab F.length ac), (.slice aj I.length ak), .int .i64 Y, (.slice aJ Z.length aK)] 32 (0, 0))) ∧ Aside0 (Below w.heap.size w w'))
  case atStart => exact ⟨(([] : List (List Int))), (0), eq_, H', ⟨lr_ _⟩, ⟨by refine vN_ ?_; exact nm_ bJ.out (fun _ hk => ⟨hk.1, ⟨(by simp [Value.ownBlock]), ⟨hk.2.1, ⟨hk.2.2.1, ⟨hk.2.2.2.1, hk.2.2.2.2⟩⟩⟩⟩⟩)⟩, ⟨nil_⟩, ⟨by refine vV_ ?_; exact vm_ HO_659003.out (fun _ hk => ⟨hk.1.1.1.1.1, ⟨hk.2, ⟨(by simp [Value.ownBlock]), ⟨hk.1.1.1.2, ⟨hk.1.1.2, ⟨hk.1.1.1.1.2, hk.1.2⟩⟩⟩⟩⟩⟩)⟩, ⟨by refine vV_ ?_; exact vm_ HO_659004.out (fun _ hk => ⟨hk.1.1.1.1.1, ⟨hk.2, ⟨(by simp [Value.ownBlock]), ⟨hk.1.1.1.2, ⟨hk.1.1.2, ⟨hk.1.1.1.1.2, hk.1.2⟩⟩⟩⟩⟩⟩)⟩, ⟨by refine vV_ ?_; exact vm_ HO_659005.out (fun _ hk => ⟨hk.1.1.1.1.1, ⟨hk.2, ⟨(by simp [Value.ownBlock]), ⟨hk.1.1.1.2, ⟨hk.1.1.2, ⟨hk.1.1.1.1.2, hk.1.2⟩⟩⟩⟩⟩⟩)⟩, ⟨by refine vV_ ?_; exact vm_ HO_659007.out (fun _ hk => ⟨hk.1.1.1.1.1, ⟨hk.2, ⟨(by simp [Value.ownBlock]), ⟨hk.1.1.1.2, ⟨hk.1.1.2, ⟨hk.1.1.1.1.2, hk.1.2⟩⟩⟩⟩⟩⟩)⟩, ⟨vR_ aA.out⟩, ⟨vR_ aC.out⟩, ⟨by refine vV_ ?_; exact vm_ aN.out (fun _ hk => ⟨hk.1.1.1, ⟨hk.2, ⟨(by simp [Value.ownBlock]), ⟨hk.1.1.2.1, ⟨hk.1.1.2.2.1, ⟨hk.1.1.2.2.2, hk.1.2⟩⟩⟩⟩⟩⟩)⟩, ⟨by refine vV_ ?_; exact vm_ aQ.out (fun _ hk => ⟨hk.1.1.1, ⟨hk.2, ⟨(by simp [Value.ownBlock]), ⟨hk.1.1.2.1, ⟨hk.1.1.2.2.1, ⟨hk.1.1.2.2.2, hk.1.2⟩⟩⟩⟩⟩⟩)⟩, ⟨by refine vV_ ?_; exact vm_ aR.out (fun _ hk => ⟨hk.1.1.1, ⟨hk.2, ⟨(by simp [Value.ownBlock]), ⟨hk.1.1.2.1, ⟨hk.1.1.2.2.1, ⟨hk.1.1.2.2.2, hk.1.2⟩⟩⟩⟩⟩⟩)⟩, ⟨by refine vV_ ?_; exact vm_ aT.out (fun _ hk => ⟨hk.1.1.1, ⟨hk.2, ⟨(by simp [Value.ownBlock]), ⟨hk.1.1.2.1, ⟨hk.1.1.2.2.1, ⟨hk.1.1.2.2.2, hk.1.2⟩⟩⟩⟩⟩⟩)⟩, ⟨bk_ v.out⟩, ⟨bk_ y.out⟩, ⟨bel_⟩⟩
  clear H'
  try clear c1
  try clear c2
  try clear p2
  try clear c5
  try clear c5b0
  try clear c6
  try clear c6b0
  try clear p6
  try clear q6
  try clear cu
  try clear c7
  try clear c7b0
  try clear c13
  try clear c19
  try clear aa
  try clear p2
  try clear p659
  try clear aI
  obtain ⟨ap, r, rfl, HA, bn, HO_11, HO_12, HO_659003, HO_659004, HO_659005, HO_659007, HO_681001, HO_681002, HO_681003, HO_681004, HO_681005, HO_681007, v, y, HB⟩ := hrel
  cases gk with
  | zero => exact absurd HA.out (by simp [jigsawref10_Solutions.l1])
  | succ k2 =>
   have H := HA.out
   clear HA
   simp only [jigsawref10_Solutions.l1] at H
   by_cases c22 : r < (z.length : Int)
   rotate_left
   ·
    rw [ig_ c22] at H
    have c22b0 : decide (r < (z.length : Int)) = false := df_ c22
    clear c22
    simp only [Option.some.injEq, Prod.mk.injEq] at H
    obtain ⟨rfl, rfl⟩ := H
    obtain ⟨cr, ct, b7⟩ := Kd.N_slice HO_11.out
    subst b7
    go_wp2
    go_ret2
    exact ⟨_, er_, by refine vN_ ?_; exact nm_ HO_12.out (fun _ hk => hk.1), bel_⟩
   rw [ip_ c22] at H
   have c22b0 : decide (r < (z.length : Int)) = true := dt_ c22
   clear c22
   by_cases c23 : 0 ≤ r
   rotate_left
   ·
    rw [ig_ c23] at H
    exact ab_ H
   rw [ip_ c23] at H
   have c23b0 : decide (0 ≤ r) = true := dt_ c23
   clear c23
   replace H := bo_ H
   obtain ⟨b3, bV, H⟩ := H
   try dsimp only at H
   by_cases c25 : b3 = true
   rotate_left
   ·
    replace c25 := bf_.mpr c25
    subst c25
    have H1 : (jigsawref10_Solutions.l1 k2 z ap (wrap64 (r + 1)) A l m B F I Y Z) = some (r1, r2) := by rw [ig_ (show ¬ (false = true) by decide)] at H; exact H
    clear H
    have H := H1
    clear H1
    have H' := a_ H
    clear H
    obtain ⟨cp, cq, b6⟩ := Kd.N_slice HO_11.out
    subst b6
    try go_wp2
    replace HO_11 := a_ (Kd.N_drew HO_11.out)
    replace HO_12 := a_ (Kd.N_drew HO_12.out)
    replace HO_659003 := a_ (Kd.V_drew HO_659003.out)
    replace HO_659004 := a_ (Kd.V_drew HO_659004.out)
    replace HO_659005 := a_ (Kd.V_drew HO_659005.out)
    replace HO_659007 := a_ (Kd.V_drew HO_659007.out)
    replace HO_681001 := a_ (Kd.R_drew HO_681001.out)
    replace HO_681002 := a_ (Kd.R_drew HO_681002.out)
    replace HO_681003 := a_ (Kd.V_drew HO_681003.out)
    replace HO_681004 := a_ (Kd.V_drew HO_681004.out)
    replace HO_681005 := a_ (Kd.V_drew HO_681005.out)
    replace HO_681007 := a_ (Kd.V_drew HO_681007.out)
    replace v := a_ (blk_drew v.out)
    replace y := a_ (blk_drew y.out)
    replace HB := a_ (below_drew1 HB.out)
    have p684 : 0 ≤ (r : Int) := dq_
    have aD : r < (z.length : Int) := dq_
    obtain ⟨E, aM, c684_0, bi, ag, aw, ax⟩ := at_L7 (Kd.N_reads' HO_11.out).2.2 r p684 aD
    cases bi
    obtain ⟨ce684, hce684, hMe684, hcc684⟩ := Kd.N_get HO_11.out [] r p684 (by first | exact aD | exact dq_ | (have e_ := (Kd.N_reads' HO_11.out).1; omega))
    obtain ⟨ua684_0, uc684_0, rfl, ay, az⟩ := Kd.FK_slice_open hMe684
    have U := hcc684 0 _ rfl
    rw [Nat.add_zero, show ((Kd.slice 3 (Kd.int .i64))).sz = 1 from rfl, Nat.mul_one] at U
    replace U := si_ (U.symm.trans ag)
    injection U with hva_ hvn_ hvc_
    rw [hva_] at az
    rw [hvc_] at ay
    clear hva_ hvn_ hvc_ az ay
    clear hcc684 hce684
    have ah := a_ ax
    have aZ := a_ aw
    clear ax aw
    replace p684 := et_ p684
    replace aD := et_ aD
    refine start_ (n := 7) (S := fun w' => w'.cell? ⟨c, 0, none⟩ = some (.int .i64 A) ∧ w'.cell? ⟨c, 1, none⟩ = some (.slice p l.length q) ∧ w'.cell? ⟨c, 2, none⟩ = some (.slice s m.length u) ∧ w'.cell? ⟨c, 3, none⟩ = some (.slice W B.length X) ∧ w'.cell? ⟨c, 4, none⟩ = some (.slice ab F.length ac) ∧ w'.cell? ⟨c, 5, none⟩ = some (.slice aj I.length ak) ∧ w'.cell? ⟨c, 6, none⟩ = some (.int .i64 Y) ∧ w'.cell? ⟨c, 7, none⟩ = some (.slice aJ Z.length aK) ∧ w'.cell? (E.add (r).toNat) = some (.slice aM (rd_L7 z r).length c684_0)) (ds := []) #[false, false, false, false, false, false, false] kr_ rfl rfl (cb8_ y.out (ag)) (fun hHeld => ?_)
    generalize wr.drew = w32 at HO_11 HO_12 HO_659003 HO_659004 HO_659005 HO_659007 HO_681001 HO_681002 HO_681003 HO_681004 HO_681005 HO_681007 v y HB ah ag hHeld ⊢
    refine pn_ 1 43 kr_ ?_
    refine pn_ 2 44 kr_ ?_
    refine pn_ 3 45 kr_ ?_
    refine tn_ 0 42 kr_ hHeld ?_
    refine tn_ 4 46 kr_ hHeld ?_
    refine onn_ 5 47 #[true, true, true, true, true, true, false] rfl rfl kr_ (by decide) (fun K hK => ?_)
    refine goes_ Tryz.func20 kr_ rfl #[.agg #[.int .i64 A, .slice p l.length q, .slice s m.length u, .slice W B.length X, .slice ab F.length ac, .slice aj I.length ak, .int .i64 Y, .slice aJ Z.length aK], .slice aM (rd_L7 z r).length c684_0] (by rfl) rfl rfl ar_ ?_
    with_reducible refine (jigsawref09_Holds.calls k2 A _ _ l _ _ m _ _ B _ _ F _ _ I Y _ _ Z _ _ (rd_L7 z r) false _ ?_ ?_ ?_ ?_ ?_ ?_ ?_ ?_ ?_ ?_ ?_ ?_ ?_ ?_ bV.out).mono ?_
    exact ca_ ((rr_ HO_681001.out).2.2)
    exact (rr_ HO_681001.out).2.1
    exact ca_ ((rr_ HO_681002.out).2.2)
    exact (rr_ HO_681002.out).2.1
    exact ca_ ((Kd.V_reads' HO_681003.out).2.2)
    exact (Kd.V_reads' HO_681003.out).2.1
    exact ca_ ((Kd.V_reads' HO_681004.out).2.2)
    exact (Kd.V_reads' HO_681004.out).2.1
    exact ca_ ((Kd.V_reads' HO_681005.out).2.2)
    exact (Kd.V_reads' HO_681005.out).2.1
    exact ca_ ((Kd.V_reads' HO_681007.out).2.2)
    exact (Kd.V_reads' HO_681007.out).2.1
    focus repeat (first | exact (by repeat (first | (with_reducible exact ah.out) | (with_reducible refine Kd.C_alloc ?_ _) | (with_reducible refine Kd.C_drewN ?_ _) | (with_reducible refine Kd.C_drew ?_) | exact ah.out)) | (with_reducible refine Kd.C_alloc ?_ _) | (with_reducible refine Kd.C_drewN ?_ _) | (with_reducible refine Kd.C_drew ?_))
    exact aZ.out
    rintro e w33 ⟨rfl, hb⟩
    have bd := (hb.cell (wl_ _ _ (hHeld.2.2.2.2.2.2.2.2))).trans (hHeld.2.2.2.2.2.2.2.2)
    refine ⟨_, rfl, ?_⟩
    replace HO_11 := a_ (Kd.N_below (vN_ HO_11.out) hb)
    replace HO_12 := a_ (Kd.N_below (vN_ HO_12.out) hb)
    replace HO_659003 := a_ (vb_ (vV_ HO_659003.out) hb)
    replace HO_659004 := a_ (vb_ (vV_ HO_659004.out) hb)
    replace HO_659005 := a_ (vb_ (vV_ HO_659005.out) hb)
    replace HO_659007 := a_ (vb_ (vV_ HO_659007.out) hb)
    replace HO_681001 := a_ (rb_ (vR_ HO_681001.out) hb)
    replace HO_681002 := a_ (rb_ (vR_ HO_681002.out) hb)
    replace HO_681003 := a_ (vb_ (vV_ HO_681003.out) hb)
    replace HO_681004 := a_ (vb_ (vV_ HO_681004.out) hb)
    replace HO_681005 := a_ (vb_ (vV_ HO_681005.out) hb)
    replace HO_681007 := a_ (vb_ (vV_ HO_681007.out) hb)
    replace v := a_ (bq_ v.out hb)
    replace y := a_ (bq_ y.out hb)
    replace HB := hq_ hb
    clear hb
    refine hK.out _ _ (cb8_ y.out (bd)) (fun hHeld => ?_)
    clear hK K
    refine nor_ (N := some 47) ?_
    refine pn_ 6 14 kr_ ?_
    refine done_ kr_ ?_
    try go_wp2
    go_roundg k2
    case measure => have := a5.out; have := bn.out; omega
    exact ⟨(ap), (wrap64 (r + 1)), eq_, H', ⟨by have := a5.out; have := bn.out; omega⟩, ⟨vN_ HO_11.out⟩, ⟨vN_ HO_12.out⟩, ⟨vV_ HO_659003.out⟩, ⟨vV_ HO_659004.out⟩, ⟨vV_ HO_659005.out⟩, ⟨vV_ HO_659007.out⟩, ⟨vR_ HO_681001.out⟩, ⟨vR_ HO_681002.out⟩, ⟨vV_ HO_681003.out⟩, ⟨vV_ HO_681004.out⟩, ⟨vV_ HO_681005.out⟩, ⟨vV_ HO_681007.out⟩, ⟨bk_ v.out⟩, ⟨bk_ y.out⟩, ⟨bel_⟩⟩
   subst c25
   rw [ip_ rfl] at H
   by_cases c26 : ap.length < 5864062014805
   rotate_left
   ·
    rw [ig_ c26] at H
    exact ab_ H
   rw [ip_ c26] at H
   have LMc26 := a_ c26
   clear c26
   obtain ⟨bv, aX⟩ : ∃ y_ : List (List Int), y_ = (ap ++ [rd_L7 z r]) := ⟨_, rfl⟩
   replace H : (jigsawref10_Solutions.l1 k2 z bv (wrap64 (r + 1)) A l m B F I Y Z) = some (r1, r2) := h2_ H aX
   have bK := a_ aX
   clear aX
   have H' := a_ H
   clear H
   obtain ⟨cn, ad, b4⟩ := Kd.N_slice HO_11.out
   subst b4
   try go_wp2
   replace HO_11 := a_ (Kd.N_drew HO_11.out)
   replace HO_12 := a_ (Kd.N_drew HO_12.out)
   replace HO_659003 := a_ (Kd.V_drew HO_659003.out)
   replace HO_659004 := a_ (Kd.V_drew HO_659004.out)
   replace HO_659005 := a_ (Kd.V_drew HO_659005.out)
   replace HO_659007 := a_ (Kd.V_drew HO_659007.out)
   replace HO_681001 := a_ (Kd.R_drew HO_681001.out)
   replace HO_681002 := a_ (Kd.R_drew HO_681002.out)
   replace HO_681003 := a_ (Kd.V_drew HO_681003.out)
   replace HO_681004 := a_ (Kd.V_drew HO_681004.out)
   replace HO_681005 := a_ (Kd.V_drew HO_681005.out)
   replace HO_681007 := a_ (Kd.V_drew HO_681007.out)
   replace v := a_ (blk_drew v.out)
   replace y := a_ (blk_drew y.out)
   replace HB := a_ (below_drew1 HB.out)
   have p684 : 0 ≤ (r : Int) := dq_
   have aD : r < (z.length : Int) := dq_
   obtain ⟨E, aM, c684_0, bi, ag, aw, ax⟩ := at_L7 (Kd.N_reads' HO_11.out).2.2 r p684 aD
   cases bi
   obtain ⟨ce684, hce684, hMe684, hcc684⟩ := Kd.N_get HO_11.out [] r p684 (by first | exact aD | exact dq_ | (have e_ := (Kd.N_reads' HO_11.out).1; omega))
   obtain ⟨ua684_0, uc684_0, rfl, ay, az⟩ := Kd.FK_slice_open hMe684
   have U := hcc684 0 _ rfl
   rw [Nat.add_zero, show ((Kd.slice 3 (Kd.int .i64))).sz = 1 from rfl, Nat.mul_one] at U
   replace U := si_ (U.symm.trans ag)
   injection U with hva_ hvn_ hvc_
   rw [hva_] at az
   rw [hvc_] at ay
   clear hva_ hvn_ hvc_ az ay
   clear hcc684 hce684
   have ah := a_ ax
   have aZ := a_ aw
   clear ax aw
   replace p684 := et_ p684
   replace aD := et_ aD
   refine start_ (n := 7) (S := fun w' => w'.cell? ⟨c, 0, none⟩ = some (.int .i64 A) ∧ w'.cell? ⟨c, 1, none⟩ = some (.slice p l.length q) ∧ w'.cell? ⟨c, 2, none⟩ = some (.slice s m.length u) ∧ w'.cell? ⟨c, 3, none⟩ = some (.slice W B.length X) ∧ w'.cell? ⟨c, 4, none⟩ = some (.slice ab F.length ac) ∧ w'.cell? ⟨c, 5, none⟩ = some (.slice aj I.length ak) ∧ w'.cell? ⟨c, 6, none⟩ = some (.int .i64 Y) ∧ w'.cell? ⟨c, 7, none⟩ = some (.slice aJ Z.length aK) ∧ w'.cell? (E.add (r).toNat) = some (.slice aM (rd_L7 z r).length c684_0)) (ds := []) #[false, false, false, false, false, false, false] kr_ rfl rfl (cb8_ y.out (ag)) (fun hHeld => ?_)
   generalize wr.drew = w28 at HO_11 HO_12 HO_659003 HO_659004 HO_659005 HO_659007 HO_681001 HO_681002 HO_681003 HO_681004 HO_681005 HO_681007 v y HB ah ag hHeld ⊢
   refine pn_ 1 43 kr_ ?_
   refine pn_ 2 44 kr_ ?_
   refine pn_ 3 45 kr_ ?_
   refine tn_ 0 42 kr_ hHeld ?_
   refine tn_ 4 46 kr_ hHeld ?_
   refine onn_ 5 47 #[true, true, true, true, true, true, false] rfl rfl kr_ (by decide) (fun K hK => ?_)
   refine goes_ Tryz.func20 kr_ rfl #[.agg #[.int .i64 A, .slice p l.length q, .slice s m.length u, .slice W B.length X, .slice ab F.length ac, .slice aj I.length ak, .int .i64 Y, .slice aJ Z.length aK], .slice aM (rd_L7 z r).length c684_0] (by rfl) rfl rfl ar_ ?_
   with_reducible refine (jigsawref09_Holds.calls k2 A _ _ l _ _ m _ _ B _ _ F _ _ I Y _ _ Z _ _ (rd_L7 z r) true _ ?_ ?_ ?_ ?_ ?_ ?_ ?_ ?_ ?_ ?_ ?_ ?_ ?_ ?_ bV.out).mono ?_
   exact ca_ ((rr_ HO_681001.out).2.2)
   exact (rr_ HO_681001.out).2.1
   exact ca_ ((rr_ HO_681002.out).2.2)
   exact (rr_ HO_681002.out).2.1
   exact ca_ ((Kd.V_reads' HO_681003.out).2.2)
   exact (Kd.V_reads' HO_681003.out).2.1
   exact ca_ ((Kd.V_reads' HO_681004.out).2.2)
   exact (Kd.V_reads' HO_681004.out).2.1
   exact ca_ ((Kd.V_reads' HO_681005.out).2.2)
   exact (Kd.V_reads' HO_681005.out).2.1
   exact ca_ ((Kd.V_reads' HO_681007.out).2.2)
   exact (Kd.V_reads' HO_681007.out).2.1
   focus repeat (first | exact (by repeat (first | (with_reducible exact ah.out) | (with_reducible refine Kd.C_alloc ?_ _) | (with_reducible refine Kd.C_drewN ?_ _) | (with_reducible refine Kd.C_drew ?_) | exact ah.out)) | (with_reducible refine Kd.C_alloc ?_ _) | (with_reducible refine Kd.C_drewN ?_ _) | (with_reducible refine Kd.C_drew ?_))
   exact aZ.out
   rintro e w29 ⟨rfl, hb⟩
   have bd := (hb.cell (wl_ _ _ (hHeld.2.2.2.2.2.2.2.2))).trans (hHeld.2.2.2.2.2.2.2.2)
   refine ⟨_, rfl, ?_⟩
   replace HO_11 := a_ (Kd.N_below (vN_ HO_11.out) hb)
   replace HO_12 := a_ (Kd.N_below (vN_ HO_12.out) hb)
   replace HO_659003 := a_ (vb_ (vV_ HO_659003.out) hb)
   replace HO_659004 := a_ (vb_ (vV_ HO_659004.out) hb)
   replace HO_659005 := a_ (vb_ (vV_ HO_659005.out) hb)
   replace HO_659007 := a_ (vb_ (vV_ HO_659007.out) hb)
   replace HO_681001 := a_ (rb_ (vR_ HO_681001.out) hb)
   replace HO_681002 := a_ (rb_ (vR_ HO_681002.out) hb)
   replace HO_681003 := a_ (vb_ (vV_ HO_681003.out) hb)
   replace HO_681004 := a_ (vb_ (vV_ HO_681004.out) hb)
   replace HO_681005 := a_ (vb_ (vV_ HO_681005.out) hb)
   replace HO_681007 := a_ (vb_ (vV_ HO_681007.out) hb)
   replace v := a_ (bq_ v.out hb)
   replace y := a_ (bq_ y.out hb)
   replace HB := hq_ hb
   clear hb
   refine hK.out _ _ (cb8_ y.out (bd)) (fun hHeld => ?_)
   clear hK K
   refine nor_ (N := some 47) ?_
   refine pn_ 6 14 kr_ ?_
   refine done_ kr_ ?_
   have p686 : 0 ≤ (r : Int) := dq_
   have be : r < (z.length : Int) := dq_
   obtain ⟨bL, bw, c686_0, b5, a7, a8, br⟩ := at_L7 (Kd.N_reads' HO_11.out).2.2 r p686 be
   obtain rfl : E = bL := (by injection b5)
   obtain ⟨ce686, hce686, hMe686, hcc686⟩ := Kd.N_get HO_11.out [] r p686 (by first | exact be | exact dq_ | (have e_ := (Kd.N_reads' HO_11.out).1; omega))
   obtain ⟨ua686_0, uc686_0, rfl, a0, a1⟩ := Kd.FK_slice_open hMe686
   have aU := hcc686 0 _ rfl
   rw [Nat.add_zero, show ((Kd.slice 3 (Kd.int .i64))).sz = 1 from rfl, Nat.mul_one] at aU
   replace aU := si_ (aU.symm.trans a7)
   injection aU with hva_ hvn_ hvc_
   rw [hva_] at a1
   rw [hvc_] at a0
   have HL686_0 := a_ (show Kd.V (Kd.int .i64) 3 _ w.heap.size _ _ (rd_L7 z r) from Kd.V_mk a0 a1)
   clear hva_ hvn_ hvc_ a1 a0
   clear hcc686 hce686
   have b8 := a_ a8
   clear br a8
   replace p686 := et_ p686
   replace be := et_ be
   (have hq_ := a7.symm.trans bd); injection hq_ with hq_; injection hq_ with h1_ _ h3_; subst h1_; subst h3_
   try go_wp2_with (first | ((with_reducible refine gate_builtin (b := .append) (xs := #[.tmp 49, .tmp 54]) rfl ?_); at_builtin; refine Kd.N_append (Kd.slice 3 (Kd.int .i64)) (w0 := w) w.heap.size rfl (.tmp 49) (.tmp 54) 27 30 (.slice none 0 0) 24 rfl Tryz.underlying27 info30 rfl (by decide) (by omega) u12 ap (rd_L7 z r) [.slice bw (rd_L7 z r).length c686_0] (fun a => ((P0_3_ a ∨ P0_4_ a ∨ P0_5_ a ∨ P0_7_ a) ∨ w.heap.size ≤ a) ∧ some a ≠ (.slice (some E) z.length ad : Value).ownBlock ∧ some a ≠ (.slice p l.length q : Value).ownBlock ∧ some a ≠ (.slice s m.length u : Value).ownBlock ∧ a ≠ d ∧ a ≠ c) (fun a => ((fun a => ((P0_3_ a ∨ P0_4_ a ∨ P0_5_ a ∨ P0_7_ a) ∨ w.heap.size ≤ a) ∧ some a ≠ (.slice (some E) z.length ad : Value).ownBlock ∧ some a ≠ (.slice p l.length q : Value).ownBlock ∧ some a ≠ (.slice s m.length u : Value).ownBlock ∧ a ≠ d ∧ a ≠ c)) a ∧ some a ≠ u12.ownBlock) rfl rfl ?aP (fun _ hk => hk) ?aF ?aO ?aB ?aS ?aL ?_; (case aP => first | exact (Kd.FK_slice_mk (Kd.V_reads' (vm_ (ok' := (fun a => ((fun a => ((P0_3_ a ∨ P0_4_ a ∨ P0_5_ a ∨ P0_7_ a) ∨ w.heap.size ≤ a) ∧ some a ≠ (.slice (some E) z.length ad : Value).ownBlock ∧ some a ≠ (.slice p l.length q : Value).ownBlock ∧ some a ≠ (.slice s m.length u : Value).ownBlock ∧ a ≠ d ∧ a ≠ c)) a ∧ some a ≠ u12.ownBlock)) (HL686_0.out) (fun a hk => ⟨⟨hk.1.1, ⟨hk.2, ⟨hk.1.2.2.1, ⟨hk.1.2.2.2.1, ⟨hk.1.2.2.2.2.1, hk.1.2.2.2.2.2⟩⟩⟩⟩⟩, hk.1.2.1⟩))).2.1 (Kd.V_F (vm_ (ok' := (fun a => ((fun a => ((P0_3_ a ∨ P0_4_ a ∨ P0_5_ a ∨ P0_7_ a) ∨ w.heap.size ≤ a) ∧ some a ≠ (.slice (some E) z.length ad : Value).ownBlock ∧ some a ≠ (.slice p l.length q : Value).ownBlock ∧ some a ≠ (.slice s m.length u : Value).ownBlock ∧ a ≠ d ∧ a ≠ c)) a ∧ some a ≠ u12.ownBlock)) (HL686_0.out) (fun a hk => ⟨⟨hk.1.1, ⟨hk.2, ⟨hk.1.2.2.1, ⟨hk.1.2.2.2.1, ⟨hk.1.2.2.2.2.1, hk.1.2.2.2.2.2⟩⟩⟩⟩⟩, hk.1.2.1⟩)))) | exact (Kd.FK_slice_mk (Kd.V_reads' (vm_ (ok' := (fun a => ((fun a => ((P0_3_ a ∨ P0_4_ a ∨ P0_5_ a ∨ P0_7_ a) ∨ w.heap.size ≤ a) ∧ some a ≠ (.slice (some E) z.length ad : Value).ownBlock ∧ some a ≠ (.slice p l.length q : Value).ownBlock ∧ some a ≠ (.slice s m.length u : Value).ownBlock ∧ a ≠ d ∧ a ≠ c)) a ∧ some a ≠ u12.ownBlock)) (HL686_0.out) (fun a hk => ⟨⟨hk.1.1, ⟨hk.2, ⟨hk.1.2.2.1, ⟨hk.1.2.2.2.1, ⟨hk.1.2.2.2.2.1, hk.1.2.2.2.2.2⟩⟩⟩⟩⟩, hk.1.2.1⟩))).2.1 (Kd.V_F (vm_ (ok' := (fun a => ((fun a => ((P0_3_ a ∨ P0_4_ a ∨ P0_5_ a ∨ P0_7_ a) ∨ w.heap.size ≤ a) ∧ some a ≠ (.slice (some E) z.length ad : Value).ownBlock ∧ some a ≠ (.slice p l.length q : Value).ownBlock ∧ some a ≠ (.slice s m.length u : Value).ownBlock ∧ a ≠ d ∧ a ≠ c)) a ∧ some a ≠ u12.ownBlock)) (Kd.V_drewN HL686_0.out _) (fun a hk => ⟨⟨hk.1.1, ⟨hk.2, ⟨hk.1.2.2.1, ⟨hk.1.2.2.2.1, ⟨hk.1.2.2.2.2.1, hk.1.2.2.2.2.2⟩⟩⟩⟩⟩, hk.1.2.1⟩))))); (case aB => exact bel_); (case aF => exact (fun a hk => ⟨(.inr (Nat.le_trans (bz_ bel_) hk)), fr_ (Kd.N_lt (vN_ HO_11.out)) a hk, fr_ (rl_ (vR_ HO_681001.out)) a hk, fr_ (rl_ (vR_ HO_681002.out)) a hk, Kd.freshB (bk_ v.out) a hk, Kd.freshB (bk_ y.out) a hk⟩)); (case aO => exact (vN_ HO_12.out)); (case aS => exact (bz_ bel_)); (case aL => have := LMc26.out; omega); intro co w30 ho hb hg hat; rw [← bK.out] at ho; replace HO_11 := a_ (Kd.N_afterv (ok := (fun a => ((P0_3_ a ∨ P0_4_ a ∨ P0_5_ a ∨ P0_7_ a) ∨ w.heap.size ≤ a) ∧ some a ≠ (.slice p l.length q : Value).ownBlock ∧ some a ≠ (.slice s m.length u : Value).ownBlock ∧ a ≠ d ∧ a ≠ c)) (by refine vN_ ?_; exact nm_ HO_11.out (fun _ hk => ⟨⟨hk.1, ⟨hk.2.2.1, ⟨hk.2.2.2.1, ⟨hk.2.2.2.2.1, hk.2.2.2.2.2⟩⟩⟩⟩, hk.2.1⟩)) hg hat); replace HO_659003 := a_ (Kd.V_afterv (ok := (fun a => ((P0_3_ a ∨ P0_4_ a ∨ P0_5_ a ∨ P0_7_ a) ∨ w.heap.size ≤ a) ∧ some a ≠ (.slice (some E) z.length ad : Value).ownBlock ∧ some a ≠ (.slice p l.length q : Value).ownBlock ∧ some a ≠ (.slice s m.length u : Value).ownBlock ∧ a ≠ d ∧ a ≠ c)) (by refine vV_ ?_; exact vm_ HO_659003.out (fun _ hk => ⟨⟨hk.1, ⟨hk.2.1, ⟨hk.2.2.2.1, ⟨hk.2.2.2.2.1, ⟨hk.2.2.2.2.2.1, hk.2.2.2.2.2.2⟩⟩⟩⟩⟩, hk.2.2.1⟩)) hg hat); replace HO_659004 := a_ (Kd.V_afterv (ok := (fun a => ((P0_3_ a ∨ P0_4_ a ∨ P0_5_ a ∨ P0_7_ a) ∨ w.heap.size ≤ a) ∧ some a ≠ (.slice (some E) z.length ad : Value).ownBlock ∧ some a ≠ (.slice p l.length q : Value).ownBlock ∧ some a ≠ (.slice s m.length u : Value).ownBlock ∧ a ≠ d ∧ a ≠ c)) (by refine vV_ ?_; exact vm_ HO_659004.out (fun _ hk => ⟨⟨hk.1, ⟨hk.2.1, ⟨hk.2.2.2.1, ⟨hk.2.2.2.2.1, ⟨hk.2.2.2.2.2.1, hk.2.2.2.2.2.2⟩⟩⟩⟩⟩, hk.2.2.1⟩)) hg hat); replace HO_659005 := a_ (Kd.V_afterv (ok := (fun a => ((P0_3_ a ∨ P0_4_ a ∨ P0_5_ a ∨ P0_7_ a) ∨ w.heap.size ≤ a) ∧ some a ≠ (.slice (some E) z.length ad : Value).ownBlock ∧ some a ≠ (.slice p l.length q : Value).ownBlock ∧ some a ≠ (.slice s m.length u : Value).ownBlock ∧ a ≠ d ∧ a ≠ c)) (by refine vV_ ?_; exact vm_ HO_659005.out (fun _ hk => ⟨⟨hk.1, ⟨hk.2.1, ⟨hk.2.2.2.1, ⟨hk.2.2.2.2.1, ⟨hk.2.2.2.2.2.1, hk.2.2.2.2.2.2⟩⟩⟩⟩⟩, hk.2.2.1⟩)) hg hat); replace HO_659007 := a_ (Kd.V_afterv (ok := (fun a => ((P0_3_ a ∨ P0_4_ a ∨ P0_5_ a ∨ P0_7_ a) ∨ w.heap.size ≤ a) ∧ some a ≠ (.slice (some E) z.length ad : Value).ownBlock ∧ some a ≠ (.slice p l.length q : Value).ownBlock ∧ some a ≠ (.slice s m.length u : Value).ownBlock ∧ a ≠ d ∧ a ≠ c)) (by refine vV_ ?_; exact vm_ HO_659007.out (fun _ hk => ⟨⟨hk.1, ⟨hk.2.1, ⟨hk.2.2.2.1, ⟨hk.2.2.2.2.1, ⟨hk.2.2.2.2.2.1, hk.2.2.2.2.2.2⟩⟩⟩⟩⟩, hk.2.2.1⟩)) hg hat); replace HO_681001 := a_ (Kd.R_over' (vR_ HO_681001.out) (Kd.N_typed (vN_ HO_12.out)) (by decide) hg); replace HO_681002 := a_ (Kd.R_over' (vR_ HO_681002.out) (Kd.N_typed (vN_ HO_12.out)) (by decide) hg); replace HO_681003 := a_ (Kd.V_afterv (ok := (fun a => ((P0_3_ a ∨ P0_4_ a ∨ P0_5_ a ∨ P0_7_ a) ∨ w.heap.size ≤ a) ∧ some a ≠ (.slice (some E) z.length ad : Value).ownBlock ∧ some a ≠ (.slice p l.length q : Value).ownBlock ∧ some a ≠ (.slice s m.length u : Value).ownBlock ∧ a ≠ d ∧ a ≠ c)) (by refine vV_ ?_; exact vm_ HO_681003.out (fun _ hk => ⟨⟨hk.1, ⟨hk.2.1, ⟨hk.2.2.2.1, ⟨hk.2.2.2.2.1, ⟨hk.2.2.2.2.2.1, hk.2.2.2.2.2.2⟩⟩⟩⟩⟩, hk.2.2.1⟩)) hg hat); replace HO_681004 := a_ (Kd.V_afterv (ok := (fun a => ((P0_3_ a ∨ P0_4_ a ∨ P0_5_ a ∨ P0_7_ a) ∨ w.heap.size ≤ a) ∧ some a ≠ (.slice (some E) z.length ad : Value).ownBlock ∧ some a ≠ (.slice p l.length q : Value).ownBlock ∧ some a ≠ (.slice s m.length u : Value).ownBlock ∧ a ≠ d ∧ a ≠ c)) (by refine vV_ ?_; exact vm_ HO_681004.out (fun _ hk => ⟨⟨hk.1, ⟨hk.2.1, ⟨hk.2.2.2.1, ⟨hk.2.2.2.2.1, ⟨hk.2.2.2.2.2.1, hk.2.2.2.2.2.2⟩⟩⟩⟩⟩, hk.2.2.1⟩)) hg hat); replace HO_681005 := a_ (Kd.V_afterv (ok := (fun a => ((P0_3_ a ∨ P0_4_ a ∨ P0_5_ a ∨ P0_7_ a) ∨ w.heap.size ≤ a) ∧ some a ≠ (.slice (some E) z.length ad : Value).ownBlock ∧ some a ≠ (.slice p l.length q : Value).ownBlock ∧ some a ≠ (.slice s m.length u : Value).ownBlock ∧ a ≠ d ∧ a ≠ c)) (by refine vV_ ?_; exact vm_ HO_681005.out (fun _ hk => ⟨⟨hk.1, ⟨hk.2.1, ⟨hk.2.2.2.1, ⟨hk.2.2.2.2.1, ⟨hk.2.2.2.2.2.1, hk.2.2.2.2.2.2⟩⟩⟩⟩⟩, hk.2.2.1⟩)) hg hat); replace HO_681007 := a_ (Kd.V_afterv (ok := (fun a => ((P0_3_ a ∨ P0_4_ a ∨ P0_5_ a ∨ P0_7_ a) ∨ w.heap.size ≤ a) ∧ some a ≠ (.slice (some E) z.length ad : Value).ownBlock ∧ some a ≠ (.slice p l.length q : Value).ownBlock ∧ some a ≠ (.slice s m.length u : Value).ownBlock ∧ a ≠ d ∧ a ≠ c)) (by refine vV_ ?_; exact vm_ HO_681007.out (fun _ hk => ⟨⟨hk.1, ⟨hk.2.1, ⟨hk.2.2.2.1, ⟨hk.2.2.2.2.1, ⟨hk.2.2.2.2.2.1, hk.2.2.2.2.2.2⟩⟩⟩⟩⟩, hk.2.2.1⟩)) hg hat); replace v := a_ (blk_grown (bk_ v.out) hg (Kd.N_ne HO_12.out v.out (by decide))); replace y := a_ (blk_grown (bk_ y.out) hg (Kd.N_ne HO_12.out y.out (by decide))); replace HB := a_ (hb); have bM := a_ (ho); clear HO_12; clear ho hb hg hat))
   go_roundg k2
   case measure => have := a5.out; have := bn.out; omega
   exact ⟨(bv), (wrap64 (r + 1)), eq_, H', ⟨by have := a5.out; have := bn.out; omega⟩, ⟨by refine vN_ ?_; exact nm_ HO_11.out (fun _ hk => ⟨hk.1.1, ⟨hk.2, ⟨hk.1.2.1, ⟨hk.1.2.2.1, ⟨hk.1.2.2.2.1, hk.1.2.2.2.2⟩⟩⟩⟩⟩)⟩, ⟨vN_ bM.out⟩, ⟨by refine vV_ ?_; exact vm_ HO_659003.out (fun _ hk => ⟨hk.1.1, ⟨hk.1.2.1, ⟨hk.2, ⟨hk.1.2.2.1, ⟨hk.1.2.2.2.1, ⟨hk.1.2.2.2.2.1, hk.1.2.2.2.2.2⟩⟩⟩⟩⟩⟩)⟩, ⟨by refine vV_ ?_; exact vm_ HO_659004.out (fun _ hk => ⟨hk.1.1, ⟨hk.1.2.1, ⟨hk.2, ⟨hk.1.2.2.1, ⟨hk.1.2.2.2.1, ⟨hk.1.2.2.2.2.1, hk.1.2.2.2.2.2⟩⟩⟩⟩⟩⟩)⟩, ⟨by refine vV_ ?_; exact vm_ HO_659005.out (fun _ hk => ⟨hk.1.1, ⟨hk.1.2.1, ⟨hk.2, ⟨hk.1.2.2.1, ⟨hk.1.2.2.2.1, ⟨hk.1.2.2.2.2.1, hk.1.2.2.2.2.2⟩⟩⟩⟩⟩⟩)⟩, ⟨by refine vV_ ?_; exact vm_ HO_659007.out (fun _ hk => ⟨hk.1.1, ⟨hk.1.2.1, ⟨hk.2, ⟨hk.1.2.2.1, ⟨hk.1.2.2.2.1, ⟨hk.1.2.2.2.2.1, hk.1.2.2.2.2.2⟩⟩⟩⟩⟩⟩)⟩, ⟨vR_ HO_681001.out⟩, ⟨vR_ HO_681002.out⟩, ⟨by refine vV_ ?_; exact vm_ HO_681003.out (fun _ hk => ⟨hk.1.1, ⟨hk.1.2.1, ⟨hk.2, ⟨hk.1.2.2.1, ⟨hk.1.2.2.2.1, ⟨hk.1.2.2.2.2.1, hk.1.2.2.2.2.2⟩⟩⟩⟩⟩⟩)⟩, ⟨by refine vV_ ?_; exact vm_ HO_681004.out (fun _ hk => ⟨hk.1.1, ⟨hk.1.2.1, ⟨hk.2, ⟨hk.1.2.2.1, ⟨hk.1.2.2.2.1, ⟨hk.1.2.2.2.2.1, hk.1.2.2.2.2.2⟩⟩⟩⟩⟩⟩)⟩, ⟨by refine vV_ ?_; exact vm_ HO_681005.out (fun _ hk => ⟨hk.1.1, ⟨hk.1.2.1, ⟨hk.2, ⟨hk.1.2.2.1, ⟨hk.1.2.2.2.1, ⟨hk.1.2.2.2.2.1, hk.1.2.2.2.2.2⟩⟩⟩⟩⟩⟩)⟩, ⟨by refine vV_ ?_; exact vm_ HO_681007.out (fun _ hk => ⟨hk.1.1, ⟨hk.1.2.1, ⟨hk.2, ⟨hk.1.2.2.1, ⟨hk.1.2.2.2.1, ⟨hk.1.2.2.2.2.1, hk.1.2.2.2.2.2⟩⟩⟩⟩⟩⟩)⟩, ⟨bk_ v.out⟩, ⟨bk_ y.out⟩, ⟨bel_⟩⟩


def slices_Index_int_int.l0 : Nat → List Int → Int → Int → Int → Option (Int)
 | 0, _, _, _, _ => none
 | k + 1, b, c, d, a => if a < d then (if 0 ≤ a then (if a < (b.length : Int) then (if c = (rd b a) then (some a) else (slices_Index_int_int.l0 k b c d (wrap64 (a + 1)))) else (none)) else (none)) else (some (-1))
def slices_Index_int_int.f (k : Nat) (a : List Int) (b : Int) : Option (Int) := slices_Index_int_int.l0 k a b (a.length : Int) 0
theorem slices_Index_int_int.mono_l : ∀ k, (∀ a b c d, LeO (slices_Index_int_int.l0 k a b c d) (slices_Index_int_int.l0 (k + 1) a b c d))
 | 0 => by intros; exact LeO.none _
 | k + 1 => by
  have ih0 := slices_Index_int_int.mono_l k
  intro a b c d
  unfold slices_Index_int_int.l0
  exact leo_
theorem slices_Index_int_int.mono : ∀ a b k, LeO (slices_Index_int_int.f k a b) (slices_Index_int_int.f (k + 1) a b) := by
 intro a b k
 have ih0 := slices_Index_int_int.mono_l k
 unfold slices_Index_int_int.f
 exact leo_
set_option maxHeartbeats 8000000 in
set_option maxRecDepth 100000 in
theorem slices_Index_int_int.calls (k : Nat) (s : Option Addr) (c0 : Nat) (b : List Int) (d : Int) (r : Int) (w : World) (n : Kd.C (Kd.int .i64) w s b.length b) (o : b.length ≤ c0) (h : slices_Index_int_int.f k b d = some r) :
  Calls Tryz.prog 53 #[.slice s b.length c0, .int .i64 d] w fun e w' => e = .returned (.int .i64 r) ∧ Drawn0 w w' := by
 have p := a_ n
 have u := a_ o
 clear n o
 unfold slices_Index_int_int.f at h
 have H := h
 clear h
 have H' := a_ H
 clear H
 go_enter Tryz.func53, Tryz.ntmps53
 go_wp2
 go_loopg [8] k (fun kq t w' => ∃ (a : Int), t = .int .i64 a ∧ Aside0 (slices_Index_int_int.l0 kq b d (b.length : Int) a = some r) ∧ Aside0 (kq ≤ k) ∧ Drawn0 w w')
 case atStart => exact ⟨(0), eq_, H', ⟨lr_ _⟩, by repeat (first | exact d0_ _ | apply Drawn0.step)⟩
 clear H'
 try clear p2
 obtain ⟨a, rfl, HA, q, ⟨m1, rfl⟩⟩ := hrel
 cases gk with
 | zero => exact absurd HA.out (by simp [slices_Index_int_int.l0])
 | succ k1 =>
  have H := HA.out
  clear HA
  simp only [slices_Index_int_int.l0] at H
  by_cases c3 : a < (b.length : Int)
  rotate_left
  ·
   rw [ig_ c3] at H
   have c3b0 : decide (a < (b.length : Int)) = false := df_ c3
   clear c3
   obtain rfl := si_ H
   go_wp2
   go_ret
   exact ⟨by first | rfl | (simp; done) | (simp [*]; done), by repeat (first | exact d0_ _ | apply Drawn0.step)⟩
  rw [ip_ c3] at H
  have c3b0 : decide (a < (b.length : Int)) = true := dt_ c3
  clear c3
  by_cases c4 : 0 ≤ a
  rotate_left
  ·
   rw [ig_ c4] at H
   exact ab_ H
  rw [ip_ c4] at H
  have c4b0 : decide (0 ≤ a) = true := dt_ c4
  clear c4
  by_cases c5 : a < (b.length : Int)
  rotate_left
  ·
   rw [ig_ c5] at H
   exact ab_ H
  rw [ip_ c5] at H
  have c5b0 : decide (a < (b.length : Int)) = true := dt_ c5
  clear c5
  by_cases c6 : d = (rd b a)
  ·
   rw [ip_ c6] at H
   have c6b0 : (d == (rd b a)) = true := beq_iff_eq.mpr c6
   have c6b1 : (d != (rd b a)) = false := bn_.mpr c6
   clear c6
   obtain rfl := si_ H
   have p690 : 0 ≤ (a : Int) := dq_
   have c : a < (b.length : Int) := dq_
   obtain ⟨m, g, l⟩ := ai_ p.out a p690 c
   cases g
   replace p690 := et_ p690
   replace c := et_ c
   go_wp2
   go_ret
   exact ⟨by first | rfl | (simp; done) | (simp [*]; done), by repeat (first | exact d0_ _ | apply Drawn0.step)⟩
  rw [ig_ c6] at H
  have c6b0 : (d == (rd b a)) = false := be_.mpr c6
  have c6b1 : (d != (rd b a)) = true := ni_.mpr c6
  have H' := a_ H
  clear H
  have p690 : 0 ≤ (a : Int) := dq_
  have c : a < (b.length : Int) := dq_
  obtain ⟨m, g, l⟩ := ai_ p.out a p690 c
  cases g
  replace p690 := et_ p690
  replace c := et_ c
  go_wp2
  go_roundg k1
  case measure => have := q.out; omega
  exact ⟨(wrap64 (a + 1)), eq_, H', ⟨by have := q.out; omega⟩, by repeat (first | exact d0_ _ | apply Drawn0.step)⟩

def slices_Contains_int_int.f (k : Nat) (b : List Int) (c : Int) : Option (Bool) := (slices_Index_int_int.f k b c).bind fun a => (some (decide (a ≥ 0)))
theorem slices_Contains_int_int.mono : ∀ a b k, LeO (slices_Contains_int_int.f k a b) (slices_Contains_int_int.f (k + 1) a b) := by
 intro a b k
 unfold slices_Contains_int_int.f
 have m0 := @slices_Index_int_int.mono
 exact leo_
set_option maxHeartbeats 8000000 in
set_option maxRecDepth 100000 in
theorem slices_Contains_int_int.calls (k : Nat) (g : Option Addr) (c0 : Nat) (a : List Int) (b : Int) (r : Bool) (w : World) (c : Kd.C (Kd.int .i64) w g a.length a) (d : a.length ≤ c0) (h : slices_Contains_int_int.f k a b = some r) :
  Calls Tryz.prog 25 #[.slice g a.length c0, .int .i64 b] w fun e w' => e = .returned (.bool r) ∧ Drawn0 w w' := by
 have m := a_ c
 have n := a_ d
 clear c d
 unfold slices_Contains_int_int.f at h
 have H := h
 clear h
 replace H := bo_ H
 obtain ⟨l, o, H⟩ := H
 try dsimp only at H
 obtain rfl := si_ H
 go_enter Tryz.func25, Tryz.ntmps25
 go_wp2_with (first | ((with_reducible refine gate_callee (f := 53) rfl ?_); refine goesL_ (some 7) rfl rfl Tryz.func53 kr_ rfl #[.slice g a.length c0, .int .i64 b] rfl ar_ ?_; (with_reducible refine (slices_Index_int_int.calls k _ _ a b l _ ?_ ?_ o.out).mono ?_); exact ca_ (m.out); exact n.out; rintro e w' ⟨rfl, ⟨nd, rfl⟩⟩; refine ⟨_, rfl, ?_⟩))
 go_ret
 exact ⟨by first | rfl | (simp; done) | (simp [*]; done), by repeat (first | exact d0_ _ | apply Drawn0.step)⟩

end Go.Proofs.YtijjhobjmehhoaaGreatDoor.XGccKeeps
