/-
  What the walks say again and again, said once: each is its own statement, with the steps as auto-parameters.
-/
import Derived.Test.YtckfbfdnlpnllaaGreatDoorV
namespace Go.Proofs.YtckfbfdnlpnllaaGreatDoor.Sq
open Go.RowKit Go.Proofs.YtckfbfdnlpnllaaGreatDoorW.PrintWords Go.Proofs.YtckfbfdnlpnllaaGreatDoorW.PrintLast Go.Proofs.YtckfbfdnlpnllaaGreatDoorW.PrintMore
set_option linter.unusedVariables false
theorem bel_ {P : Prop} (h : P := by repeat (first | (with_reducible first | exact HB.out | apply below_alloc | apply pw_below_drewN | apply below_drew1 | refine below_set ?_ (Aside0.out (by assumption))) | exact HB.out)) : P := h
theorem vV_ {P Q : Prop} (h : Q) (k : Q → P := by (intro h_; (with_reducible repeat (first | apply Kd.V_alloc | apply Kd.V_drewN | apply Kd.V_drew)); exact h_)) : P := k h
theorem vN_ {P Q : Prop} (h : Q) (k : Q → P := by (intro h_; (with_reducible repeat (first | apply Kd.N_alloc | apply Kd.N_drewN | apply Kd.N_drew)); exact h_)) : P := k h
theorem vR_ {P Q : Prop} (h : Q) (k : Q → P := by (intro h_; (with_reducible repeat (first | apply Kd.R_alloc | apply Kd.R_drewN | apply Kd.R_drew)); exact h_)) : P := k h
theorem vS_ {P Q : Prop} (h : Q) (k : Q → P := by (intro h_; (with_reducible repeat (first | apply Kd.S_alloc | apply Kd.S_drewN | apply Kd.S_drew)); exact h_)) : P := k h
theorem vQ_ {P Q : Prop} (h : Q) (k : Q → P := by (intro h_; (with_reducible repeat (first | apply Kd.Q_alloc | apply Kd.Q_drewN | apply Kd.Q_drew)); exact h_)) : P := k h
theorem bk_ {P Q : Prop} (h : Q) (k : Q → P := by (intro h_; (with_reducible repeat (first | refine blk_drewN ?_ _ | refine blk_drew ?_ | refine blk_alloc ?_ _)); exact h_)) : P := k h
theorem bq_ {w W w1 : World} {g : Nat} {o : Obj} (h : w.heap[g]? = some o) (hb : Below W.heap.size W w1) (k : w.heap[g]? = some o → W.heap[g]? = some o := by (intro h_; (with_reducible repeat (first | refine blk_drewN ?_ _ | refine blk_drew ?_ | refine blk_alloc ?_ _)); exact h_)) : w1.heap[g]? = some o := blk_below (k h) hb
theorem nb_ {a : Nat} {o : Option Addr} {n m c c' : Nat} (h : some a ≠ (Value.slice o n c).ownBlock) : some a ≠ (Value.slice o m c').ownBlock := by cases o <;> exact h
theorem goeV_ {P : Program} {ops : Array Oper} {Q : Exit → Act → World → Prop} {oi : Oper} {N : Option Tmp} {a : Act} {w : World} {K : Act → World → Prop} {f : FuncId} {fn : Func} {c : Operand} {xs_ : Array Operand} {ts : Array TypeId} (hf : P.funcs[f]? = some fn) (hname : (fn.name == "runtime.NumGoroutine") = false) (hb : fn.body.isSome = true) (args : Array Value)
    (hw : Region.wanted oi (yielded ops a.tmps) = true) (hN : oi.dst = N) (hop : oi.op = .call { callee := .value c, args := xs_, argTypes := ts }) (hc : a.eval c = a.eval (.func f)) (hargs : xs_.map a.eval = args)
    (h : Calls P f args w fun e w' => ∃ v, e = .returned v ∧ K (a.put N v) w') : if Region.wanted oi (yielded ops a.tmps) = true then Oper.wp P oi a w K Q else K (a.put N undef) w := by
  refine call_ f args hw hN ?_ h
  have he := enters_ hf hname hb args w
  have hc' : a.eval c = Value.func (Fn.func f) #[] #[] := hc
  unfold execOp
  simp only [hop, resolve, hc', hargs]
  simp [Deferred.ofValue, invoke, he]
theorem ca_ {P Q : Prop} (h : Q) (k : Q → P := by (intro h_; repeat (first | exact h_ | (with_reducible refine Kd.C_alloc ?_ _) | (with_reducible refine Kd.C_drewN ?_ _) | (with_reducible refine Kd.C_drew ?_)))) : P := k h
theorem ar_ {P : Prop} (h : P := by ((try simp only [List.map_toArray, List.map_cons, List.map_nil]); first | done | rfl | (simp only [List.length_drop, List.length_take]; rfl))) : P := h
theorem bxe_ {P : Program} {ops : Array Oper} {rest : List Oper} {o : Oper} {a : Act} {Q : Exit → Act → World → Prop} {W : World} {N : Tmp} {cs : Array Value} {t : TypeId}
  (h : ∀ g, g = W.heap.size → ∀ w1, w1.heap[g]? = some (.cells cs t (0, 0)) → Below W.heap.size W w1 → wpList P ops Q rest (a.put o.dst (.pointer (some ⟨g, 0, none⟩))) w1)
  (hgd : o.guard = none := by rfl) (hd : o.dst = some N := by rfl)
  (hrun : (execOp a.eval o).run P W = .ok (.value (.pointer (some ⟨W.heap.size, 0, none⟩))) (W.alloc (.cells cs t (0, 0))) := by first | (go_simp; done) | (go_simp; rfl)) : wpList P ops Q (o :: rest) a W := box_event hgd hd hrun h
theorem eq_ {P : Prop} (h : P := by first | rfl | (simp; done) | (simp [*]; done)) : P := h
theorem nil_ {P : Prop} (h : P := by first | exact Kd.S_nil _ _ _ _ _ | exact Kd.N_nil _ _ _ _ _ | exact Kd.V_nil _ _ _ _ _ | exact Kd.Q_nil _ _ _ _ _ | exact Kd.R_nil _ _ _ _ _) : P := h
section
variable {P : Program} {md : Region.Mode} {ops : Array Oper} {ds : List Nat} {Q : Exit → Act → World → Prop} {S : World → Prop}
theorem pu_ {i : Nat} {N : Option Tmp} {oi : Oper} {v : Value} {fuel : Nat} {l : Array Bool} {a : Act} {w : World} (hc : anyB md ops l (l.setIfInBounds i true) i = true) {a' : Act} (h : wpAnyLast P md ops Q S ds fuel (l.setIfInBounds i true) a' w)
    (hi : ops[i]? = some oi := by rfl) (hN : oi.dst = N := by rfl) (hy : Yields P ops oi v a := by exact Or.inl ⟨by rfl, by (intro w'; go_simp; with_reducible rfl)⟩) (ha : a.put N v = a' := by (simp only [Act.put, List.setIfInBounds_toArray, List.set_cons_zero, List.set_cons_succ, i64_w, i32_w]; rfl))
    (hQ : ∀ c a w, Q (.panic c) (a.put oi.dst v) w → Q (.panic c) a w := by exact fun _ _ _ h => h) : wpAnyLast P md ops Q S ds (fuel + 1) l a w := pure_ _ hi hN hc hQ hy ha h
theorem und_ {i : Nat} {N : Option Tmp} {oi : Oper} {fuel : Nat} {l : Array Bool} {a : Act} {w : World} (hc : anyB md ops l (l.setIfInBounds i true) i = true) {a' : Act} (h : wpAnyLast P md ops Q S ds fuel (l.setIfInBounds i true) a' w)
    (hi : ops[i]? = some oi := by rfl) (hN : oi.dst = N := by rfl) (hy : Yields P ops oi undef a := by exact Or.inr ⟨by rfl, rfl⟩) (ha : a.put N undef = a' := by (simp only [Act.put, List.setIfInBounds_toArray, List.set_cons_zero, List.set_cons_succ, i64_w, i32_w]; rfl))
    (hQ : ∀ c a w, Q (.panic c) (a.put oi.dst undef) w → Q (.panic c) a w := by exact fun _ _ _ h => h) : wpAnyLast P md ops Q S ds (fuel + 1) l a w := pure_ _ hi hN hc hQ hy ha h
theorem tak_ {i : Nat} {N : Option Tmp} {oi : Oper} {v : Value} {fuel : Nat} {l : Array Bool} {a : Act} {w : World} (hc : takeB md ops ds l (l.setIfInBounds i true) i = true) (hS : S w) {a' : Act} (h : wpAnyLast P md ops Q S ds fuel (l.setIfInBounds i true) a' w)
    (hi : ops[i]? = some oi := by rfl) (hN : oi.dst = N := by rfl) (hy : YieldsIf P ops S oi v a := by exact Or.inl ⟨by rfl, by (intro w' hs_; (repeat (have s_ := And.left hs_; replace hs_ := And.right hs_)); go_simp; with_reducible rfl)⟩) (ha : a.put N v = a' := by (simp only [Act.put, List.setIfInBounds_toArray, List.set_cons_zero, List.set_cons_succ, i64_w, i32_w]; rfl))
    (hQ : ∀ c a w, Q (.panic c) (a.put oi.dst v) w → Q (.panic c) a w := by exact fun _ _ _ h => h) : wpAnyLast P md ops Q S ds (fuel + 1) l a w := take_ _ hi hN hc hQ hy hS ha h
theorem pn_ (i n : Nat) {oi : Oper} {v : Value} {fuel : Nat} {l : Array Bool} {a : Act} {w : World} (hc : anyB md ops l (l.setIfInBounds i true) i = true) {a' : Act} (h : wpAnyLast P md ops Q S ds fuel (l.setIfInBounds i true) a' w)
    (hi : ops[i]? = some oi := by rfl) (hN : oi.dst = some n := by rfl) (hy : Yields P ops oi v a := by exact Or.inl ⟨by rfl, by (intro w'; go_simp; with_reducible rfl)⟩) (ha : a.put (some n) v = a' := by (simp only [Act.put, List.setIfInBounds_toArray, List.set_cons_zero, List.set_cons_succ, i64_w, i32_w]; rfl))
    (hQ : ∀ c a w, Q (.panic c) (a.put oi.dst v) w → Q (.panic c) a w := by exact fun _ _ _ h => h) : wpAnyLast P md ops Q S ds (fuel + 1) l a w := pu_ hc h hi hN hy ha hQ
theorem tn_ (i n : Nat) {oi : Oper} {v : Value} {fuel : Nat} {l : Array Bool} {a : Act} {w : World} (hc : takeB md ops ds l (l.setIfInBounds i true) i = true) (hS : S w) {a' : Act} (h : wpAnyLast P md ops Q S ds fuel (l.setIfInBounds i true) a' w)
    (hi : ops[i]? = some oi := by rfl) (hN : oi.dst = some n := by rfl) (hy : YieldsIf P ops S oi v a := by exact Or.inl ⟨by rfl, by (intro w' hs_; (repeat (have s_ := And.left hs_; replace hs_ := And.right hs_)); go_simp; with_reducible rfl)⟩) (ha : a.put (some n) v = a' := by (simp only [Act.put, List.setIfInBounds_toArray, List.set_cons_zero, List.set_cons_succ, i64_w, i32_w]; rfl))
    (hQ : ∀ c a w, Q (.panic c) (a.put oi.dst v) w → Q (.panic c) a w := by exact fun _ _ _ h => h) : wpAnyLast P md ops Q S ds (fuel + 1) l a w := tak_ hc hS h hi hN hy ha hQ
theorem nor_ {N : Option Tmp} {v : Value} {fuel : Nat} {l : Array Bool} {a a' : Act} {w : World} (h : wpAnyLast P md ops Q S ds fuel l a' w) (ha : a.put N v = a' := by (simp only [Act.put, List.setIfInBounds_toArray, List.set_cons_zero, List.set_cons_succ, i64_w, i32_w]; rfl)) : wpAnyLast P md ops Q S ds fuel l (a.put N v) w := norm_ ha h
end
theorem leo_ {P : Prop} (h : P := by
  repeat' first
  | (with_reducible apply ih0)
  | (with_reducible apply ih1)
  | (with_reducible apply ih2)
  | (with_reducible apply ih3)
  | (with_reducible apply ih4)
  | (with_reducible apply ih5)
  | (with_reducible apply ih6)
  | (with_reducible apply ih7)
  | (with_reducible apply ih8)
  | (with_reducible apply ih9)
  | (with_reducible apply m0)
  | (with_reducible apply m1)
  | (with_reducible apply m2)
  | (with_reducible apply m3)
  | (with_reducible apply m4)
  | (with_reducible apply m5)
  | (with_reducible apply m6)
  | (with_reducible apply m7)
  | (with_reducible apply m8)
  | (with_reducible apply m9)
  | (with_reducible apply m10)
  | (with_reducible apply m11)
  | (with_reducible apply m12)
  | (with_reducible apply m13)
  | (with_reducible apply m14)
  | (with_reducible apply m15)
  | (with_reducible apply m16)
  | (with_reducible apply m17)
  | (with_reducible apply m18)
  | (with_reducible apply m19)
  | (with_reducible exact LeO.refl _)
  | (with_reducible exact LeO.none _)
  | (with_reducible refine LeO.ite ?_ ?_)
  | (with_reducible refine LeO.bind ?_ (fun _ => ?_))
  | apply ih0
  | apply ih1
  | apply ih2
  | apply ih3
  | apply ih4
  | apply ih5
  | apply ih6
  | apply ih7
  | apply ih8
  | apply ih9
  | exact LeO.none _
  | refine LeO.ite ?_ ?_
  | refine LeO.bind ?_ (fun _ => ?_)) : P := h
section
variable {w : World} {g t : Nat} {a b c d e f i j : Value} {R : Prop}
theorem cb1_ (h : w.heap[g]? = some (.cells #[a] t (0, 0))) (r : R) : w.cell? ⟨g, 0, none⟩ = some a ∧ R := ⟨(blk_cell h 0).trans rfl, r⟩
theorem cb5_ (h : w.heap[g]? = some (.cells #[a, b, c, d, e] t (0, 0))) (r : R) : w.cell? ⟨g, 0, none⟩ = some a ∧ w.cell? ⟨g, 1, none⟩ = some b ∧ w.cell? ⟨g, 2, none⟩ = some c ∧ w.cell? ⟨g, 3, none⟩ = some d ∧ w.cell? ⟨g, 4, none⟩ = some e ∧ R := ⟨(blk_cell h 0).trans rfl, (blk_cell h 1).trans rfl, (blk_cell h 2).trans rfl, (blk_cell h 3).trans rfl, (blk_cell h 4).trans rfl, r⟩
theorem ca5_ (h : w.heap[g]? = some (.cells #[a, b, c, d, e] t (0, 0))) : w.cell? ⟨g, 0, none⟩ = some a ∧ w.cell? ⟨g, 1, none⟩ = some b ∧ w.cell? ⟨g, 2, none⟩ = some c ∧ w.cell? ⟨g, 3, none⟩ = some d ∧ w.cell? ⟨g, 4, none⟩ = some e := ⟨(blk_cell h 0).trans rfl, (blk_cell h 1).trans rfl, (blk_cell h 2).trans rfl, (blk_cell h 3).trans rfl, (blk_cell h 4).trans rfl⟩
theorem cb6_ (h : w.heap[g]? = some (.cells #[a, b, c, d, e, f] t (0, 0))) (r : R) : w.cell? ⟨g, 0, none⟩ = some a ∧ w.cell? ⟨g, 1, none⟩ = some b ∧ w.cell? ⟨g, 2, none⟩ = some c ∧ w.cell? ⟨g, 3, none⟩ = some d ∧ w.cell? ⟨g, 4, none⟩ = some e ∧ w.cell? ⟨g, 5, none⟩ = some f ∧ R := ⟨(blk_cell h 0).trans rfl, (blk_cell h 1).trans rfl, (blk_cell h 2).trans rfl, (blk_cell h 3).trans rfl, (blk_cell h 4).trans rfl, (blk_cell h 5).trans rfl, r⟩
theorem ca6_ (h : w.heap[g]? = some (.cells #[a, b, c, d, e, f] t (0, 0))) : w.cell? ⟨g, 0, none⟩ = some a ∧ w.cell? ⟨g, 1, none⟩ = some b ∧ w.cell? ⟨g, 2, none⟩ = some c ∧ w.cell? ⟨g, 3, none⟩ = some d ∧ w.cell? ⟨g, 4, none⟩ = some e ∧ w.cell? ⟨g, 5, none⟩ = some f := ⟨(blk_cell h 0).trans rfl, (blk_cell h 1).trans rfl, (blk_cell h 2).trans rfl, (blk_cell h 3).trans rfl, (blk_cell h 4).trans rfl, (blk_cell h 5).trans rfl⟩
theorem cb7_ (h : w.heap[g]? = some (.cells #[a, b, c, d, e, f, i] t (0, 0))) (r : R) : w.cell? ⟨g, 0, none⟩ = some a ∧ w.cell? ⟨g, 1, none⟩ = some b ∧ w.cell? ⟨g, 2, none⟩ = some c ∧ w.cell? ⟨g, 3, none⟩ = some d ∧ w.cell? ⟨g, 4, none⟩ = some e ∧ w.cell? ⟨g, 5, none⟩ = some f ∧ w.cell? ⟨g, 6, none⟩ = some i ∧ R := ⟨(blk_cell h 0).trans rfl, (blk_cell h 1).trans rfl, (blk_cell h 2).trans rfl, (blk_cell h 3).trans rfl, (blk_cell h 4).trans rfl, (blk_cell h 5).trans rfl, (blk_cell h 6).trans rfl, r⟩
theorem ca7_ (h : w.heap[g]? = some (.cells #[a, b, c, d, e, f, i] t (0, 0))) : w.cell? ⟨g, 0, none⟩ = some a ∧ w.cell? ⟨g, 1, none⟩ = some b ∧ w.cell? ⟨g, 2, none⟩ = some c ∧ w.cell? ⟨g, 3, none⟩ = some d ∧ w.cell? ⟨g, 4, none⟩ = some e ∧ w.cell? ⟨g, 5, none⟩ = some f ∧ w.cell? ⟨g, 6, none⟩ = some i := ⟨(blk_cell h 0).trans rfl, (blk_cell h 1).trans rfl, (blk_cell h 2).trans rfl, (blk_cell h 3).trans rfl, (blk_cell h 4).trans rfl, (blk_cell h 5).trans rfl, (blk_cell h 6).trans rfl⟩
theorem cb8_ (h : w.heap[g]? = some (.cells #[a, b, c, d, e, f, i, j] t (0, 0))) (r : R) : w.cell? ⟨g, 0, none⟩ = some a ∧ w.cell? ⟨g, 1, none⟩ = some b ∧ w.cell? ⟨g, 2, none⟩ = some c ∧ w.cell? ⟨g, 3, none⟩ = some d ∧ w.cell? ⟨g, 4, none⟩ = some e ∧ w.cell? ⟨g, 5, none⟩ = some f ∧ w.cell? ⟨g, 6, none⟩ = some i ∧ w.cell? ⟨g, 7, none⟩ = some j ∧ R := ⟨(blk_cell h 0).trans rfl, (blk_cell h 1).trans rfl, (blk_cell h 2).trans rfl, (blk_cell h 3).trans rfl, (blk_cell h 4).trans rfl, (blk_cell h 5).trans rfl, (blk_cell h 6).trans rfl, (blk_cell h 7).trans rfl, r⟩
theorem ca8_ (h : w.heap[g]? = some (.cells #[a, b, c, d, e, f, i, j] t (0, 0))) : w.cell? ⟨g, 0, none⟩ = some a ∧ w.cell? ⟨g, 1, none⟩ = some b ∧ w.cell? ⟨g, 2, none⟩ = some c ∧ w.cell? ⟨g, 3, none⟩ = some d ∧ w.cell? ⟨g, 4, none⟩ = some e ∧ w.cell? ⟨g, 5, none⟩ = some f ∧ w.cell? ⟨g, 6, none⟩ = some i ∧ w.cell? ⟨g, 7, none⟩ = some j := ⟨(blk_cell h 0).trans rfl, (blk_cell h 1).trans rfl, (blk_cell h 2).trans rfl, (blk_cell h 3).trans rfl, (blk_cell h 4).trans rfl, (blk_cell h 5).trans rfl, (blk_cell h 6).trans rfl, (blk_cell h 7).trans rfl⟩
end
section
variable {α : Type} {d : Kd α} {e : Nat} {W : World} {base : Nat} {A : Nat → Prop} {v : Value} {xs : List α} {p : Addr} {u : Value}
theorem fV_ (h : Kd.V d e W base (fun k => A k ∧ k ≠ p.block) v xs) : Kd.V d e (W.setCell p u) base (fun k => A k ∧ k ≠ p.block) v xs := Kd.V_far h (fun _ hk => hk.2) u
theorem fR_ (h : Kd.R d e W base (fun k => A k ∧ k ≠ p.block) v xs) : Kd.R d e (W.setCell p u) base (fun k => A k ∧ k ≠ p.block) v xs := Kd.R_far h (fun _ hk => hk.2) u
theorem fN_ (h : Kd.N d e W base (fun k => A k ∧ k ≠ p.block) v xs) : Kd.N d e (W.setCell p u) base (fun k => A k ∧ k ≠ p.block) v xs := Kd.N_far h (fun _ hk => hk.2) u
theorem fS_ (h : Kd.S d e W base (fun k => A k ∧ k ≠ p.block) v xs) : Kd.S d e (W.setCell p u) base (fun k => A k ∧ k ≠ p.block) v xs := Kd.S_far h (fun _ hk => hk.2) u
end
theorem dq_ {p : Prop} [Decidable p] (h : decide p = true := by first | (with_reducible assumption) | assumption) : p := of_decide_eq_true h
section
variable {w : World} {g t : Nat} {a b c d e f i j : Value}
theorem cel1_ (h : w.heap[g]? = some (.cells #[a] t (0, 0))) : w.cell? ⟨g, 0, none⟩ = some a ∧ w.frozen? ⟨g, 0, none⟩ = false := ⟨(blk_cell h 0).trans rfl, blk_frozen h 0⟩
theorem cel5_ (h : w.heap[g]? = some (.cells #[a, b, c, d, e] t (0, 0))) : w.cell? ⟨g, 0, none⟩ = some a ∧ w.cell? ⟨g, 1, none⟩ = some b ∧ w.cell? ⟨g, 2, none⟩ = some c ∧ w.cell? ⟨g, 3, none⟩ = some d ∧ w.cell? ⟨g, 4, none⟩ = some e ∧ w.frozen? ⟨g, 0, none⟩ = false ∧ w.frozen? ⟨g, 1, none⟩ = false ∧ w.frozen? ⟨g, 2, none⟩ = false ∧ w.frozen? ⟨g, 3, none⟩ = false ∧ w.frozen? ⟨g, 4, none⟩ = false :=
  ⟨(blk_cell h 0).trans rfl, (blk_cell h 1).trans rfl, (blk_cell h 2).trans rfl, (blk_cell h 3).trans rfl, (blk_cell h 4).trans rfl, blk_frozen h 0, blk_frozen h 1, blk_frozen h 2, blk_frozen h 3, blk_frozen h 4⟩
theorem cel6_ (h : w.heap[g]? = some (.cells #[a, b, c, d, e, f] t (0, 0))) : w.cell? ⟨g, 0, none⟩ = some a ∧ w.cell? ⟨g, 1, none⟩ = some b ∧ w.cell? ⟨g, 2, none⟩ = some c ∧ w.cell? ⟨g, 3, none⟩ = some d ∧ w.cell? ⟨g, 4, none⟩ = some e ∧ w.cell? ⟨g, 5, none⟩ = some f ∧ w.frozen? ⟨g, 0, none⟩ = false ∧ w.frozen? ⟨g, 1, none⟩ = false ∧ w.frozen? ⟨g, 2, none⟩ = false ∧ w.frozen? ⟨g, 3, none⟩ = false ∧ w.frozen? ⟨g, 4, none⟩ = false ∧ w.frozen? ⟨g, 5, none⟩ = false :=
  ⟨(blk_cell h 0).trans rfl, (blk_cell h 1).trans rfl, (blk_cell h 2).trans rfl, (blk_cell h 3).trans rfl, (blk_cell h 4).trans rfl, (blk_cell h 5).trans rfl, blk_frozen h 0, blk_frozen h 1, blk_frozen h 2, blk_frozen h 3, blk_frozen h 4, blk_frozen h 5⟩
theorem cel8_ (h : w.heap[g]? = some (.cells #[a, b, c, d, e, f, i, j] t (0, 0))) : w.cell? ⟨g, 0, none⟩ = some a ∧ w.cell? ⟨g, 1, none⟩ = some b ∧ w.cell? ⟨g, 2, none⟩ = some c ∧ w.cell? ⟨g, 3, none⟩ = some d ∧ w.cell? ⟨g, 4, none⟩ = some e ∧ w.cell? ⟨g, 5, none⟩ = some f ∧ w.cell? ⟨g, 6, none⟩ = some i ∧ w.cell? ⟨g, 7, none⟩ = some j ∧ w.frozen? ⟨g, 0, none⟩ = false ∧ w.frozen? ⟨g, 1, none⟩ = false ∧ w.frozen? ⟨g, 2, none⟩ = false ∧ w.frozen? ⟨g, 3, none⟩ = false ∧ w.frozen? ⟨g, 4, none⟩ = false ∧ w.frozen? ⟨g, 5, none⟩ = false ∧ w.frozen? ⟨g, 6, none⟩ = false ∧ w.frozen? ⟨g, 7, none⟩ = false :=
  ⟨(blk_cell h 0).trans rfl, (blk_cell h 1).trans rfl, (blk_cell h 2).trans rfl, (blk_cell h 3).trans rfl, (blk_cell h 4).trans rfl, (blk_cell h 5).trans rfl, (blk_cell h 6).trans rfl, (blk_cell h 7).trans rfl, blk_frozen h 0, blk_frozen h 1, blk_frozen h 2, blk_frozen h 3, blk_frozen h 4, blk_frozen h 5, blk_frozen h 6, blk_frozen h 7⟩
end
theorem er_ {P : Prop} (h : P := by first | rfl | (simp [errW_none, errW_some] <;> rfl) | (simp [*, errW_none, errW_some] <;> rfl)) : P := h
theorem kr_ {P : Prop} (h : P := by kernel_rfl) : P := h
theorem ao_ {P : Prop} (h : P := by exact any_of HT_.out (by kernel_rfl)) : P := h
theorem tw_ {P : Prop} (h : P := by exact take_ofW HT_.out HW_.out (by kernel_rfl)) : P := h
theorem dn_ {P : Prop} (h : P := by exact done_of HT_.out (by kernel_rfl)) : P := h
theorem on_ {P : Prop} (h : P := by exact one_of HT_.out (by kernel_rfl)) : P := h
theorem hq_ {w W w2 : World} (k : Below W.heap.size W w2) (h : Below w.heap.size w W := by repeat (first | (with_reducible first | exact HB.out | apply below_alloc | apply pw_below_drewN | apply below_drew1 | refine below_set ?_ (Aside0.out (by assumption))) | exact HB.out)) : Aside0 (Below w.heap.size w w2) := ⟨below_step h k⟩
theorem bo_.{u, v} {α : Type u} {β : Type v} {x : Option α} {f : α → Option β} {b : β} (h : x.bind f = some b) : ∃ a, Aside0 (x = some a) ∧ f a = some b := by
 obtain ⟨a, h1, h2⟩ := Option.bind_eq_some_iff.mp h
 exact ⟨a, ⟨h1⟩, h2⟩
/- aliases: shorter names of the kit's lemmas -/
theorem a_ {p : Prop} (h : p) : Aside0 p := Aside0.mk h
theorem wl_ : ∀ (w : World) (a : Addr) {u : Value}, w.cell? a = some u → a.block < w.heap.size := @World.block_lt_of_cell?
theorem bs_.{u_1, u_2} : ∀ {α : Type u_1} {b : α} {α_1 : Type u_2} {x : Option α_1} {f : α_1 → Option α}, x.bind f = some b ↔ ∃ a, x = some a ∧ f a = some b := @Option.bind_eq_some_iff
theorem dt_ : ∀ {p : Prop} [inst : Decidable p], p → decide p = true := @decide_eq_true
theorem bz_ : ∀ {w W : World}, Below w.heap.size w W → w.heap.size ≤ W.heap.size := @below_size
theorem et_ : ∀ {p : Prop}, p → p = True := @eq_true
theorem bp_ : ∀ {w W w2 : World}, Below w.heap.size w W → Below W.heap.size W w2 → Below w.heap.size w w2 := @below_step
theorem si_.{u_1} : ∀ {α : Type u_1} {val val_1 : α}, some val = some val_1 → val = val_1 := @Option.some.inj
theorem vm_ : ∀ {α : Type} {d : Kd α} {e base : Nat} {ok ok' : Nat → Prop} {W : World} {v : Value} {xs : List α}, d.V e W base ok v xs → (∀ (k : Nat), ok k → ok' k) → d.V e W base ok' v xs := @Kd.V_mono
theorem ob_.{u_1, u_2} : ∀ {α : Type u_1} {β : Type u_2} (a : α) (f : α → Option β), (some a).bind f = f a := @Option.bind_some
theorem cb_ : ∀ {α : Type} {d : Kd α} {w w1 : World} {xs : List α} {A : Option Addr} {n : Nat}, d.C w A n xs → Below w.heap.size w w1 → d.C w1 A n xs := @Kd.C_below
theorem df_ : ∀ {p : Prop} [inst : Decidable p], ¬p → decide p = false := @decide_eq_false
theorem rm_ : ∀ {α : Type} {d : Kd α} {e : Nat} {w : World} {base : Nat} {ok ok' : Nat → Prop} {v : Value} {xs : List α}, d.R e w base ok v xs → (∀ (k : Nat), ok k → ok' k) → d.R e w base ok' v xs := @Kd.R_mono
theorem bb_ : ∀ {w w1 : World} {g : Nat} {o : Obj}, w.heap[g]? = some o → Below w.heap.size w w1 → w1.heap[g]? = some o := @blk_below
theorem ip_.{u_1} : ∀ {c : Prop} {h : Decidable c}, c → ∀ {α : Sort u_1} {t e : α}, (if c then t else e) = t := @if_pos
theorem ig_.{u_1} : ∀ {c : Prop} {h : Decidable c}, ¬c → ∀ {α : Sort u_1} {t e : α}, (if c then t else e) = e := @if_neg
theorem rb_ : ∀ {α : Type} {d : Kd α} {e : Nat} {w w1 : World} {base : Nat} {ok : Nat → Prop} {v : Value} {xs : List α}, d.R e w base ok v xs → Below w.heap.size w w1 → d.R e w1 base ok v xs := @Kd.R_below
theorem ai_ : ∀ {w : World} {A : Option Addr} {n : Nat} {k : IntKind} {xs : List Int}, (Kd.int k).C w A n xs → ∀ (i : Int), 0 ≤ i → i < ↑n → ∃ ad, A = some ad ∧ w.cell? (ad.add i.toNat) = some (Value.int k (rd xs i)) := @Kd.at_int
theorem fr_ : ∀ {W : World} {u : Value}, (∀ (k : Nat), u.ownBlock = some k → k < W.heap.size) → ∀ (k : Nat), W.heap.size ≤ k → some k ≠ u.ownBlock := @Kd.fresh'
theorem be_.{u_1} : ∀ {α : Type u_1} [inst : BEq α] [LawfulBEq α] {a b : α}, (a == b) = false ↔ a ≠ b := @beq_eq_false_iff_ne
theorem bf_ : ∀ {b : Bool}, b = false ↔ b ≠ true := @Bool.eq_false_iff
theorem rr_ : ∀ {α : Type} {d : Kd α} {e : Nat} {w : World} {base : Nat} {ok : Nat → Prop} {xs : List α} {A : Option Addr} {n c : Nat}, d.R e w base ok (Value.slice A n c) xs → n = xs.length ∧ n ≤ c ∧ d.C w A xs.length xs := @Kd.R_reads'
theorem rt_ : ∀ {α : Type} {d : Kd α} {e : Nat} {w : World} {base : Nat} {ok : Nat → Prop} {v : Value} {xs : List α}, d.R e w base ok v xs → ∀ {g t : Nat} {cells : Array Value}, w.heap[g]? = some (Obj.cells cells t) → (∀ (q : Nat), q ∈ e :: d.E → q ≠ t) → d.R e w base (fun k => ok k ∧ k ≠ g) v xs := @Kd.R_types
theorem rl_ : ∀ {α : Type} {d : Kd α} {e : Nat} {w : World} {base : Nat} {ok : Nat → Prop} {v : Value} {xs : List α}, d.R e w base ok v xs → ∀ (k : Nat), v.ownBlock = some k → k < w.heap.size := @Kd.R_lt
theorem lr_ : ∀ (n : Nat), n ≤ n := @Nat.le_refl
theorem bn_.{u_1} : ∀ {α : Type u_1} [inst : BEq α] [LawfulBEq α] {a b : α}, (a != b) = false ↔ a = b := @bne_eq_false_iff_eq
theorem rs_ : ∀ {α : Type} {d : Kd α} {e : Nat} {w : World} {base : Nat} {ok : Nat → Prop} {v : Value} {xs : List α}, d.R e w base ok v xs → ∀ (k : Nat), v.ownBlock = some k → base ≤ k := @Kd.R_base
theorem bu_ : ∀ {w : World} {g : Nat} {t : TypeId} {cs cs' : Array Value}, w.heap[g]? = some (Obj.cells cs t) → ∀ (i : Nat) (u : Value), cs.setIfInBounds i u = cs' → (w.setCell { block := g, off := i } u).heap[g]? = some (Obj.cells cs' t) := @blk_put
theorem ni_.{u_1} : ∀ {α : Type u_1} [inst : BEq α] [LawfulBEq α] {a b : α}, (a != b) = true ↔ a ≠ b := @bne_iff_ne
theorem d0_ : ∀ (w : World), Drawn0 w w := @Drawn0.refl
theorem vb_ : ∀ {α : Type} {d : Kd α} {e base : Nat} {ok : Nat → Prop} {W w1 : World} {v : Value} {xs : List α}, d.V e W base ok v xs → Below W.heap.size W w1 → d.V e w1 base ok v xs := @Kd.V_below
theorem nm_ : ∀ {α : Type} {d : Kd α} {e base : Nat} {ok ok' : Nat → Prop} {w : World} {v : Value} {xs : List α}, d.N e w base ok v xs → (∀ (k : Nat), ok k → ok' k) → d.N e w base ok' v xs := @Kd.N_mono
theorem onn_ (i n : Nat) {P : Program} {md : Region.Mode} {ops : Array Oper} {ds : List Nat} {Q : Exit → Act → World → Prop} {S : World → Prop} {oi : Oper} {fuel : Nat} {l : Array Bool} {a : Act} {w : World} (l' : Array Bool) (hi : ops[i]? = some oi) (hN : oi.dst = some n) (hc : readyB md ops l l' i = true) (hd : i ∉ ds)
    (h : ∀ K : Act → World → Prop, Shut (∀ a' w', S w' → (S w' → wpAnyLast P md ops Q S ds fuel l' a' w') → K a' w') → if Region.wanted oi (yielded ops a.tmps) = true then Oper.wp P oi a w K Q else K (a.put (some n) undef) w) :
    wpAnyLast P md ops Q S ds (fuel + 1) l a w := one_ l' hi hN hc hd h
theorem hx_ {w W : World} {a : Addr} {u : Value} (HB : Aside0 (Below w.heap.size w W)) (h : w.cell? a = some u) : W.cell? a = some u := (HB.out.cell (wl_ w _ h)).trans h
theorem ab_ {P Q : Prop} (h : P) (k : ¬ P := by simp) : Q := absurd h k
theorem t0_ : (0 : Int).toNat = 0 := rfl
theorem t1_ : (1 : Int).toNat = 1 := rfl
theorem t2_ : (2 : Int).toNat = 2 := rfl
theorem t3_ : (3 : Int).toNat = 3 := rfl
theorem t4_ : (4 : Int).toNat = 4 := rfl
theorem t5_ : (5 : Int).toNat = 5 := rfl
theorem n35_ : 3 * 5 = 15 := rfl
theorem n45_ : 4 * 5 = 20 := rfl
theorem n55_ : 5 * 5 = 25 := rfl
theorem n05_ : 0 * 5 = 0 := rfl
theorem n15_ : 1 * 5 = 5 := rfl
theorem n25_ : 2 * 5 = 10 := rfl
theorem h2_ {P Q : Prop} {α : Type} {x y : α} (H : P) (e : x = y) (k : P → x = y → Q := by (intro H e; first | (rw [e]; with_reducible exact H) | (have H2_ := (ob_ _ _).symm.trans H; rw [e]; with_reducible exact H2_) | (have H2_ := (ob_ _ _).symm.trans H; with_reducible exact H2_) | with_reducible exact H | (rw [e]; exact H) | exact H)) : Q := k H e
section
variable {β : Type} {x : Option β} {r : β}
theorem gu_ {c : Prop} [Decidable c] (H : (if c then x else none) = some r) : decide c = true ∧ x = some r := by
 by_cases h : c
 · exact ⟨decide_eq_true h, (if_pos h).symm.trans H⟩
 · exact nomatch (if_neg h).symm.trans H
theorem gp_ {c : Prop} [Decidable c] (H : (if c then x else none) = some r) : c ∧ x = some r := ⟨of_decide_eq_true (gu_ H).1, (gu_ H).2⟩
theorem ga_ {c : Prop} [Decidable c] (H : (if c then x else none) = some r) : Aside0 c ∧ x = some r := ⟨⟨(gp_ H).1⟩, (gu_ H).2⟩
theorem ge_ {c : Prop} [Decidable c] (H : (if c then x else none) = some r) : c = True ∧ decide c = true ∧ x = some r := ⟨eq_true (gp_ H).1, gu_ H⟩
theorem gn_ {c : Prop} [Decidable c] (H : (if c then none else x) = some r) : ¬ c ∧ x = some r := by
 by_cases h : c
 · exact nomatch (if_pos h).symm.trans H
 · exact ⟨h, (if_neg h).symm.trans H⟩
theorem gq_ {γ : Type} [BEq γ] [LawfulBEq γ] {a b : γ} [Decidable (a = b)] (H : (if a = b then x else none) = some r) : (a == b) = true ∧ (a != b) = false ∧ x = some r := ⟨beq_iff_eq.mpr (gp_ H).1, bne_eq_false_iff_eq.mpr (gp_ H).1, (gu_ H).2⟩
theorem gz_ {γ : Type} [BEq γ] [LawfulBEq γ] {a b : γ} [Decidable (a = b)] (H : (if a = b then none else x) = some r) : a ≠ b ∧ (a == b) = false ∧ (a != b) = true ∧ x = some r := ⟨(gn_ H).1, beq_eq_false_iff_ne.mpr (gn_ H).1, bne_iff_ne.mpr (gn_ H).1, (gn_ H).2⟩
theorem gf_ {b : Bool} (H : (if b = true then none else x) = some r) : b = false ∧ x = some r := ⟨Bool.eq_false_iff.mpr (gn_ H).1, (gn_ H).2⟩
theorem nt_ {y z : Option β} (H : (if false = true then y else x) = z) : x = z := H
end
section
variable {β : Type} {x y z : β}
theorem cf_ {c : Prop} [Decidable c] (H : (if c then x else y) = z) : (decide c = false ∧ y = z) ∨ (decide c = true ∧ x = z) := by
 by_cases h : c
 · exact .inr ⟨decide_eq_true h, (if_pos h).symm.trans H⟩
 · exact .inl ⟨decide_eq_false h, (if_neg h).symm.trans H⟩
theorem ct_ {c : Prop} [Decidable c] (H : (if c then x else y) = z) : (decide c = true ∧ x = z) ∨ (decide c = false ∧ y = z) := (cf_ H).symm
theorem ef_ {γ : Type} [BEq γ] [LawfulBEq γ] {a b : γ} [Decidable (a = b)] (H : (if a = b then x else y) = z) : (a ≠ b ∧ (a == b) = false ∧ (a != b) = true ∧ y = z) ∨ (a = b ∧ (a == b) = true ∧ (a != b) = false ∧ x = z) := by
 by_cases h : a = b
 · exact .inr ⟨h, beq_iff_eq.mpr h, bne_eq_false_iff_eq.mpr h, (if_pos h).symm.trans H⟩
 · exact .inl ⟨h, beq_eq_false_iff_ne.mpr h, bne_iff_ne.mpr h, (if_neg h).symm.trans H⟩
theorem eg_ {γ : Type} [BEq γ] [LawfulBEq γ] {a b : γ} [Decidable (a = b)] (H : (if a = b then x else y) = z) : (a = b ∧ (a == b) = true ∧ (a != b) = false ∧ x = z) ∨ (a ≠ b ∧ (a == b) = false ∧ (a != b) = true ∧ y = z) := (ef_ H).symm
theorem hf_ {b : Bool} (H : (if b = true then x else y) = z) : (b = false ∧ y = z) ∨ (b = true ∧ x = z) := by cases b <;> simp_all
theorem ht_ {b : Bool} (H : (if b = true then x else y) = z) : (b = true ∧ x = z) ∨ (b = false ∧ y = z) := (hf_ H).symm
end
theorem aj_ {w W : World} {A : Option Addr} {n : Nat} {k : IntKind} {xs : List Int} (M : Aside0 ((Kd.int k).C w A n xs)) (HB : Aside0 (Below w.heap.size w W)) (i : Int) (h0 : 0 ≤ i := by exact dq_) (h1 : i < (n : Int) := by exact dq_) : ∃ ad, A = some ad ∧ W.cell? (ad.add i.toNat) = some (Value.int k (rd xs i)) ∧ (0 ≤ i) = True ∧ (i < (n : Int)) = True := by
 obtain ⟨ad, e, h⟩ := ai_ M.out i h0 h1
 exact ⟨ad, e, hx_ HB h, eq_true h0, eq_true h1⟩
theorem ak_ {w : World} {A : Option Addr} {n : Nat} {k : IntKind} {xs : List Int} (M : Aside0 ((Kd.int k).C w A n xs)) (i : Int) (h0 : 0 ≤ i := by exact dq_) (h1 : i < (n : Int) := by exact dq_) : ∃ ad, A = some ad ∧ w.cell? (ad.add i.toNat) = some (Value.int k (rd xs i)) ∧ (0 ≤ i) = True ∧ (i < (n : Int)) = True := by
 obtain ⟨ad, e, h⟩ := ai_ M.out i h0 h1
 exact ⟨ad, e, h, eq_true h0, eq_true h1⟩
end Go.Proofs.YtckfbfdnlpnllaaGreatDoor.Sq
