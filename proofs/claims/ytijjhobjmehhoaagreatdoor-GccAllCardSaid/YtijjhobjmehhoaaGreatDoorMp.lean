/- The map of GccAll: what it reads as, and its three operations, each for the map's block and the values that have come, without another condition. -/
import Derived.Maps.OwnOps
import Derived.Maps.OwnSet
import Derived.Maps.Views
import Derived.Test.YtijjhobjmehhoaaGreatDoorSq
import Derived.Test.YtijjhobjmehhoaaGreatDoorProg
namespace Go.Proofs.YtijjhobjmehhoaaGreatDoor.Mp
open Go Go.RowKit Go.Maps Go.Proofs.YtijjhobjmehhoaaGreatDoor.Sq Go.Proofs.YtijjhobjmehhoaaGreatDoorW.PrintWords Go.Proofs.YtijjhobjmehhoaaGreatDoorW.PrintLast Go.Proofs.YtijjhobjmehhoaaGreatDoorW.PrintMore
set_option linter.unusedVariables false
/-- What a map from numbers to counts holds, when these values have come. -/
def MO (o : Obj) (l : List Int) : Prop := ∃ es ck, o = .map es ck ∧ ∀ (W : World) (b : Nat), W.heap[b]? = some o → ∃ D : DataW Unit, W.ownsMap Tryz.prog 3 (plainElem Tryz.prog 3) b l.length D ∧ IsMap D ∧
  ∀ x : Int, (Lit.int .i64 x).wf = true → D.atKey (.int .i64 x) (.lit (.int .i64 0)) = .lit (.int .i64 (l.count x : Int))
theorem mo_made : MO (.map #[] 0) [] := ⟨_, _, rfl, fun W b hb => by
  obtain ⟨es, ck, h1, h2, h3, h4⟩ := World.ownsMap_made (H := Unit) W Tryz.prog 3 (plainElem Tryz.prog 3)
  rw [show (W.alloc (.map #[] 0)).heap[W.heap.size]? = some (.map #[] 0) from blk_new W _] at h1
  cases h1
  exact ⟨.map [], ⟨_, _, hb, h2, h3, h4⟩, isMap_empty, fun x _ => rfl⟩⟩
theorem mo_of {W W' : World} {b n : Nat} {D : DataW Unit} {l : List Int} {o : Obj} (hb : W.heap[b]? = some o) (h : W.ownsMap Tryz.prog 3 (plainElem Tryz.prog 3) b l.length D) (hm : IsMap D)
    (hx : ∀ x : Int, (Lit.int .i64 x).wf = true → D.atKey (.int .i64 x) (.lit (.int .i64 0)) = .lit (.int .i64 (l.count x : Int))) : MO o l := by
  obtain ⟨es, ck, h1, h2, h3, h4⟩ := h
  rw [h1] at hb
  cases hb
  exact ⟨es, ck, rfl, fun W1 b1 h => ⟨D, ⟨es, ck, h, h2, h3, h4⟩, hm, hx⟩⟩
theorem nomap {α : Type} {d : Kd α} {e base : Nat} {W : World} {ok : Nat → Prop} {v : Value} {xs : List α} {b : Nat} {o : Obj} {l : List Int} (h : d.R e W base ok v xs) (hb : W.heap[b]? = some o) (ho : MO o l) : some b ≠ v.ownBlock := by
  intro he
  obtain ⟨_, _, _, _, _, cells, hc⟩ := (Kd.R_bound h).1 b he.symm
  obtain ⟨es, ck, rfl, _⟩ := ho
  rw [hc] at hb
  cases hb
theorem nobox {W : World} {b g t : Nat} {cs : Array Value} {o : Obj} {l : List Int} (hb : W.heap[b]? = some o) (ho : MO o l) (hg : W.heap[g]? = some (.cells cs t (0, 0))) : b ≠ g := by
  rintro rfl
  obtain ⟨es, ck, rfl, _⟩ := ho
  rw [hg] at hb
  cases hb
theorem mfar {w : World} {g : Nat} {o : Obj} (h : w.heap[g]? = some o) {p : Addr} (hp : g ≠ p.block) (u : Value) : (w.setCell p u).heap[g]? = some o := (Below.heap_setCell w p u g hp).trans h
theorem vml_ {vm : Value} {W : World} {b : Nat} {o : Obj} (h : vm.ownBlock = some b) (hb : W.heap[b]? = some o) : ∀ k, vm.ownBlock = some k → k < W.heap.size := fun k e => by
  rw [h] at e
  cases e
  exact blk_lt hb
theorem nebox {vm : Value} {W : World} {b g t : Nat} {cs : Array Value} {o : Obj} {l : List Int} (h : vm.ownBlock = some b) (hb : W.heap[b]? = some o) (ho : MO o l) (hg : W.heap[g]? = some (.cells cs t (0, 0))) : some g ≠ vm.ownBlock := by
  rw [h]
  intro e
  injection e with e
  exact nobox hb ho hg e.symm
theorem mbelow {vm : Value} {w W w1 : World} {b : Nat} (hB : Below w.heap.size w W) (hg : W.grownBy w1 vm.ownBlock) (h : vm.ownBlock = some b) (hle : w.heap.size ≤ b) : Below w.heap.size w w1 :=
  hB.grown hg hB.size (fun k e => by rw [h] at e; cases e; exact hle)
theorem wfn {x : Int} (h1 : decide (1000 < x) = false) (h2 : decide (x < (-1000)) = false) : (Lit.int .i64 x).wf = true := by
  have a1 := of_decide_eq_false h1
  have a2 := of_decide_eq_false h2
  simp only [Lit.wf, IntKind.min, IntKind.max, IntKind.signed, IntKind.bits, Bool.and_eq_true]
  simp
  omega
theorem cnt_new {A : List Int} {x : Int} {b : Bool} (h : b = decide (x ∈ A)) : (((A ++ [x]).count x : Int) == 1) = !b := by
  subst h
  rw [List.count_append, List.count_singleton_self]
  by_cases hx : x ∈ A
  · have := List.count_pos_iff.2 hx
    simp [hx]
    omega
  · have := List.count_eq_zero.2 hx
    simp [hx, this]
theorem vat_ (vm : Value) (W : World) : vm.ownBlock = vm.ownBlock ∨ ∃ b, vm.ownBlock = some b ∧ W.heap.size ≤ b := .inl rfl
section
variable {ops : Array Oper} {rest : List Oper} {o : Oper} {a : Act} {Q : Exit → Act → World → Prop} {W : World}
theorem map_event (hgd : o.guard = none) (hrun : (execOp a.eval o).run Tryz.prog W = .ok (.value (.map (some W.heap.size))) (W.alloc (.map #[] 0)))
    (h : ∀ g, g = W.heap.size → ∀ w1, w1.heap[g]? = some (.map #[] 0) → Below W.heap.size W w1 → wpList Tryz.prog ops Q rest (a.put o.dst (.map (some g))) w1) : wpList Tryz.prog ops Q (o :: rest) a W :=
  Kd.event_run hgd hrun (h _ rfl _ (blk_new W _) (below_alloc (Below.refl _ _) _))
theorem mo_look {b : Nat} {ob : Obj} {l : List Int} (hb : W.heap[b]? = some ob) (ho : MO ob l) (v : Int) (hw : (Lit.int .i64 v).wf = true) (hg : o.guard = none) (m x : Operand) (hop : o.op = Op.lookup 55 m x false) (hm : a.eval m = .map (some b)) (hx : a.eval x = .int .i64 v)
    (hK : wpList Tryz.prog ops Q rest (a.put o.dst (.int .i64 (l.count v : Int))) W) : wpList Tryz.prog ops Q (o :: rest) a W := by
  obtain ⟨es, ck, _, hf⟩ := ho
  obtain ⟨D, hown, hm', hat⟩ := hf W b hb
  refine wpList_lookup_own_int W hg m x 55 hop 3 3 .i64 (int_keyed Tryz.underlying3) Tryz.underlying55 Tryz.underlying3 (Tryz.zeroValue3 _) b l.length D hm hown _ _ hx (keyOf_int_mk Tryz.underlying3 hw) ?_
  intro c h1 h2
  rw [hat v hw] at h1
  injection h1 with h1
  injection h1 with h3 h4
  subst h4
  exact hK
theorem mo_put {b : Nat} {ob : Obj} {l : List Int} (hb : W.heap[b]? = some ob) (ho : MO ob l) (v : Int) (hw : (Lit.int .i64 v).wf = true) (hl : l.length < 17592186044416) (hg : o.guard = none) (m x y : Operand) (hop : o.op = Op.mapUpdate 55 m x y) (hm : a.eval m = .map (some b)) (hx : a.eval x = .int .i64 v) (hy : a.eval y = .int .i64 (wrap64 ((l.count v : Int) + 1)))
    (hK : ∀ w1 o1, w1.heap[b]? = some o1 → MO o1 (l ++ [v]) → W.grownBy w1 (some b) → wpList Tryz.prog ops Q rest (a.put o.dst undef) w1) : wpList Tryz.prog ops Q (o :: rest) a W := by
  obtain ⟨es, ck, _, hf⟩ := ho
  obtain ⟨D, hown, hm', hat⟩ := hf W b hb
  have hcl : l.count v ≤ l.length := List.count_le_length
  have hwr : wrap64 ((l.count v : Int) + 1) = ((l ++ [v]).count v : Int) := by
    rw [List.count_append, List.count_singleton_self]
    unfold wrap64
    omega
  refine wpList_mapUpdate_own W hg m x y 55 hop 3 3 (int_keyed Tryz.underlying3) Tryz.underlying55 _ b l.length D hm hown (by unfold maxLen; omega) _ _ _ hx hy (keyOf_int_mk Tryz.underlying3 hw) _ [] (plainElem_int Tryz.underlying3 (wrap64_wf _)) ?_
  intro w1 h1 h2
  have h1' : w1.ownsMap Tryz.prog 3 (plainElem Tryz.prog 3) b (l ++ [v]).length (D.put (.int .i64 v) (.lit (.int .i64 (wrap64 ((l.count v : Int) + 1))))) := by rw [List.length_append]; exact h1
  obtain ⟨es1, ck1, e1, e2⟩ := h1
  refine hK w1 _ e1 (mo_of (W := w1) (W' := w1) (n := 0) e1 h1' (hm'.put _ _) fun z hz => ?_) h2
  by_cases hzv : z = v
  · subst hzv
    rw [atKey_put_same hm' (by trivial), hwr]
  · rw [atKey_put_other (by intro h; injection h with _ h; exact hzv h), hat z hz, List.count_append, List.count_singleton, if_neg (by simpa using fun h => hzv h.symm)]
    simp
end
/- Region 17: the three appends, whose new values are made in any order. -/
structure St (w W : World) (m mb : Nat) (vm vO vL vA vC vD vE bC bD bE : Value) (om : Obj) (d : List (List Int)) (row A p xs ys zs : List Int) : Prop where
  n : Kd.N (Kd.slice 3 (Kd.int .i64)) 30 W w.heap.size (fun a => some a ≠ vm.ownBlock ∧ some a ≠ vA.ownBlock ∧ some a ≠ vC.ownBlock ∧ some a ≠ vD.ownBlock ∧ some a ≠ vE.ownBlock ∧ a ≠ m) vO d
  l : Kd.V (Kd.int .i64) 3 W w.heap.size (fun a => some a ≠ vm.ownBlock ∧ some a ≠ vA.ownBlock ∧ some a ≠ vC.ownBlock ∧ some a ≠ vD.ownBlock ∧ some a ≠ vE.ownBlock ∧ a ≠ m) vL row
  mp : W.heap[mb]? = some om ∧ MO om A
  a : Kd.R (Kd.int .i64) 3 W w.heap.size (fun a => some a ≠ vm.ownBlock ∧ some a ≠ vC.ownBlock ∧ some a ≠ vD.ownBlock ∧ some a ≠ vE.ownBlock) vA p
  c : Kd.R (Kd.int .i64) 3 W w.heap.size (fun a => some a ≠ vm.ownBlock ∧ some a ≠ vA.ownBlock ∧ some a ≠ vD.ownBlock ∧ some a ≠ vE.ownBlock) vC xs
  dd : Kd.R (Kd.int .i64) 3 W w.heap.size (fun a => some a ≠ vm.ownBlock ∧ some a ≠ vA.ownBlock ∧ some a ≠ vC.ownBlock ∧ some a ≠ vE.ownBlock) vD ys
  e : Kd.R (Kd.int .i64) 3 W w.heap.size (fun a => some a ≠ vm.ownBlock ∧ some a ≠ vA.ownBlock ∧ some a ≠ vC.ownBlock ∧ some a ≠ vD.ownBlock) vE zs
  b : W.heap[m]? = some (.cells #[.int .i64 21, vA, .slice none 0 0, bC, bD, bE, .int .i64 0, .slice none 0 0] 32 (0, 0))
  hb : Below w.heap.size w W
section
variable {w W W1 : World} {m mb : Nat} {vm vO vL vA vC vD vE bC bD bE F : Value} {om : Obj} {d : List (List Int)} {row A p xs ys zs xs' : List Int}
theorem St.kept (h : St w W m mb vm vO vL vA vC vD vE bC bD bE om d row A p xs ys zs) (hk : Kept W W1 (fun _ => False)) (hb : Below w.heap.size w W1) : St w W1 m mb vm vO vL vA vC vD vE bC bD bE om d row A p xs ys zs :=
  ⟨Kd.N_kept h.n hk (fun _ _ h => h), Kd.V_kept h.l hk (fun _ _ h => h), ⟨blk_kept h.mp.1 hk (fun h => h), h.mp.2⟩, Kd.R_kept h.a hk (fun _ _ h => h), Kd.R_kept h.c hk (fun _ _ h => h), Kd.R_kept h.dd hk (fun _ _ h => h), Kd.R_kept h.e hk (fun _ _ h => h), blk_kept h.b hk (fun h => h), hb⟩
theorem kept_alloc (W : World) (o : Obj) : Kept W (W.alloc o) (fun _ => False) := ⟨(below_alloc (Below.refl _ _) o).size, fun i hi _ => (below_alloc (Below.refl _ _) o).block i hi⟩
theorem St.alloc (h : St w W m mb vm vO vL vA vC vD vE bC bD bE om d row A p xs ys zs) (o : Obj) : St w (W.alloc o) m mb vm vO vL vA vC vD vE bC bD bE om d row A p xs ys zs := h.kept (kept_alloc W o) (below_alloc h.hb o)
theorem St.drew (h : St w W m mb vm vO vL vA vC vD vE bC bD bE om d row A p xs ys zs) : St w W.drew m mb vm vO vL vA vC vD vE bC bD bE om d row A p xs ys zs := h.kept ⟨Nat.le_refl _, fun _ _ _ => rfl⟩ (below_drew h.hb)
theorem St.freshC (h : St w W m mb vm vO vL vA vC vD vE bC bD bE om d row A p xs ys zs) (hvm : vm.ownBlock = some mb) (k : Nat) (hk : W.heap.size ≤ k) : some k ≠ vm.ownBlock ∧ some k ≠ vA.ownBlock ∧ some k ≠ vD.ownBlock ∧ some k ≠ vE.ownBlock := ⟨fr_ (vml_ hvm h.mp.1) k hk, fr_ (rl_ h.a) k hk, fr_ (rl_ h.dd) k hk, fr_ (rl_ h.e) k hk⟩
theorem St.freshD (h : St w W m mb vm vO vL vA vC vD vE bC bD bE om d row A p xs ys zs) (hvm : vm.ownBlock = some mb) (k : Nat) (hk : W.heap.size ≤ k) : some k ≠ vm.ownBlock ∧ some k ≠ vA.ownBlock ∧ some k ≠ vC.ownBlock ∧ some k ≠ vE.ownBlock := ⟨fr_ (vml_ hvm h.mp.1) k hk, fr_ (rl_ h.a) k hk, fr_ (rl_ h.c) k hk, fr_ (rl_ h.e) k hk⟩
theorem St.freshE (h : St w W m mb vm vO vL vA vC vD vE bC bD bE om d row A p xs ys zs) (hvm : vm.ownBlock = some mb) (k : Nat) (hk : W.heap.size ≤ k) : some k ≠ vm.ownBlock ∧ some k ≠ vA.ownBlock ∧ some k ≠ vC.ownBlock ∧ some k ≠ vD.ownBlock := ⟨fr_ (vml_ hvm h.mp.1) k hk, fr_ (rl_ h.a) k hk, fr_ (rl_ h.c) k hk, fr_ (rl_ h.dd) k hk⟩
theorem St.appC (h : St w W m mb vm vO vL vA vC vD vE bC bD bE om d row A p xs ys zs) (ho : Kd.R (Kd.int .i64) 3 W1 w.heap.size (fun a => some a ≠ vm.ownBlock ∧ some a ≠ vA.ownBlock ∧ some a ≠ vD.ownBlock ∧ some a ≠ vE.ownBlock) F xs') (hb : Below w.heap.size w W1) (hg : W.grownBy W1 vC.ownBlock) (hat : F.ownBlock = vC.ownBlock ∨ ∃ b, F.ownBlock = some b ∧ W.heap.size ≤ b) : St w W1 m mb vm vO vL vA F vD vE bC bD bE om d row A p xs' ys zs :=
  ⟨Kd.N_mono (Kd.N_afterv (Kd.N_mono h.n (fun k hk => ⟨hk, hk.2.2.1⟩)) hg hat) (fun k hk => ⟨hk.1.1, hk.1.2.1, hk.2, hk.1.2.2.2.1, hk.1.2.2.2.2.1, hk.1.2.2.2.2.2⟩),
   Kd.V_mono (Kd.V_afterv (Kd.V_mono h.l (fun k hk => ⟨hk, hk.2.2.1⟩)) hg hat) (fun k hk => ⟨hk.1.1, hk.1.2.1, hk.2, hk.1.2.2.2.1, hk.1.2.2.2.2.1, hk.1.2.2.2.2.2⟩),
   ⟨blk_grown h.mp.1 hg (nomap h.c h.mp.1 h.mp.2), h.mp.2⟩,
   Kd.R_mono (Kd.R_after (Kd.R_mono h.a (fun k hk => ⟨hk, hk.2.1⟩)) hg hat) (fun k hk => ⟨hk.1.1, hk.2, hk.1.2.2.1, hk.1.2.2.2⟩), ho,
   Kd.R_mono (Kd.R_after (Kd.R_mono h.dd (fun k hk => ⟨hk, hk.2.2.1⟩)) hg hat) (fun k hk => ⟨hk.1.1, hk.1.2.1, hk.2, hk.1.2.2.2⟩),
   Kd.R_mono (Kd.R_after (Kd.R_mono h.e (fun k hk => ⟨hk, hk.2.2.1⟩)) hg hat) (fun k hk => ⟨hk.1.1, hk.1.2.1, hk.2, hk.1.2.2.2⟩),
   blk_grown h.b hg (Kd.R_ne h.c h.b (by decide)), hb⟩
theorem St.appD (h : St w W m mb vm vO vL vA vC vD vE bC bD bE om d row A p xs ys zs) (ho : Kd.R (Kd.int .i64) 3 W1 w.heap.size (fun a => some a ≠ vm.ownBlock ∧ some a ≠ vA.ownBlock ∧ some a ≠ vC.ownBlock ∧ some a ≠ vE.ownBlock) F xs') (hb : Below w.heap.size w W1) (hg : W.grownBy W1 vD.ownBlock) (hat : F.ownBlock = vD.ownBlock ∨ ∃ b, F.ownBlock = some b ∧ W.heap.size ≤ b) : St w W1 m mb vm vO vL vA vC F vE bC bD bE om d row A p xs xs' zs :=
  ⟨Kd.N_mono (Kd.N_afterv (Kd.N_mono h.n (fun k hk => ⟨hk, hk.2.2.2.1⟩)) hg hat) (fun k hk => ⟨hk.1.1, hk.1.2.1, hk.1.2.2.1, hk.2, hk.1.2.2.2.2.1, hk.1.2.2.2.2.2⟩),
   Kd.V_mono (Kd.V_afterv (Kd.V_mono h.l (fun k hk => ⟨hk, hk.2.2.2.1⟩)) hg hat) (fun k hk => ⟨hk.1.1, hk.1.2.1, hk.1.2.2.1, hk.2, hk.1.2.2.2.2.1, hk.1.2.2.2.2.2⟩),
   ⟨blk_grown h.mp.1 hg (nomap h.dd h.mp.1 h.mp.2), h.mp.2⟩,
   Kd.R_mono (Kd.R_after (Kd.R_mono h.a (fun k hk => ⟨hk, hk.2.2.1⟩)) hg hat) (fun k hk => ⟨hk.1.1, hk.1.2.1, hk.2, hk.1.2.2.2⟩),
   Kd.R_mono (Kd.R_after (Kd.R_mono h.c (fun k hk => ⟨hk, hk.2.2.1⟩)) hg hat) (fun k hk => ⟨hk.1.1, hk.1.2.1, hk.2, hk.1.2.2.2⟩), ho,
   Kd.R_mono (Kd.R_after (Kd.R_mono h.e (fun k hk => ⟨hk, hk.2.2.2⟩)) hg hat) (fun k hk => ⟨hk.1.1, hk.1.2.1, hk.1.2.2.1, hk.2⟩),
   blk_grown h.b hg (Kd.R_ne h.dd h.b (by decide)), hb⟩
theorem St.appE (h : St w W m mb vm vO vL vA vC vD vE bC bD bE om d row A p xs ys zs) (ho : Kd.R (Kd.int .i64) 3 W1 w.heap.size (fun a => some a ≠ vm.ownBlock ∧ some a ≠ vA.ownBlock ∧ some a ≠ vC.ownBlock ∧ some a ≠ vD.ownBlock) F xs') (hb : Below w.heap.size w W1) (hg : W.grownBy W1 vE.ownBlock) (hat : F.ownBlock = vE.ownBlock ∨ ∃ b, F.ownBlock = some b ∧ W.heap.size ≤ b) : St w W1 m mb vm vO vL vA vC vD F bC bD bE om d row A p xs ys xs' :=
  ⟨Kd.N_mono (Kd.N_afterv (Kd.N_mono h.n (fun k hk => ⟨hk, hk.2.2.2.2.1⟩)) hg hat) (fun k hk => ⟨hk.1.1, hk.1.2.1, hk.1.2.2.1, hk.1.2.2.2.1, hk.2, hk.1.2.2.2.2.2⟩),
   Kd.V_mono (Kd.V_afterv (Kd.V_mono h.l (fun k hk => ⟨hk, hk.2.2.2.2.1⟩)) hg hat) (fun k hk => ⟨hk.1.1, hk.1.2.1, hk.1.2.2.1, hk.1.2.2.2.1, hk.2, hk.1.2.2.2.2.2⟩),
   ⟨blk_grown h.mp.1 hg (nomap h.e h.mp.1 h.mp.2), h.mp.2⟩,
   Kd.R_mono (Kd.R_after (Kd.R_mono h.a (fun k hk => ⟨hk, hk.2.2.2⟩)) hg hat) (fun k hk => ⟨hk.1.1, hk.1.2.1, hk.1.2.2.1, hk.2⟩),
   Kd.R_mono (Kd.R_after (Kd.R_mono h.c (fun k hk => ⟨hk, hk.2.2.2⟩)) hg hat) (fun k hk => ⟨hk.1.1, hk.1.2.1, hk.1.2.2.1, hk.2⟩),
   Kd.R_mono (Kd.R_after (Kd.R_mono h.dd (fun k hk => ⟨hk, hk.2.2.2⟩)) hg hat) (fun k hk => ⟨hk.1.1, hk.1.2.1, hk.1.2.2.1, hk.2⟩), ho,
   blk_grown h.b hg (Kd.R_ne h.e h.b (by decide)), hb⟩
theorem kept_set (W : World) (q : Addr) (u : Value) : Kept W (W.setCell q u) (fun k => k = q.block) := ⟨Nat.le_of_eq (by simp), fun i _ hi => Below.heap_setCell W q u i hi⟩
theorem St.set (h : St w W m mb vm vO vL vA vC vD vE bC bD bE om d row A p xs ys zs) (hm : w.heap.size ≤ m) (i : Nat) (u : Value) {cC cD cE : Value} (hc : (#[.int .i64 21, vA, .slice none 0 0, bC, bD, bE, .int .i64 0, .slice none 0 0] : Array Value).setIfInBounds i u = #[.int .i64 21, vA, .slice none 0 0, cC, cD, cE, .int .i64 0, .slice none 0 0]) :
    St w (W.setCell ⟨m, i, none⟩ u) m mb vm vO vL vA vC vD vE cC cD cE om d row A p xs ys zs :=
  have hk := kept_set W ⟨m, i, none⟩ u
  ⟨Kd.N_kept h.n hk (fun k ho => ho.2.2.2.2.2), Kd.V_kept h.l hk (fun k ho => ho.2.2.2.2.2), ⟨mfar h.mp.1 (nobox h.mp.1 h.mp.2 h.b) u, h.mp.2⟩,
   Kd.R_mono (Kd.R_kept (rt_ h.a h.b (by decide)) hk (fun k ho => ho.2)) (fun k ho => ho.1), Kd.R_mono (Kd.R_kept (rt_ h.c h.b (by decide)) hk (fun k ho => ho.2)) (fun k ho => ho.1), Kd.R_mono (Kd.R_kept (rt_ h.dd h.b (by decide)) hk (fun k ho => ho.2)) (fun k ho => ho.1), Kd.R_mono (Kd.R_kept (rt_ h.e h.b (by decide)) hk (fun k ho => ho.2)) (fun k ho => ho.1),
   blk_put h.b i u hc, below_set h.hb hm⟩
/-- A value that was made for an append, in a block of its own. -/
structure Tb (W : World) (ad : Nat) (x : Int) (vC vD vE : Value) : Prop where
  b : W.heap[ad]? = some (.cells #[.int .i64 x] 3 (0, 0))
  c : some ad ≠ vC.ownBlock
  d : some ad ≠ vD.ownBlock
  e : some ad ≠ vE.ownBlock
variable {ad : Nat} {x : Int}
theorem Tb.alloc (h : Tb W ad x vC vD vE) (o : Obj) : Tb (W.alloc o) ad x vC vD vE := ⟨blk_kept h.b (kept_alloc W o) (fun h => h), h.c, h.d, h.e⟩
theorem St.new (h : St w W m mb vm vO vL vA vC vD vE bC bD bE om d row A p xs ys zs) (x : Int) : Tb (W.alloc (.cells #[.int .i64 x] 3 (0, 0))) W.heap.size x vC vD vE :=
  ⟨blk_new W _, fr_ (rl_ h.c) _ (Nat.le_refl _), fr_ (rl_ h.dd) _ (Nat.le_refl _), fr_ (rl_ h.e) _ (Nat.le_refl _)⟩
theorem apart_ {v : Value} (h : some ad ≠ v.ownBlock) (hl : ad < W.heap.size) (hat : F.ownBlock = v.ownBlock ∨ ∃ b, F.ownBlock = some b ∧ W.heap.size ≤ b) : some ad ≠ F.ownBlock := by
  rcases hat with e | ⟨b, e, hb⟩
  · rw [e]; exact h
  · rw [e]
    intro e
    cases e
    omega
theorem Tb.appC (h : Tb W ad x vC vD vE) (hg : W.grownBy W1 vC.ownBlock) (hat : F.ownBlock = vC.ownBlock ∨ ∃ b, F.ownBlock = some b ∧ W.heap.size ≤ b) : Tb W1 ad x F vD vE := ⟨blk_grown h.b hg h.c, apart_ h.c (blk_lt h.b) hat, h.d, h.e⟩
theorem Tb.appD (h : Tb W ad x vC vD vE) (hg : W.grownBy W1 vD.ownBlock) (hat : F.ownBlock = vD.ownBlock ∨ ∃ b, F.ownBlock = some b ∧ W.heap.size ≤ b) : Tb W1 ad x vC F vE := ⟨blk_grown h.b hg h.d, h.c, apart_ h.d (blk_lt h.b) hat, h.e⟩
theorem Tb.reads (h : Tb W ad x vC vD vE) : ReadsRow (fun (z : Int) cs => cs = [.int .i64 z]) 1 W (some ⟨ad, 0, none⟩) 1 [x] := ⟨rfl, by omega, fun _ => ⟨_, rfl, fun j q hq => by
  cases j with
  | succ j => simp at hq
  | zero =>
    simp only [List.getElem?_cons_zero, Option.some.injEq] at hq
    subst hq
    refine ⟨_, rfl, rfl, fun i u hu => ?_⟩
    cases i with
    | succ i => simp at hu
    | zero =>
      simp only [List.getElem?_cons_zero, Option.some.injEq] at hu
      subst hu
      exact (blk_cell h.b 0).trans rfl⟩⟩
end
theorem val_step {P : Program} {ops : Array Oper} {Q : Exit → Act → World → Prop} {oi : Oper} {a : Act} {w w1 : World} {K : Act → World → Prop} {v : Value} (hw : Region.wanted oi (yielded ops a.tmps) = true) (hrun : (execOp a.eval oi).run P w = .ok (.value v) w1) (h : K (a.put oi.dst v) w1) :
    if Region.wanted oi (yielded ops a.tmps) = true then Oper.wp P oi a w K Q else K (a.put oi.dst undef) w := by
  rw [if_pos hw]
  unfold Oper.wp
  rw [hrun]
  exact h
end Go.Proofs.YtijjhobjmehhoaaGreatDoor.Mp
