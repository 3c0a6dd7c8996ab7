import Derived.Test.YtckfbfdnlpnllaaGreatDoorAd2
namespace Go.Proofs.YtckfbfdnlpnllaaGreatDoor.Ad
open Go.RowKit Go.Shelf Go.Proofs.YtckfbfdnlpnllaaGreatDoor.XAllDiffFixed Go.Proofs.YtckfbfdnlpnllaaGreatDoorW.PrintWords Go.Proofs.YtckfbfdnlpnllaaGreatDoorW.PrintLast Go.Proofs.YtckfbfdnlpnllaaGreatDoorW.PrintMore
set_option linter.unusedVariables false
set_option linter.unusedSimpArgs false
theorem augment.calls (kd : Nat) (c : MC) (D : Int → List Int) (hD : ∀ i : Int, 0 ≤ i → i < (c.ld.length : Int) → ∃ (m : Nat) (L : List I32), eachF kd (rd_T57 c.ld i) m (rd_T57 c.ld i).f2 = some (L.map (·.1)) ∧ D i = L.map (·.1)) (t but out : Int) :
    ∀ (kf : Nat) (i : Int) (s : Mt) (r : Mt × Bool) (w : World), aug D t but out kf i s = some r → Held but out s → cnt t s < kf → 0 ≤ i → i < (c.ld.length : Int) → MAt c w.heap.size t s w → Calls Tryz.prog 58 #[.pointer (some ⟨c.G, 0, none⟩), .int .i64 i, .int .i64 but, .int .i64 out] w (AugPost c t r w)
  | 0, _, _, _, _, h, _, _, _, _, _ => by cases h
  | kf + 1, i, s, r, w, h, hh, hk, h0, h1, hM => augment.step kd c D hD t but out kf (augment.calls kd c D hD t but out kf) i s r w h hh (by omega) h0 h1 hM
/-- What 'moved' and 'can' come to: the answer, the matching, the time. -/
def CanPost (c : MC) (r : Mt × Int × Bool) (w : World) (e : Ending) (w' : World) : Prop := e = .returned (.bool r.2.2) ∧ MAt c w.heap.size r.2.1 r.1 w' ∧ KeepL w.heap.size c.T w w'
theorem MAt.putdel {c : MC} {n₀ : Nat} {t : Int} {s : Mt} {W W' : World} {v : Int} (h : MAt c n₀ t s W) (hm : IMap Tryz.prog W' c.bo (upd s.own v none)) (hg : W.grownBy W' (some c.bo)) : MAt c n₀ t { s with own := upd s.own v none } W' :=
  { h with
    blk := (h.other (MAt.boS c) h.G1 hg h.G0).trans h.blk
    own := hm
    met := h.met.keep (hg.block _ h.met.lt fun e => h.ne.2.1 (by injection e with e; exact e.symm))
    val := Kd.R_step h.val fun k hk hlt => hg.block k hlt fun e => h.ne.1 (by rw [← show k = c.bv from hk]; injection e with e; exact e.symm)
    doms := F_keepL h.doms (keepL_grown hg (MAt.boS c) h.size).toT
    held := fun u j hu => by
      have hu' : upd s.own v none u = some j := hu
      by_cases e : u = v
      · subst e; rw [upd_same] at hu'; cases hu'
      · rw [upd_other _ _ e] at hu'; exact h.held u j hu'
    size := Nat.le_trans h.size hg.size }
/-- The time goes on: the doms' row is not the matching's struct (by types). -/
theorem MAt.tick {c : MC} {n₀ : Nat} {t : Int} {s : Mt} {W : World} (h : MAt c n₀ t s W) (ht : t < 1099511627776) : MAt c n₀ (t + 1) s (W.setCell ⟨c.G, 4, none⟩ (.int .i64 (t + 1))) := by
  have hb : ∀ k, k ≠ c.G → (W.setCell ⟨c.G, 4, none⟩ (.int .i64 (t + 1))).heap[k]? = W.heap[k]? := fun k hk => Below.heap_setCell W ⟨c.G, 4, none⟩ _ k hk
  exact { h with
    blk := blk_put h.blk 4 _ rfl
    own := h.own.keep (hb _ fun e => h.G1 (e ▸ MAt.boS c))
    met := h.met.keep (hb _ fun e => h.G1 (e ▸ MAt.bmS c))
    val := Kd.R_step h.val fun k hk _ => hb k fun e => h.G1 (by rw [← e, show k = c.bv from hk]; exact MAt.bvS c)
    doms := Kd.F_step h.doms fun k hk _ => hb k fun e => hk.2 (.inr e)
    time := ⟨by have := h.time; omega, by omega⟩
    size := by rw [show (W.setCell ⟨c.G, 4, none⟩ (.int .i64 (t + 1))).heap.size = W.heap.size by simp [World.setCell]]; exact h.size }
/-! 'm[k], x = v, y': the map's entry first, its value behind. -/
section
open Go.ChangeMaps Go.MapKept Go.WideElems
theorem entry_store {P : Program} {w : World} {t k e : TypeId} {R : Value → Option (DataW Unit × List MemPlace)} {b : Nat} {es : Array MapEntry} {clock : Nat} (K : Maps.Keyed P k) (ht : P.underlying t = some (.map k e)) {z : Value} (hz : ∀ u : World, (zeroValue e).run P u = .ok z u) (hb : w.heap[b]? = some (.map es clock)) (F : Fit P k R es clock)
    {key : Value} {kl : Lit} (hkey : keyOf P k key = some kl) :
    ∃ (v0 : Value) (st : Nat) (es1 : Array MapEntry) (clock1 : Nat), (Instr.mapEntry t (.map (some b)) key).run P w = .ok (.tuple #[v0, goInt st]) (setBlock w b (.map es1 clock1)) ∧
      ∀ (w2 : World) (val : Value), w2.heap[b]? = some (.map es1 clock1) → ∃ es' clock', (Instr.entryStore t (.map (some b)) (goInt st) val).run P w2 = .ok () (setBlock w2 b (.map es' clock')) ∧
        (Instr.mapUpdate t (.map (some b)) key val).run P w = .ok () (setBlock w b (.map es' clock')) := by
  obtain ⟨s1, s2, _⟩ := F.stamped
  rcases K.find w hkey es.toList F.keys with ⟨h1, h2⟩ | ⟨j, e0, h1, h2, h3⟩
  · refine ⟨z, clock, es.push ⟨key, z, clock⟩, clock + 1, ?_, fun w2 val hw2 => ⟨es.push ⟨key, val, clock⟩, clock + 1, ?_, ?_⟩⟩
    · simp [Instr.mapEntry, run_underlying ht, MapKept.run_getObj_map hb, K.check w false hkey, h1, hz, MapKept.run_setObj_map _ hb, Result.andThen, setBlock]
    · have hidx : (es.push ⟨key, z, clock⟩).findIdx? (fun e => ((e.born : Nat) : Int) == ((clock : Nat) : Int)) = some es.size := by
        rw [findIdx_arr]
        exact findIdx_born (l := (es.push ⟨key, z, clock⟩).toList) (j := es.size) (e0 := ⟨key, z, clock⟩) (by
          simp only [Array.toList_push, List.map_append, List.map_cons, List.map_nil]
          refine List.nodup_append.2 ⟨s2, by simp, fun a ha c hc e1 => ?_⟩
          simp only [List.mem_singleton] at hc
          obtain ⟨x, hx, rfl⟩ := List.mem_map.1 ha
          have := s1 x hx
          omega) (by simp)
      have hmod : (es.push ⟨key, z, clock⟩).modify es.size (fun e => { e with val := val }) = es.push ⟨key, val, clock⟩ := by
        apply Array.ext'
        rw [Array.toList_modify, Array.toList_push, Array.toList_push, ← Array.length_toList, modify_last]
      simp [Instr.entryStore, MapKept.run_getObj_map hw2, asInt, asIntOf, goInt, hidx, hmod, MapKept.run_setObj_map _ hw2, Result.andThen, setBlock]
    · simp [Instr.mapUpdate, run_underlying ht, MapKept.run_getObj_map hb, K.check w false hkey, h1, MapKept.run_setObj_map _ hb, Result.andThen, setBlock]
  · have hj : es[j]? = some e0 := by simpa using h2
    have hsame : es.modify j (fun e => { e with key := key }) = es := by
      apply Array.ext'
      rw [Array.toList_modify, modify_eq_set _ _ _ _ h2]
      have : ({ e0 with key := key } : MapEntry) = e0 := by rw [← h3]
      rw [this]
      exact set_self _ _ _ h2
    refine ⟨e0.val, e0.born, es, clock, ?_, fun w2 val hw2 => ⟨es.modify j (fun e' => { e' with key := key, val := val }), clock, ?_, ?_⟩⟩
    · simp [Instr.mapEntry, run_underlying ht, MapKept.run_getObj_map hb, K.check w false hkey, h1, hj, h3, K.stays w hkey, hsame, MapKept.run_setObj_map _ hb, Result.andThen, setBlock]
    · have hidx : es.findIdx? (fun e => ((e.born : Nat) : Int) == ((e0.born : Nat) : Int)) = some j := by
        rw [findIdx_arr]
        exact findIdx_born s2 h2
      have hmod : es.modify j (fun e => { e with val := val }) = es.modify j (fun e' => { e' with key := key, val := val }) := by
        apply Array.ext'
        rw [Array.toList_modify, Array.toList_modify, modify_eq_set _ _ _ _ h2, modify_eq_set _ _ _ _ h2, ← h3]
      simp [Instr.entryStore, MapKept.run_getObj_map hw2, asInt, asIntOf, goInt, hidx, hmod, MapKept.run_setObj_map _ hw2, Result.andThen, setBlock]
    · simp [Instr.mapUpdate, run_underlying ht, MapKept.run_getObj_map hb, K.check w false hkey, h1, hj, h3, K.stays w hkey, MapKept.run_setObj_map _ hb, Result.andThen, setBlock]
theorem IMap.entry {P : Program} {w : World} {b : Nat} {f : Int → Option Int} (h : IMap P w b f) (t : TypeId) (he : P.underlying 3 = some (.int .i64)) (ht : P.underlying t = some (.map 3 3)) (hz : ∀ w, (zeroValue 3).run P w = .ok (.int .i64 0) w) (kx kv : Int) (hk : -2147483648 ≤ kx ∧ kx ≤ 2147483647) (hw : -2147483648 ≤ kv ∧ kv ≤ 1099511627776) :
    ∃ v0 st w1, (Instr.mapEntry t (.map (some b)) (.int .i64 kx)).run P w = .ok (.tuple #[v0, goInt st]) w1 ∧ w.grownBy w1 (some b) ∧
      ∀ w2, w2.heap[b]? = w1.heap[b]? → ∃ w3, (Instr.entryStore t (.map (some b)) (goInt st) (.int .i64 kv)).run P w2 = .ok () w3 ∧ IMap P w3 b (upd f kx (some kv)) ∧ w2.grownBy w3 (some b) := by
  obtain ⟨D, L, h⟩ := h
  obtain ⟨es, clock, hb, F, _, _⟩ := h.1
  obtain ⟨v0, st, es1, c1, h1, h2⟩ := entry_store (Maps.int_keyed he) ht hz hb F (Maps.keyOf_int_mk (a := kx) he (WalkArith.wf_i64 (by omega)))
  have hg : ∀ {w0 : World} {o o' : Obj}, w0.heap[b]? = some o → w0.grownBy (setBlock w0 b o') (some b) := fun _ => ⟨rfl, rfl, rfl, by simp [setBlock], fun i _ hi => by unfold setBlock; exact Array.getElem?_setIfInBounds_ne (fun e => hi (by rw [e]))⟩
  refine ⟨v0, st, _, h1, hg hb, fun w2 hw2 => ?_⟩
  rw [heap_setBlock_same hb] at hw2
  obtain ⟨es', c', h3, h4⟩ := h2 w2 (.int .i64 kv) hw2
  obtain ⟨w', hrun, r1, r2⟩ := h.1.update (Maps.int_keyed he) ht (small_many h.2.2.1 h.2.2.2.1) (val := .int .i64 kv) (Maps.keyOf_int_mk (a := kx) he (WalkArith.wf_i64 (by omega))) (plainElem_int he (WalkArith.wf_i64 (by omega)))
  rw [h4] at hrun
  injection hrun with _ hrun
  refine ⟨_, h3, (IMap.put he hk h (hrun ▸ r1)).keep ?_, hg hw2⟩
  rw [heap_setBlock_same hw2, heap_setBlock_same hb]
end
/-- 'start_' outside of rounds, with NoP. -/
theorem startU {P : Program} {ops : Array Oper} {K : Act → World → Prop} {Q : Exit → Act → World → Prop} {S : World → Prop} {ds : List Nat} {id n : Nat} {a : Act} {w : World} (l : Array Bool) (hm : P.follows .mixedOrders = true) (hn : ops.size = n) (hl : Array.replicate n false = l) (hS : S w.drew)
    (h : S w.drew → wpAnyLast P .any ops (NoP K) S ds n l a w.drew) : (Code.region id ops true).wp P (Exit.then K Q) a w := by
  subst hn
  subst hl
  exact wp_mono (wp_region_last hm (h hS)) nop_then
theorem cell_of_heap {w w' : World} {k o : Nat} (h : w'.heap[k]? = w.heap[k]?) : w'.cell? ⟨k, o, none⟩ = w.cell? ⟨k, o, none⟩ := World.cell?_of_block (a := ⟨k, o, none⟩) h
theorem grown_setCell0 (w : World) (a : Addr) (u : Value) : w.grownBy (w.setCell a u) (some a.block) := ⟨rfl, rfl, rfl, by simp [World.setCell], fun i _ hi => Below.heap_setCell w a u i (fun e => hi (by rw [e]))⟩
theorem grown_two {W W1 W2 : World} {b : Nat} (h : W.grownBy W1 (some b)) (h' : W1.grownBy W2 (some b)) : W.grownBy W2 (some b) :=
  ⟨h'.os.trans h.os, h'.tape.trans h.tape, h'.output.trans h.output, Nat.le_trans h.size h'.size, fun i hi hn => (h'.block i (Nat.lt_of_lt_of_le hi h.size) hn).trans (h.block i hi hn)⟩
theorem entry_step {P : Program} {ops : Array Oper} {o : Oper} {a : Act} {W w1 : World} {u : Value} {Kc : Act → World → Prop} {Q : Exit → Act → World → Prop} (hwn : Region.wanted o (yielded ops a.tmps) = true) (m x : Operand) (t : TypeId) (hop : o.op = Op.mapEntry t m x) (b : Nat) (hm : a.eval m = .map (some b)) (kx : Int) (hx : a.eval x = .int .i64 kx)
    (hrun : (Instr.mapEntry t (.map (some b)) (.int .i64 kx)).run P W = .ok u w1) (hK : Kc (a.put o.dst u) w1) : if Region.wanted o (yielded ops a.tmps) = true then Oper.wp P o a W Kc Q else Kc (a.put o.dst undef) W := by
  rw [if_pos hwn]
  unfold Oper.wp
  simp [execOp, hop, hm, hx, hrun, Result.andThen]
  exact hK
theorem estore_step {P : Program} {ops : Array Oper} {o : Oper} {a : Act} {W w1 : World} {Kc : Act → World → Prop} {Q : Exit → Act → World → Prop} (hwn : Region.wanted o (yielded ops a.tmps) = true) (m s x : Operand) (t : TypeId) (hop : o.op = Op.entryStore t m s x) (b : Nat) (hm : a.eval m = .map (some b)) (st : Int) (hs : a.eval s = goInt st) (kx : Int) (hx : a.eval x = .int .i64 kx)
    (hrun : (Instr.entryStore t (.map (some b)) (goInt st) (.int .i64 kx)).run P W = .ok () w1) (hK : Kc (a.put o.dst undef) w1) : if Region.wanted o (yielded ops a.tmps) = true then Oper.wp P o a W Kc Q else Kc (a.put o.dst undef) W := by
  rw [if_pos hwn]
  unfold Oper.wp
  simp [execOp, hop, hm, hs, hx, hrun, Result.andThen]
  exact hK
def moved.T8 : Bool × List (List Nat × List Nat) := (true, [([], []), ([0], [0]), ([1], [1]), ([2], [2]), ([], []), ([], []), ([5], [5]), ([6], [6]), ([7], [7]), ([], []), ([], []), ([], []), ([3, 4, 8], [3, 4]), ([12], [12]), ([3, 13, 10, 12, 0, 1, 2, 3, 4, 8, 10, 12], [3, 10, 13]), ([8, 9, 0, 1, 2, 3, 4, 5, 6, 7, 8, 9, 10, 11, 12, 13, 14], [8, 9]), ([15, 11, 14, 0, 1, 2, 3, 4, 5, 6, 7, 8, 9, 10, 11, 12, 13, 14], [11, 15])])
def moved.B8 : List Nat := [0, 1, 3, 7, 0, 0, 32, 96, 224, 0, 0, 0, 511, 4607, 13823, 32767, 65535]
theorem moved.tab8 : rtab .any (opsOf Tryz.f59 8) = moved.T8 := by kernel_rfl
theorem moved.bits8 : waitsOk moved.T8.2 moved.B8 = true := by kernel_rfl
set_option maxHeartbeats 8000000 in
set_option maxRecDepth 100000 in
theorem moved.calls (kd kf : Nat) (c : MC) (D : Int → List Int) (hD : ∀ i : Int, 0 ≤ i → i < (c.ld.length : Int) → ∃ (m : Nat) (L : List I32), eachF kd (rd_T57 c.ld i) m (rd_T57 c.ld i).f2 = some (L.map (·.1)) ∧ D i = L.map (·.1)) (t i v j : Int) (s : Mt) (r : Mt × Int × Bool) (w : World)
    (h : movedF D kf i v s t = some r) (h0 : 0 ≤ i) (h1 : i < (c.ld.length : Int)) (hv : -2147483648 ≤ v ∧ v ≤ 2147483647) (ho : -2147483648 ≤ rd s.val i ∧ rd s.val i ≤ 2147483647) (hj : s.own v = some j) (hh : Held i v { s with own := upd s.own (rd s.val i) none }) (hk : c.ld.length < kf)
    (hM : MAt c w.heap.size t s w) : Calls Tryz.prog 59 #[.pointer (some ⟨c.G, 0, none⟩), .int .i64 i, .int .i64 v] w (CanPost c r w) := by
  have h' : (if t < 1099511627776 then
    match aug D (t + 1) i v kf j { s with own := upd s.own (rd s.val i) none } with
    | none => none
    | some (s2, true) => some (({ own := upd s2.own v (some i), val := s2.val.set i.toNat v, met := s2.met } : Mt), t + 1, true)
    | some (s2, false) => some (({ s2 with own := upd s2.own (rd s.val i) (some i) } : Mt), t + 1, false)
  else none) = some r := by
    have h2 := h
    unfold movedF at h2
    rw [hj] at h2
    exact h2
  clear h
  by_cases ct : t < 1099511627776
  case neg => rw [if_neg ct] at h'; cases h'
  rw [if_pos ct] at h'
  have hw64 : wrap64 (t + 1) = t + 1 := by have := hM.time; unfold wrap64; omega
  have HJ := Aside0.mk (hM.held v j hj)
  have AC := Aside0.mk (augment.calls kd c D hD (t + 1) i v kf j)
  obtain ⟨G, bo, bv, bm, Ad, cd, cv, ld⟩ := c
  have H01 := Aside0.mk (And.intro h0 h1)
  have HV := Aside0.mk hv
  have HO := Aside0.mk ho
  have HH := Aside0.mk hh
  have HK := Aside0.mk hk
  have HM := Aside0.mk hM
  have HT := Aside0.mk ct
  have H' := Aside0.mk h'
  have HW := Aside0.mk hw64
  have HJo := Aside0.mk hj
  clear hw64 h' ct hM hk hh ho hv hD hj h0 h1
  have q1 : w.cell? ⟨G, 1, none⟩ = some (.map (some bo)) := (blk_cell HM.out.blk 1).trans rfl
  have q2 : w.cell? ⟨G, 2, none⟩ = some (.slice (some ⟨bv, 0, none⟩) ld.length cv) := (blk_cell HM.out.blk 2).trans rfl
  have q3 := (HM.out.vcell i H01.out.1 H01.out.2).1
  have p01 : (0 ≤ i) = True := eq_true H01.out.1
  have p02 : (i < (ld.length : Int)) = True := eq_true H01.out.2
  go_enter Tryz.func59, Tryz.ntmps59
  cases ha : aug D (t + 1) i v kf j { s with own := upd s.own (rd s.val i) none } with
  | none =>
    have h2 := H'.out
    rw [ha] at h2
    cases h2
  | some sb =>
  obtain ⟨s2, b⟩ := sb
  have HA := Aside0.mk ha
  have hr := H'.out
  rw [ha] at hr
  clear ha H'
  have HC := Aside0.mk (show cnt (t + 1) { s with own := upd s.own (rd s.val i) none } < kf from Nat.lt_of_le_of_lt (Nat.le_trans List.countP_le_length (by rw [List.length_range]; show s.val.length ≤ ld.length; exact Nat.le_of_eq HM.out.vlen)) HK.out)
  go_wp2_with (first | (at_lookup; refine out_mget _ rfl _ _ 93 rfl Tryz.underlying3 Tryz.underlying93 zero3 bo s.own rfl HM.out.own v rfl HV.out ?_; simp only [HJo.out, Option.getD_some]) | (at_delete; refine out_mdel _ rfl _ _ 93 rfl Tryz.underlying3 Tryz.underlying93 bo s.own rfl HM.out.own (rd s.val i) rfl HO.out ?_; intro w1 hm1 hg1; have HM1 := Aside0.mk (HM.out.putdel hm1 hg1); have HK1 := Aside0.mk (keepL_grown (c := (MC.mk G bo bv bm Ad cd cv ld)) hg1 (MAt.boS _) (Nat.le_refl w.heap.size)); clear hm1 hg1; have q4 : w1.cell? ⟨G, 4, none⟩ = some (.int .i64 t) := (blk_cell HM1.out.blk 4).trans rfl; have f4 : w1.frozen? ⟨G, 4, none⟩ = false := blk_frozen HM1.out.blk 4))
  have HM2 := Aside0.mk (HM1.out.tick HT.out)
  have HK2 := Aside0.mk (HK1.out.toT.trans (KeepL.grown (n₀ := w.heap.size) (S := (MC.mk G bo bv bm Ad cd cv ld).T) (grown_setCell0 w1 ⟨G, 4, none⟩ (.int .i64 (t + 1))) (fun k e => .inl (.inr (Option.some.inj e).symm)) HM1.out.size))
  rw [← HW.out] at HM2 HK2
  have hG4 : (w1.setCell ⟨G, 4, none⟩ (.int .i64 (wrap64 (t + 1)))).heap.size = w1.heap.size := by simp [World.setCell]
  obtain ⟨w2, hw2⟩ : ∃ w2, w2 = w1.setCell ⟨G, 4, none⟩ (.int .i64 (wrap64 (t + 1))) := ⟨_, rfl⟩
  try rw [← hw2]
  rw [← hw2] at HM2 HK2
  clear hw2 hG4
  rw [HW.out] at HM2
  have II : Aside0 (-2147483648 ≤ i ∧ i ≤ 1099511627776) := ⟨by have := H01.out.1; omega, by have h1_ : i < (ld.length : Int) := H01.out.2; have h2_ : ld.length ≤ 1099511627776 := HM.out.many; omega⟩
  cases b with
  | false =>
    simp only [Option.some.injEq] at hr
    subst hr
    refine (AC.out _ (s2, false) w2 HA.out HH.out HC.out HJ.out.1 HJ.out.2 (HM2.out.more HM2.out.size (Nat.le_refl _))).mono ?_
    rintro e w3 ⟨rfl, hm3, hk3⟩
    have HM3 := Aside0.mk (hm3.less HM2.out (hk3.mono HM2.out.size))
    have HK3 := Aside0.mk (HK2.out.trans (hk3.mono HM2.out.size).toT)
    clear hm3 hk3
    have q5 : w3.cell? ⟨G, 1, none⟩ = some (.map (some bo)) := (blk_cell HM3.out.blk 1).trans rfl
    go_wp2_with (at_mapUpdate; refine out_mput _ rfl _ _ _ 93 rfl Tryz.underlying3 Tryz.underlying93 bo s2.own rfl HM3.out.own (rd s.val i) i rfl rfl HO.out II.out ?_; intro w4 hm4 hg4; have HM4 := Aside0.mk (HM3.out.putown (c := (MC.mk G bo bv bm Ad cd cv ld)) H01.out.1 H01.out.2 hm4 hg4); have HK4 := Aside0.mk (HK3.out.trans (keepL_grown (c := (MC.mk G bo bv bm Ad cd cv ld)) hg4 (MAt.boS _) HM3.out.size).toT); clear hm4 hg4)
    first | go_ret | go_ret2
    exact ⟨rfl, HM4.out, HK4.out⟩
  | true =>
    simp only [Option.some.injEq] at hr
    subst hr
    refine (AC.out _ (s2, true) w2 HA.out HH.out HC.out HJ.out.1 HJ.out.2 (HM2.out.more HM2.out.size (Nat.le_refl _))).mono ?_
    rintro e w3 ⟨rfl, hm3, hk3⟩
    have HM3 := Aside0.mk (hm3.less HM2.out (hk3.mono HM2.out.size))
    have HK3 := Aside0.mk (HK2.out.trans (hk3.mono HM2.out.size).toT)
    clear hm3 hk3
    have G1_ := Aside0.mk (show G ≠ bo from fun e => HM3.out.G1 (by rw [show (MC.mk G bo bv bm Ad cd cv ld).G = bo from e]; exact MAt.boS (MC.mk G bo bv bm Ad cd cv ld)))
    go_wp2
    have HM3d := Aside0.mk (HM3.out.below (below_drew1 (Below.refl w3.heap.size w3)))
    have HK3d := Aside0.mk (HK3.out.trans (KeepL.of_below (S := (MC.mk G bo bv bm Ad cd cv ld).T) (below_drew1 (Below.refl w3.heap.size w3)) HM3.out.size))
    refine startU (n := 17) (S := fun w' => w'.cell? ⟨G, 1, none⟩ = some (.map (some bo)) ∧ w'.cell? ⟨G, 2, none⟩ = some (.slice (some ⟨bv, 0, none⟩) ld.length cv)) (ds := []) #[false, false, false, false, false, false, false, false, false, false, false, false, false, false, false, false, false] (by kernel_rfl) rfl rfl ⟨(blk_cell HM3.out.blk 1).trans rfl, (blk_cell HM3.out.blk 2).trans rfl⟩ (fun hHeld => ?_)
    refine with_tabW moved.tab8 moved.bits8 (fun HT_ HW_ => ?_)
    refine pure_ (i := 0) (N := some 46) (v := ?_) (a' := ?_) #[true, false, false, false, false, false, false, false, false, false, false, false, false, false, false, false, false] rfl rfl (any_of HT_.out (by kernel_rfl)) (fun _ _ _ h => h) (Or.inl ⟨by rfl, ?_⟩) ?_ ?_
    rotate_left
    · intro w'
      go_simp
      with_reducible rfl
    rotate_left
    · simp only [Act.put, List.setIfInBounds_toArray, List.set_cons_zero, List.set_cons_succ, i64_w, i32_w]
      rfl
    refine pure_ (i := 1) (N := some 47) (v := ?_) (a' := ?_) #[true, true, false, false, false, false, false, false, false, false, false, false, false, false, false, false, false] rfl rfl (any_of HT_.out (by kernel_rfl)) (fun _ _ _ h => h) (Or.inl ⟨by rfl, ?_⟩) ?_ ?_
    rotate_left
    · intro w'
      go_simp
      with_reducible rfl
    rotate_left
    · simp only [Act.put, List.setIfInBounds_toArray, List.set_cons_zero, List.set_cons_succ, i64_w, i32_w]
      rfl
    refine pure_ (i := 2) (N := some 48) (v := ?_) (a' := ?_) #[true, true, true, false, false, false, false, false, false, false, false, false, false, false, false, false, false] rfl rfl (any_of HT_.out (by kernel_rfl)) (fun _ _ _ h => h) (Or.inl ⟨by rfl, ?_⟩) ?_ ?_
    rotate_left
    · intro w'
      go_simp
      with_reducible rfl
    rotate_left
    · simp only [Act.put, List.setIfInBounds_toArray, List.set_cons_zero, List.set_cons_succ, i64_w, i32_w]
      rfl
    refine take_ (i := 3) (N := some 49) (v := ?_) (a' := ?_) #[true, true, true, true, false, false, false, false, false, false, false, false, false, false, false, false, false] rfl rfl (take_ofW HT_.out HW_.out (by kernel_rfl)) (fun _ _ _ h => h) (Or.inl ⟨by rfl, ?_⟩) hHeld ?_ ?_
    rotate_left
    · rintro w' ⟨s0, s1⟩
      go_simp
      with_reducible rfl
    rotate_left
    · simp only [Act.put, List.setIfInBounds_toArray, List.set_cons_zero, List.set_cons_succ, i64_w, i32_w]
      rfl
    refine pure_ (i := 4) (N := some 50) (v := ?_) (a' := ?_) #[true, true, true, true, true, false, false, false, false, false, false, false, false, false, false, false, false] rfl rfl (any_of HT_.out (by kernel_rfl)) (fun _ _ _ h => h) (Or.inl ⟨by rfl, ?_⟩) ?_ ?_
    rotate_left
    · intro w'
      go_simp
      with_reducible rfl
    rotate_left
    · simp only [Act.put, List.setIfInBounds_toArray, List.set_cons_zero, List.set_cons_succ, i64_w, i32_w]
      rfl
    refine pure_ (i := 5) (N := some 51) (v := ?_) (a' := ?_) #[true, true, true, true, true, true, false, false, false, false, false, false, false, false, false, false, false] rfl rfl (any_of HT_.out (by kernel_rfl)) (fun _ _ _ h => h) (Or.inl ⟨by rfl, ?_⟩) ?_ ?_
    rotate_left
    · intro w'
      go_simp
      with_reducible rfl
    rotate_left
    · simp only [Act.put, List.setIfInBounds_toArray, List.set_cons_zero, List.set_cons_succ, i64_w, i32_w]
      rfl
    refine pure_ (i := 6) (N := some 52) (v := ?_) (a' := ?_) #[true, true, true, true, true, true, true, false, false, false, false, false, false, false, false, false, false] rfl rfl (any_of HT_.out (by kernel_rfl)) (fun _ _ _ h => h) (Or.inl ⟨by rfl, ?_⟩) ?_ ?_
    rotate_left
    · intro w'
      go_simp
      with_reducible rfl
    rotate_left
    · simp only [Act.put, List.setIfInBounds_toArray, List.set_cons_zero, List.set_cons_succ, i64_w, i32_w]
      rfl
    refine pure_ (i := 7) (N := some 53) (v := ?_) (a' := ?_) #[true, true, true, true, true, true, true, true, false, false, false, false, false, false, false, false, false] rfl rfl (any_of HT_.out (by kernel_rfl)) (fun _ _ _ h => h) (Or.inl ⟨by rfl, ?_⟩) ?_ ?_
    rotate_left
    · intro w'
      go_simp
      with_reducible rfl
    rotate_left
    · simp only [Act.put, List.setIfInBounds_toArray, List.set_cons_zero, List.set_cons_succ, i64_w, i32_w]
      rfl
    refine take_ (i := 8) (N := some 54) (v := ?_) (a' := ?_) #[true, true, true, true, true, true, true, true, true, false, false, false, false, false, false, false, false] rfl rfl (take_ofW HT_.out HW_.out (by kernel_rfl)) (fun _ _ _ h => h) (Or.inl ⟨by rfl, ?_⟩) hHeld ?_ ?_
    rotate_left
    · rintro w' ⟨s0, s1⟩
      go_simp
      with_reducible rfl
    rotate_left
    · simp only [Act.put, List.setIfInBounds_toArray, List.set_cons_zero, List.set_cons_succ, i64_w, i32_w]
      rfl
    refine pure_ (i := 9) (N := some 55) (v := ?_) (a' := ?_) #[true, true, true, true, true, true, true, true, true, true, false, false, false, false, false, false, false] rfl rfl (any_of HT_.out (by kernel_rfl)) (fun _ _ _ h => h) (Or.inl ⟨by rfl, ?_⟩) ?_ ?_
    rotate_left
    · intro w'
      go_simp
      with_reducible rfl
    rotate_left
    · simp only [Act.put, List.setIfInBounds_toArray, List.set_cons_zero, List.set_cons_succ, i64_w, i32_w]
      rfl
    refine pure_ (i := 10) (N := some 56) (v := ?_) (a' := ?_) #[true, true, true, true, true, true, true, true, true, true, true, false, false, false, false, false, false] rfl rfl (any_of HT_.out (by kernel_rfl)) (fun _ _ _ h => h) (Or.inl ⟨by rfl, ?_⟩) ?_ ?_
    rotate_left
    · intro w'
      go_simp
      with_reducible rfl
    rotate_left
    · simp only [Act.put, List.setIfInBounds_toArray, List.set_cons_zero, List.set_cons_succ, i64_w, i32_w]
      rfl
    refine pure_ (i := 11) (N := some 57) (v := ?_) (a' := ?_) #[true, true, true, true, true, true, true, true, true, true, true, true, false, false, false, false, false] rfl rfl (any_of HT_.out (by kernel_rfl)) (fun _ _ _ h => h) (Or.inl ⟨by rfl, ?_⟩) ?_ ?_
    rotate_left
    · intro w'
      go_simp
      with_reducible rfl
    rotate_left
    · simp only [Act.put, List.setIfInBounds_toArray, List.set_cons_zero, List.set_cons_succ, i64_w, i32_w]
      rfl
    refine one_ (i := 12) (N := some 58) #[true, true, true, true, true, true, true, true, true, true, true, true, true, false, false, false, false] rfl rfl (one_of HT_.out (by kernel_rfl)) (by decide) (fun K hK => ?_)
    obtain ⟨v0, st, w4, e1, e2, e3⟩ := (HM3.out.own.keep (w' := w3.drew) rfl).entry 93 Tryz.underlying3 Tryz.underlying93 zero3 v i HV.out II.out
    have hc4 := Aside0.mk (e2.block G (Nat.lt_of_lt_of_le HM3.out.G0 HM3.out.size) fun e => G1_.out (Option.some.inj e))
    refine entry_step (by rfl) (.tmp 49) (.tmp 50) 93 rfl bo rfl v rfl e1 ?_
    refine hK.out _ _ ⟨(cell_of_heap hc4.out).trans ((blk_cell HM3.out.blk 1).trans rfl), (cell_of_heap hc4.out).trans ((blk_cell HM3.out.blk 2).trans rfl)⟩ (fun hHeld => ?_)
    clear hK K
    refine norm_ (a' := ?_) ?_ ?_
    rotate_left
    · simp only [Act.put, List.setIfInBounds_toArray, List.set_cons_zero, List.set_cons_succ, i64_w, i32_w]
      rfl
    refine pure_ (i := 13) (N := some 59) (v := ?_) (a' := ?_) #[true, true, true, true, true, true, true, true, true, true, true, true, true, true, false, false, false] rfl rfl (any_of HT_.out (by kernel_rfl)) (fun _ _ _ h => h) (Or.inl ⟨by rfl, ?_⟩) ?_ ?_
    rotate_left
    · intro w'
      go_simp
      with_reducible rfl
    rotate_left
    · simp only [Act.put, List.setIfInBounds_toArray, List.set_cons_zero, List.set_cons_succ, i64_w, i32_w]
      rfl
    refine one_ (i := 14) (N := none) #[true, true, true, true, true, true, true, true, true, true, true, true, true, true, true, false, false] rfl rfl (one_of HT_.out (by kernel_rfl)) (by decide) (fun K hK => ?_)
    obtain ⟨w5, e4, hm5, hg5⟩ := e3 w4 rfl
    have HM5 := Aside0.mk ((HM3d.out.putown (c := (MC.mk G bo bv bm Ad cd cv ld)) H01.out.1 H01.out.2 hm5 (grown_two e2 hg5)))
    have HK5 := Aside0.mk (HK3d.out.trans (keepL_grown (c := (MC.mk G bo bv bm Ad cd cv ld)) (grown_two e2 hg5) (MAt.boS _) HM3d.out.size).toT)
    refine estore_step (by rfl) (.tmp 49) (.tmp 59) (.tmp 56) 93 rfl bo rfl st rfl i rfl e4 ?_
    clear hm5 hg5 e4 e3 e2 e1
    refine hK.out _ _ ⟨(blk_cell HM5.out.blk 1).trans rfl, (blk_cell HM5.out.blk 2).trans rfl⟩ (fun hHeld => ?_)
    clear hK K
    have q8 := (HM5.out.vcell i H01.out.1 H01.out.2).1
    have f8 := (HM5.out.vcell i H01.out.1 H01.out.2).2
    refine pure_ (i := 15) (N := some 60) (v := ?_) (a' := ?_) #[true, true, true, true, true, true, true, true, true, true, true, true, true, true, true, true, false] rfl rfl (any_of HT_.out (by kernel_rfl)) (fun _ _ _ h => h) (Or.inl ⟨by rfl, ?_⟩) ?_ ?_
    rotate_left
    · intro w'
      go_simp
      with_reducible rfl
    rotate_left
    · simp only [Act.put, List.setIfInBounds_toArray, List.set_cons_zero, List.set_cons_succ, i64_w, i32_w]
      rfl
    refine one_ (i := 16) (N := none) #[true, true, true, true, true, true, true, true, true, true, true, true, true, true, true, true, true] rfl rfl (one_of HT_.out (by kernel_rfl)) (by decide) (fun K hK => ?_)
    refine skip_ (w1 := w5.setCell ⟨bv, i.toNat, none⟩ (.int .i64 v)) (by rfl) rfl ?_ ?_
    · first | (go_simp; done) | (go_simp; rfl)
    have HV6 := Aside0.mk (HM5.out.putval i v)
    obtain ⟨w6, hw6⟩ : ∃ w6, w6 = w5.setCell ⟨bv, i.toNat, none⟩ (.int .i64 v) := ⟨_, rfl⟩
    rw [← hw6] at HV6 ⊢
    clear hw6
    have HK6 := Aside0.mk (HK5.out.trans (keepL_grown (c := (MC.mk G bo bv bm Ad cd cv ld)) HV6.out.2 (MAt.bvS _) HM5.out.size).toT)
    refine hK.out _ _ ⟨(blk_cell HV6.out.1.blk 1).trans rfl, (blk_cell HV6.out.1.blk 2).trans rfl⟩ (fun hHeld => ?_)
    clear hK K
    refine done_ (done_of HT_.out (by kernel_rfl)) ?_
    clear HT_ HW_ hHeld
    simp only [NoP, Act.put]
    go_wp2
    first | go_ret | go_ret2
    exact ⟨rfl, HV6.out.1, HK6.out⟩
set_option maxHeartbeats 8000000 in
set_option maxRecDepth 100000 in
theorem can.calls (kd kf : Nat) (c : MC) (D : Int → List Int) (hD : ∀ i : Int, 0 ≤ i → i < (c.ld.length : Int) → ∃ (m : Nat) (L : List I32), eachF kd (rd_T57 c.ld i) m (rd_T57 c.ld i).f2 = some (L.map (·.1)) ∧ D i = L.map (·.1)) (t i v : Int) (s : Mt) (r : Mt × Int × Bool) (w : World)
    (h : canF D kf i v s t = some r) (h0 : 0 ≤ i) (h1 : i < (c.ld.length : Int)) (hv : -2147483648 ≤ v ∧ v ≤ 2147483647) (ho : -2147483648 ≤ rd s.val i ∧ rd s.val i ≤ 2147483647) (hh : Held i v { s with own := upd s.own (rd s.val i) none }) (hk : c.ld.length < kf)
    (hM : MAt c w.heap.size t s w) : Calls Tryz.prog 31 #[.pointer (some ⟨c.G, 0, none⟩), .int .i64 i, .int .i64 v] w (CanPost c r w) := by
  have h' : (if rd s.val i = v then some (s, t, true) else match s.own v with | none => some (s, t, true) | some _ => movedF D kf i v s t) = some r := h
  clear h
  have HMv := Aside0.mk (moved.calls kd kf c D hD t i v)
  have HM := Aside0.mk hM
  have HV := Aside0.mk hv
  have HKe := Aside0.mk (KeepL.refl w.heap.size c.T w)
  have hq : w.cell? ⟨c.G, 2, none⟩ = some (.slice (some ⟨c.bv, 0, none⟩) c.ld.length c.cv) := (blk_cell hM.blk 2).trans rfl
  have q1 : w.cell? ⟨c.G, 1, none⟩ = some (.map (some c.bo)) := (blk_cell hM.blk 1).trans rfl
  have q3 := (hM.vcell i h0 h1).1
  have p01 : (0 ≤ i) = True := eq_true h0
  have p02 : (i < (c.ld.length : Int)) = True := eq_true h1
  obtain ⟨G, bo, bv, bm, Ad, cd, cv, ld⟩ := c
  simp only at hq q1 q3 p02
  by_cases c1 : rd s.val i = v
  · rw [if_pos c1] at h'
    obtain rfl := Option.some.inj h'
    have k1 : (rd s.val i == v) = true := beq_iff_eq.mpr c1
    clear c1 h'
    clear hv ho hh hk hM HMv hD h0 h1
    go_enter Tryz.func31, Tryz.ntmps31
    go_wp2
    first | go_ret | go_ret2
    exact ⟨rfl, HM.out, HKe.out⟩
  rw [if_neg c1] at h'
  have k1 : (rd s.val i == v) = false := beq_eq_false_iff_ne.mpr c1
  clear c1
  cases hj : s.own v with
  | none =>
    rw [hj] at h'
    obtain rfl := Option.some.inj h'
    have HJo := Aside0.mk hj
    clear h' hj
    clear hv ho hh hk hM HMv hD h0 h1
    go_enter Tryz.func31, Tryz.ntmps31
    go_wp2_with (at_lookup; refine out_mgetok _ rfl _ _ 93 rfl Tryz.underlying3 Tryz.underlying93 zero3 bo s.own rfl HM.out.own v rfl HV.out ?_; simp only [HJo.out, Option.getD_none, Option.isSome_none])
    first | go_ret | go_ret2
    exact ⟨rfl, HM.out, HKe.out⟩
  | some j =>
    rw [hj] at h'
    have HJo := Aside0.mk hj
    have HC := Aside0.mk (HMv.out j s r w h' h0 h1 hv ho hj hh hk hM)
    clear h' hj
    clear hv ho hh hk hM HMv hD h0 h1
    go_enter Tryz.func31, Tryz.ntmps31
    go_wp2_with (at_lookup; refine out_mgetok _ rfl _ _ 93 rfl Tryz.underlying3 Tryz.underlying93 zero3 bo s.own rfl HM.out.own v rfl HV.out ?_; simp only [HJo.out, Option.getD_some, Option.isSome_some])
    refine HC.out.mono ?_
    rintro e w3 ⟨rfl, hm3, hk3⟩
    have HM3 := Aside0.mk hm3
    have HK3 := Aside0.mk hk3
    clear hm3 hk3
    go_wp2
    first | go_ret | go_ret2
    exact ⟨rfl, HM3.out, HK3.out⟩
section
variable {ops : Array Oper} {rest : List Oper} {o : Oper} {a : Act} {Q : Exit → Act → World → Prop} {W : World}
theorem map_made (hgd : o.guard = none) (hrun : (execOp a.eval o).run Tryz.prog W = .ok (.value (.map (some W.heap.size))) (W.alloc (.map #[] 0)))
    (h : ∀ g, g = W.heap.size → ∀ w1, IMap Tryz.prog w1 g (fun _ => none) → Below W.heap.size W w1 → wpList Tryz.prog ops Q rest (a.put o.dst (.map (some g))) w1) : wpList Tryz.prog ops Q (o :: rest) a W :=
  Kd.event_run hgd hrun (h _ rfl _ (IMap.made Tryz.prog W) (below_alloc (Below.refl _ _) _))
end
theorem row_open {w : World} {base : Nat} {ok : Nat → Prop} {v : Value} {xs : List Int} (h : Kd.R (Kd.int .i64) 3 w base ok v xs) (hn : 0 < xs.length) :
    ∃ b cv, v = .slice (some ⟨b, 0, none⟩) xs.length cv ∧ base ≤ b ∧ b < w.heap.size ∧ Kd.R (Kd.int .i64) 3 w 0 (fun k => k = b) (.slice (some ⟨b, 0, none⟩) xs.length cv) xs := by
  obtain ⟨h0, inner, ⟨hl, ho⟩, hr⟩ := h
  rcases ho with ⟨_, ho⟩ | ⟨g, cap, cur, rfl, hb, hg, r⟩
  · omega
  · exact ⟨g, cap, rfl, hb, (Array.getElem?_eq_some_iff.1 hg).1, fun k hk => (Option.some.inj hk).symm, inner, ⟨hl, .inr ⟨g, cap, cur, rfl, Nat.zero_le _, hg, r⟩⟩, hr⟩
/-- What 'match' comes to. -/
def MatchPost (l1 : List S57) (A1 : Option Addr) (c1 : Nat) (r : Mt × Int × Bool) (w : World) (e : Ending) (w' : World) : Prop :=
  Below w.heap.size w w' ∧ ((r.2.2 = true ∧ ∃ c : MC, c.ld = l1 ∧ c.Ad = A1 ∧ c.cd = c1 ∧ (∀ k, c.T k → w.heap.size ≤ k) ∧ e = .returned (.tuple #[.pointer (some ⟨c.G, 0, none⟩), .bool true]) ∧ MAt c w'.heap.size r.2.1 r.1 w') ∨ (r.2.2 = false ∧ e = .returned (.tuple #[.pointer none, .bool false])))
theorem below_keepL {n m : Nat} {S : Nat → Prop} {w W0 W : World} (hb : Below n w W0) (hk : KeepL m S W0 W) (hn : n ≤ m) (hS : ∀ k, S k → n ≤ k) : Below n w W :=
  ⟨hk.os.trans hb.os, hk.tape.trans hb.tape, hk.output.trans hb.output, Nat.le_trans hb.size hk.size, fun k h => (hk.block k (Nat.lt_of_lt_of_le h hn) fun e => absurd h (Nat.not_lt.2 (hS k e))).trans (hb.block k h)⟩
theorem MAt.start {l1 : List S57} {A1 : Option Addr} {c1 G bo bv bm cv : Nat} {w w1 w2 w3 w4 : World} (hr : Kd.F k57 w (fun k => k < w.heap.size) A1 l1.length l1) (hc : l1.length ≤ c1) (hn : l1.length ≤ 1099511627776)
    (hbo : bo = w.heap.size ∧ IMap Tryz.prog w1 bo (fun _ => none)) (b1 : Below w.heap.size w w1) (hbv : w1.heap.size ≤ bv ∧ bv < w2.heap.size ∧ Kd.R (Kd.int .i64) 3 w2 0 (fun k => k = bv) (.slice (some ⟨bv, 0, none⟩) l1.length cv) (List.replicate l1.length 0)) (b2 : Below w1.heap.size w1 w2)
    (hbm : bm = w2.heap.size ∧ IMap Tryz.prog w3 bm (fun _ => none)) (b3 : Below w2.heap.size w2 w3) (hG : G = w3.heap.size ∧ w4.heap[G]? = some (.cells #[.slice A1 l1.length c1, .map (some bo), .slice (some ⟨bv, 0, none⟩) l1.length cv, .map (some bm), .int .i64 0] 95 (0, 0))) (b4 : Below w3.heap.size w3 w4) :
    MAt (MC.mk G bo bv bm A1 c1 cv l1) w4.heap.size 0 (mt0 l1.length) w4 ∧ Below w.heap.size w w4 ∧ ∀ k, (MC.mk G bo bv bm A1 c1 cv l1).T k → w.heap.size ≤ k := by
  have s1 := b1.size
  have s2 := b2.size
  have s3 := b3.size
  have s4 := b4.size
  have z1 := hbo.2.lt
  have z3 := hbm.2.lt
  have zG : G < w4.heap.size := (Array.getElem?_eq_some_iff.1 hG.2).1
  have hB : Below w.heap.size w w4 := below_step (below_step (below_step b1 b2) b3) b4
  have hT : ∀ k, (MC.mk G bo bv bm A1 c1 cv l1).T k → w.heap.size ≤ k := fun k h => by
    unfold MC.T MC.S at h
    simp only at h
    omega
  refine ⟨?_, hB, hT⟩
  exact {
    blk := hG.2
    own := hbo.2.keep ((b4.block _ (by omega)).trans ((b3.block _ (by omega)).trans (b2.block _ z1)))
    met := hbm.2.keep (b4.block _ z3)
    val := Kd.R_step hbv.2.2 fun k hk hlt => (b4.block _ (by omega)).trans (b3.block _ hlt)
    doms := Kd.F_mono (Kd.F_step hr fun k hk _ => hB.block k hk) fun k hk => ⟨Nat.lt_of_lt_of_le hk hB.size, fun e => absurd hk (Nat.not_lt.2 (hT k e))⟩
    cap := hc
    many := hn
    G0 := zG
    G1 := fun e => by unfold MC.S at e; simp only at e; omega
    lt := ⟨by show bo < _; omega, by show bv < _; omega, by show bm < _; omega⟩
    ne := ⟨by show bo ≠ bv; omega, by show bo ≠ bm; omega, by show bv ≠ bm; omega⟩
    time := ⟨by omega, by omega⟩
    held := fun v j h => by cases h
    size := Nat.le_refl _ }
set_option maxHeartbeats 8000000 in
set_option maxRecDepth 100000 in
theorem match.calls (kd kf : Nat) (D : Int → List Int) (l1 : List S57) (A1 : Option Addr) (c1 : Nat) (hD : ∀ i : Int, 0 ≤ i → i < (l1.length : Int) → ∃ (m : Nat) (L : List I32), eachF kd (rd_T57 l1 i) m (rd_T57 l1 i).f2 = some (L.map (·.1)) ∧ D i = L.map (·.1)) (r : Mt × Int × Bool) (w : World)
    (h : matchF D kf l1.length 0 (mt0 l1.length) 0 = some r) (hr1 : Kd.C k57 w A1 l1.length l1) (hc1 : l1.length ≤ c1) (hn : 0 < l1.length ∧ l1.length ≤ 1099511627776) (hk : l1.length < kf) : Calls Tryz.prog 30 #[.slice A1 l1.length c1] w (MatchPost l1 A1 c1 r w) := by
  have HR := Aside0.mk (Kd.C_F k57_heap hr1)
  have HC := Aside0.mk hc1
  have HN := Aside0.mk hn
  have HK := Aside0.mk hk
  have HDD := Aside0.mk hD
  have H := Aside0.mk h
  clear hr1 hc1 hn hk hD h
  have hmm := @run_makeMap Tryz.prog
  go_enter Tryz.func30, Tryz.ntmps30
  have HB := Aside0.mk (Below.refl w.heap.size w)
  go_wp2_with (first | ((with_reducible refine gate_dst (N := 7) rfl ?_); refine map_made rfl (by first | (go_simp; done) | (go_simp; rfl)) ?_; intro bo ebo w1 hm1 hb1; have HBo := Aside0.mk (And.intro ebo hm1); have HB1 := Aside0.mk hb1; clear hm1 hb1 ebo) | ((with_reducible refine gate_dst (N := 10) rfl ?_); refine Kd.R_make (Kd.int .i64) _ 3 rfl (N := 10) rfl 30 _ _ rfl (l1.length : Int) rfl rfl Tryz.underlying30 (.int .i64 0) 8 info3 rfl (by decide) (by omega) 0 (ok := fun _ => True) (okp := fun _ => True) rfl (fun _ hk => hk) trivial (Int.natCast_nonneg _) (by have := HN.out.2; rw [Int.toNat_natCast]; omega) (Below.refl _ _) (Nat.le_refl _) ?_; intro vv w2 ho2 hb2 _ _; rw [Int.toNat_natCast] at ho2; obtain ⟨bv, cv, evv, hv1, hv2, hv3⟩ := row_open ho2 (by rw [List.length_replicate]; exact HN.out.1); rw [List.length_replicate] at evv hv3; subst evv; have HV2 := Aside0.mk (And.intro hv1 (And.intro hv2 hv3)); have HB2 := Aside0.mk hb2; clear ho2 hb2 hv1 hv2 hv3) | ((with_reducible refine gate_dst (N := 11) rfl ?_); refine map_made rfl (by first | (go_simp; done) | (go_simp; rfl)) ?_; intro bm ebm w3 hm3 hb3; have HBm := Aside0.mk (And.intro ebm hm3); have HB3 := Aside0.mk hb3; clear hm3 hb3 ebm) | ((with_reducible refine gate_dst (N := 13) rfl ?_); refine box_event rfl (N := 13) rfl (cs := #[.slice A1 l1.length c1, .map (some bo), .slice (some ⟨bv, 0, none⟩) l1.length cv, .map (some bm), .int .i64 0]) (t := 95) (by first | (go_simp; done) | (go_simp; rfl)) ?_; intro G eG w4 hbox hb4; have HBx := Aside0.mk (And.intro eG hbox); have HB4 := Aside0.mk hb4; clear hb4 hbox eG))
  have h0_ := MAt.start HR.out HC.out HN.out.2 HBo.out HB1.out HV2.out HB2.out HBm.out HB3.out HBx.out HB4.out
  have HM0 := Aside0.mk h0_.1
  have HB0 := Aside0.mk h0_.2.1
  have HT0 := Aside0.mk h0_.2.2
  clear h0_ HBo HB1 HV2 HB2 HBm HB3 HBx HB4 HB hmm
  have AC := Aside0.mk (fun t => augment.calls kd (MC.mk G bo bv bm A1 c1 cv l1) D HDD.out t (-1) 0 kf)
  go_loopg [16] (l1.length + 1) (fun kq v16 W => ∃ (m : Nat) (i t : Int) (s : Mt), v16 = .int .i64 i ∧ kq = m + 1 ∧ Aside0 (0 ≤ i ∧ i + m = l1.length) ∧ Aside0 (matchF D kf m i s t = some r) ∧ Aside0 (GoodAt D l1.length t i s) ∧ Aside0 (MAt (MC.mk G bo bv bm A1 c1 cv l1) w4.heap.size t s W) ∧ Aside0 (KeepL w4.heap.size (MC.mk G bo bv bm A1 c1 cv l1).T w4 W))
  case atStart => exact ⟨l1.length, 0, 0, mt0 l1.length, rfl, rfl, ⟨Int.le_refl _, by omega⟩, H, ⟨GoodAt.start D l1.length⟩, HM0, ⟨KeepL.refl _ _ _⟩⟩
  case round =>
    obtain ⟨m, i, t, s, rfl, rfl, HI, HA, HG, HM, HKp⟩ := hrel
    cases m with
    | zero =>
      have c8b0 : decide (i < (l1.length : Int)) = false := decide_eq_false (by have := HI.out; omega)
      have hr := HA.out
      simp only [matchF, Option.some.injEq] at hr
      subst hr
      clear HA H
      go_wp2
      first | go_ret | go_ret2
      exact ⟨below_keepL HB0.out HKp.out HB0.out.size HT0.out, .inl ⟨rfl, _, rfl, rfl, rfl, HT0.out, rfl, HM.out.more HM.out.size (Nat.le_refl _)⟩⟩
    | succ m =>
      have c8b0 : decide (i < (l1.length : Int)) = true := decide_eq_true (by have := HI.out; omega)
      have hr := HA.out
      simp only [matchF] at hr
      by_cases ct : t < 1099511627776
      case neg => rw [if_neg ct] at hr; cases hr
      rw [if_pos ct] at hr
      have CT := Aside0.mk ct
      clear ct HA
      cases ha : aug D (t + 1) (-1) 0 kf i s with
      | none =>
        rw [ha] at hr
        cases hr
      | some sb =>
      obtain ⟨s2, b⟩ := sb
      rw [ha] at hr
      have HA := Aside0.mk ha
      have HR' := Aside0.mk hr
      clear ha hr
      have hw64 : wrap64 (t + 1) = t + 1 := by have := HM.out.time; unfold wrap64; omega
      have HW := Aside0.mk hw64
      clear hw64
      have q4 : wr.cell? ⟨G, 4, none⟩ = some (.int .i64 t) := (blk_cell HM.out.blk 4).trans rfl
      have f4 : wr.frozen? ⟨G, 4, none⟩ = false := blk_frozen HM.out.blk 4
      go_wp2_with (fail)
      have HM2 := Aside0.mk (HM.out.tick CT.out)
      have HK2 := Aside0.mk (HKp.out.trans (KeepL.grown (n₀ := w4.heap.size) (S := (MC.mk G bo bv bm A1 c1 cv l1).T) (grown_setCell0 wr ⟨G, 4, none⟩ (.int .i64 (t + 1))) (fun k e => .inl (.inr (Option.some.inj e).symm)) HM.out.size))
      rw [← HW.out] at HM2 HK2
      obtain ⟨w2, hw2⟩ : ∃ w2, w2 = wr.setCell ⟨G, 4, none⟩ (.int .i64 (wrap64 (t + 1))) := ⟨_, rfl⟩
      try rw [← hw2]
      rw [← hw2] at HM2 HK2
      clear hw2
      rw [HW.out] at HM2
      have HCn := Aside0.mk (show cnt (t + 1) s < kf from Nat.lt_of_le_of_lt (cnt_le _ _) (by rw [HG.out.1]; exact HK.out))
      have HI01 := Aside0.mk (show 0 ≤ i ∧ i < (l1.length : Int) by have := HI.out; omega)
      refine (AC.out (t + 1) i s (s2, b) w2 HA.out HG.out.held HCn.out HI01.out.1 HI01.out.2 (HM2.out.more HM2.out.size (Nat.le_refl _))).mono ?_
      rintro e w3 ⟨rfl, hm3, hk3⟩
      have HM3 := Aside0.mk (hm3.less HM2.out (hk3.mono HM2.out.size))
      have HK3 := Aside0.mk (HK2.out.trans (hk3.mono HM2.out.size).toT)
      clear hm3 hk3
      cases b with
      | false =>
        have hr := HR'.out
        simp only [Option.some.injEq] at hr
        subst hr
        clear HR'
        go_wp2
        first | go_ret | go_ret2
        exact ⟨below_keepL HB0.out HK3.out HB0.out.size HT0.out, .inr ⟨rfl, rfl⟩⟩
      | true =>
        have HR2 := Aside0.mk (show matchF D kf m (i + 1) s2 (t + 1) = some r from HR'.out)
        clear HR'
        have hi64 : wrap64 (i + 1) = i + 1 := by have := HI.out; have := HN.out; unfold wrap64; omega
        have HI64 := Aside0.mk hi64
        clear hi64
        go_wp2
        go_roundg (m + 1)
        case measure => omega
        case rel => exact ⟨m, i + 1, t + 1, s2, by rw [HI64.out], rfl, ⟨by have := HI.out; omega⟩, HR2, ⟨HG.out.step HK.out HI01.out.1 HI01.out.2 HA.out⟩, HM3, HK3⟩
theorem MAt.T_lt {c : MC} {n₀ : Nat} {t : Int} {s : Mt} {W : World} (h : MAt c n₀ t s W) {k : Nat} (hk : c.T k) : k < n₀ := by
  rcases hk with (rfl | rfl | rfl) | rfl
  · exact h.lt.1
  · exact h.lt.2.1
  · exact h.lt.2.2
  · exact h.G0
theorem MAt.lessT {c : MC} {n₀ n₁ : Nat} {t t0 : Int} {s s0 : Mt} {W W0 : World} (h : MAt c n₁ t s W) (h0 : MAt c n₀ t0 s0 W0) (hk : KeepL n₀ c.T W0 W) : MAt c n₀ t s W :=
  { h with
    doms := F_keepL h0.doms hk
    G0 := h0.G0
    lt := h0.lt
    size := Nat.le_trans h0.size hk.size }
theorem MAt.grown {c : MC} {n₀ : Nat} {t : Int} {s : Mt} {W W1 : World} {row : Option Nat} (h : MAt c n₀ t s W) (hg : W.grownBy W1 row) (hr : ∀ k, row = some k → n₀ ≤ k) : MAt c n₀ t s W1 :=
  h.same hg.size fun i hi => hg.block i (Nat.lt_of_lt_of_le hi h.size) fun e => absurd hi (Nat.not_lt.2 (hr i e.symm))

end Go.Proofs.YtckfbfdnlpnllaaGreatDoor.Ad
