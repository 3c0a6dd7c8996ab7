import Derived.Test.YtckfbfdnlpnllaaGreatDoorAd1
import Derived.Test.YtckfbfdnlpnllaaGreatDoorXAFxx0
import Derived.Test.YtckfbfdnlpnllaaGreatDoorXAFxx4
import Derived.Test.YtckfbfdnlpnllaaGreatDoorXAFxx5
namespace Go.Proofs.YtckfbfdnlpnllaaGreatDoor.Ad
open Go.RowKit Go.Shelf Go.Proofs.YtckfbfdnlpnllaaGreatDoor.XAllDiffFixed Go.Proofs.YtckfbfdnlpnllaaGreatDoorW.PrintWords Go.Proofs.YtckfbfdnlpnllaaGreatDoorW.PrintLast Go.Proofs.YtckfbfdnlpnllaaGreatDoorW.PrintMore
set_option linter.unusedVariables false
set_option linter.unusedSimpArgs false
/-- A number that is no great one. -/
abbrev I32 := { x : Int // -2147483648 ≤ x ∧ x ≤ 2147483647 }
/-- Below n₀, but for the blocks S, all lies as it lay. -/
structure KeepL (n₀ : Nat) (S : Nat → Prop) (W W' : World) : Prop where
  os : W'.os = W.os
  tape : W'.tape = W.tape
  output : W'.output = W.output
  size : W.heap.size ≤ W'.heap.size
  block : ∀ i, i < n₀ → ¬ S i → W'.heap[i]? = W.heap[i]?
theorem KeepL.refl (n₀ : Nat) (S : Nat → Prop) (W : World) : KeepL n₀ S W W := ⟨rfl, rfl, rfl, Nat.le_refl _, fun _ _ _ => rfl⟩
theorem KeepL.trans {n₀ : Nat} {S : Nat → Prop} {A B C : World} (h : KeepL n₀ S A B) (k : KeepL n₀ S B C) : KeepL n₀ S A C :=
  ⟨k.os.trans h.os, k.tape.trans h.tape, k.output.trans h.output, Nat.le_trans h.size k.size, fun i hi hs => (k.block i hi hs).trans (h.block i hi hs)⟩
theorem KeepL.of_below {n₀ n : Nat} {S : Nat → Prop} {A B : World} (h : Below n A B) (hn : n₀ ≤ n) : KeepL n₀ S A B :=
  ⟨h.os, h.tape, h.output, h.size, fun i hi _ => h.block i (Nat.lt_of_lt_of_le hi hn)⟩
theorem KeepL.mono {n₀ n₁ : Nat} {S : Nat → Prop} {A B : World} (h : KeepL n₁ S A B) (hn : n₀ ≤ n₁) : KeepL n₀ S A B :=
  ⟨h.os, h.tape, h.output, h.size, fun i hi hs => h.block i (Nat.lt_of_lt_of_le hi hn) hs⟩
theorem KeepL.grown {n₀ : Nat} {S : Nat → Prop} {A B : World} {row : Option Nat} (h : A.grownBy B row) (hr : ∀ k, row = some k → S k ∨ n₀ ≤ k) (hn : n₀ ≤ A.heap.size) : KeepL n₀ S A B :=
  ⟨h.os, h.tape, h.output, h.size, fun i hi hs => h.block i (Nat.lt_of_lt_of_le hi hn) fun e => (hr i e.symm).elim hs (fun c => absurd hi (Nat.not_lt.2 c))⟩
theorem F_keepL {α : Type} {d : Kd α} {n₀ : Nat} {S : Nat → Prop} {W W' : World} {A : Option Addr} {n : Nat} {xs : List α} (h : Kd.F d W (fun k => k < n₀ ∧ ¬ S k) A n xs) (hk : KeepL n₀ S W W') : Kd.F d W' (fun k => k < n₀ ∧ ¬ S k) A n xs :=
  Kd.F_step h fun k ho _ => hk.block k ho.1 ho.2
/-- A domain's values, from one on, rising. -/
def eachF (k : Nat) (d : S57) : Nat → Int → Option (List Int)
  | 0, _ => none
  | m + 1, v => (dom_Dom_Next.f k d.f0 d.f1 d.f2 d.f3 d.f4 v).bind fun p => if p.2 = true then (eachF k d m p.1).map (v :: ·) else some [v]
set_option maxHeartbeats 8000000 in
set_option maxRecDepth 100000 in
theorem alldiff_each.calls (a0 : Int) (A1 : Option Addr) (n1 c1 : Nat) (a2 a3 a4 : Int) (w : World) :
    Calls Tryz.prog 82 #[.agg #[.int .i64 a0, .slice A1 n1 c1, .int .i64 a2, .int .i64 a3, .int .i64 a4]] w fun e w' => e = .returned (.func (.func 98) #[] #[.pointer (some ⟨w.heap.size, 0, none⟩)]) ∧ w' = w.alloc (.cells #[.int .i64 a0, .slice A1 n1 c1, .int .i64 a2, .int .i64 a3, .int .i64 a4] 57) := by
  have hu57 := Tryz.underlying57
  go_enter Tryz.func82, Tryz.ntmps82
  go_wp2
  go_ret
  exact ⟨rfl, rfl⟩
theorem eachF_cases {k : Nat} {d : S57} {m : Nat} {v : Int} {l : List Int} (h : eachF k d m v = some l) :
    ∃ m' p, dom_Dom_Next.f k d.f0 d.f1 d.f2 d.f3 d.f4 v = some p ∧ ((p.2 = true ∧ ∃ l', eachF k d m' p.1 = some l' ∧ l = v :: l') ∨ (p.2 = false ∧ l = [v])) := by
  cases m with
  | zero => cases h
  | succ m' =>
    unfold eachF at h
    obtain ⟨p, h1, h2⟩ := Option.bind_eq_some_iff.1 h
    refine ⟨m', p, h1, ?_⟩
    by_cases hp : p.2 = true
    · rw [if_pos hp] at h2
      obtain ⟨l', h3, h4⟩ := Option.map_eq_some_iff.1 h2
      exact .inl ⟨hp, l', h3, h4.symm⟩
    · rw [if_neg hp] at h2
      exact .inr ⟨by simpa using hp, (Option.some.inj h2).symm⟩
theorem abides_below {β : Type} {B : Nat} {J : β → World → Prop} (h : AbidesFrom B J) {s : β} {W W' : World} (hj : J s W) (hb : Below W.heap.size W W') : J s W' :=
  h s W W' none hj ⟨hb.os, hb.tape, hb.output, hb.size, fun k hk _ => hb.block k hk⟩ (fun r e => by cases e)
/-- What the iterator reads: its domain's box and words. -/
structure DomAt (n₀ : Nat) (S : Nat → Prop) (Bx : Nat) (d : S57) (A : Option Addr) (c : Nat) (W : World) : Prop where
  box : W.heap[Bx]? = some (.cells #[.int .i64 d.f0, .slice A d.f1.length c, .int .i64 d.f2, .int .i64 d.f3, .int .i64 d.f4] 57 (0, 0))
  lt : Bx < n₀
  out : ¬ S Bx
  words : Kd.F (Kd.int .u64) W (fun k => k < n₀ ∧ ¬ S k) A d.f1.length d.f1
  cap : d.f1.length ≤ c
theorem DomAt.keep {n₀ : Nat} {S : Nat → Prop} {Bx : Nat} {d : S57} {A : Option Addr} {c : Nat} {W W' : World} (h : DomAt n₀ S Bx d A c W) (hk : KeepL n₀ S W W') : DomAt n₀ S Bx d A c W' :=
  ⟨(hk.block Bx h.lt h.out).trans h.box, h.lt, h.out, F_keepL h.words hk, h.cap⟩
theorem DomAt.below {n₀ : Nat} {S : Nat → Prop} {Bx : Nat} {d : S57} {A : Option Addr} {c : Nat} {W W' : World} (h : DomAt n₀ S Bx d A c W) (hb : Below W.heap.size W W') : DomAt n₀ S Bx d A c W' :=
  ⟨(hb.block Bx (blk_lt h.box)).trans h.box, h.lt, h.out, Kd.F_below h.words hb, h.cap⟩
/-- Between two rounds of the iterator. -/
def EachRel (n₀ : Nat) (S : Nat → Prop) (Bx : Nat) (k : Nat) (d : S57) (A : Option Addr) (c : Nat) (L : List I32) (J : List I32 → World → Prop) (kq : Nat) (v ok : Value) (wr : World) : Prop :=
  ∃ (pre rest : List I32), L = pre ++ rest ∧ kq = rest.length ∧ J pre wr ∧ DomAt n₀ S Bx d A c wr ∧
    ((rest = [] ∧ ok = .bool false ∧ ∃ z, v = .int .i64 z) ∨ ∃ (x : I32) (rest' : List I32) (m : Nat), rest = x :: rest' ∧ ok = .bool true ∧ v = .int .i64 x.1 ∧ eachF k d m x.1 = some (rest.map (·.1)))
attribute [local go_sem] Oper.semAt_some
set_option maxHeartbeats 8000000 in
set_option maxRecDepth 100000 in
theorem each1_in (n : Nat) (hn : 1 ≤ n) (l Bx n₀ : Nat) (S : Nat → Prop) (k : Nat) (d : S57) (A : Option Addr) (c : Nat) (L : List I32) (m : Nat) (hL : eachF k d m d.f2 = some (L.map (·.1)))
    (J Jx : List I32 → World → Prop) (B : Nat) (hJ : AbidesFrom B J)
    (hY : ∀ pre x W, J pre W → pre.length < L.length → YieldAt Fence.wide (n - 1) Tryz.prog l #[.int .i64 x.1] W fun e W' =>
      (e = .returned (.bool true) ∧ J (pre ++ [x]) W' ∧ KeepL n₀ S W W') ∨ (e = .returned (.bool false) ∧ Jx (pre ++ [x]) W'))
    (W : World) (hd : DomAt n₀ S Bx d A c W) (h0 : J [] W) :
    CallsIn Fence.wide n Tryz.prog 98 #[.func (.yield l) #[] #[], .pointer (some ⟨Bx, 0, none⟩)] W fun e W' => (∃ v, e = .returned v) ∧
      ((∃ ys, ys = L ∧ J ys W') ∨ (∃ pre, pre <+: L ∧ Jx pre W')) := by
  have hu57 := Tryz.underlying57
  have h99 : Fence.wide.fn 99 := trivial
  have h100 : Fence.wide.fn 100 := trivial
  refine callsIn_of_wp Tryz.func98 rfl trivial ?_ rfl
  simp only [Tryz.ntmps98, List.size_toArray, List.length_cons, List.length_nil, Nat.reduceAdd, Nat.reduceSub, Array.replicate_succ, Array.replicate_zero, List.push_toArray, List.append_toArray, List.nil_append, List.cons_append]
  have HD := Aside0.mk hd
  have HJ := Aside0.mk h0
  clear hd h0
  have hc0 : W.cell? ⟨Bx, 0, none⟩ = some (.int .i64 d.f0) := (blk_cell HD.out.box 0).trans rfl
  have hc1 : W.cell? ⟨Bx, 1, none⟩ = some (.slice A d.f1.length c) := (blk_cell HD.out.box 1).trans rfl
  have hc2 : W.cell? ⟨Bx, 2, none⟩ = some (.int .i64 d.f2) := (blk_cell HD.out.box 2).trans rfl
  have hc3 : W.cell? ⟨Bx, 3, none⟩ = some (.int .i64 d.f3) := (blk_cell HD.out.box 3).trans rfl
  have hc4 : W.cell? ⟨Bx, 4, none⟩ = some (.int .i64 d.f4) := (blk_cell HD.out.box 4).trans rfl
  gi_wp2_with (gi_at_call 99; refine (callsIn_wide.2 (dom_Dom_Min.calls d.f0 A c d.f1 d.f2 d.f3 d.f4 d.f2 _ (Kd.F_now HD.out.words) HD.out.cap rfl)).mono ?_; rintro e w' ⟨rfl, hb⟩; have HD2 := Aside0.mk (HD.out.below hb); have HJ2 := Aside0.mk (abides_below hJ HJ.out hb); clear hb HD HJ)
  clear hc0 hc1 hc2 hc3 hc4
  have hst : ∃ (x : I32) (rest' : List I32), L = x :: rest' ∧ x.1 = d.f2 := by
    obtain ⟨m', p, _, ⟨_, l', _, e⟩ | ⟨_, e⟩⟩ := eachF_cases hL
    all_goals
      cases L with
      | nil => cases e
      | cons x rest' =>
        rw [List.map_cons] at e
        exact ⟨x, rest', rfl, (List.cons.inj e).1⟩
  have HL := Aside0.mk hL
  have HST := Aside0.mk hst
  clear hL hst
  gi_loopg [3, 4] L.length (fun kq v ok wr => EachRel n₀ S Bx k d A c L J kq v ok wr)
  case atStart =>
    obtain ⟨x, rest', e, ex⟩ := HST.out
    exact ⟨[], L, rfl, rfl, HJ2.out, HD2.out, .inr ⟨x, rest', m, e, rfl, by rw [ex], by rw [ex]; exact HL.out⟩⟩
  case round =>
    clear HJ2 HD2 HL HST
    obtain ⟨pre, rest, hx, rfl, hJs, hD, ⟨rfl, rfl, z, rfl⟩ | ⟨x, rest', m', rfl, rfl, rfl, hm⟩⟩ := hrel
    · gi_wp2
      refine ⟨fun _ h => (by cases h), ?_⟩
      gi_wp2
      go_end0
      exact ⟨⟨_, rfl⟩, .inl ⟨pre, by rw [hx, List.append_nil], hJs⟩⟩
    · obtain ⟨fn, tmps, assign, body, hy, hR⟩ := hY pre x wr hJs (by rw [hx]; simp)
      have HX := Aside0.mk hx
      have HD := Aside0.mk hD
      have HM := Aside0.mk hm
      clear hx hD hm hJs
      gi_wp2
      refine hR.mono ?_
      rintro e W3 (⟨rfl, hJ3, hk3⟩ | ⟨rfl, hJx3⟩)
      · have HD3 := Aside0.mk (HD.out.keep hk3)
        have HJ3 := Aside0.mk hJ3
        clear hk3 hJ3 HD
        have hc0 : W3.cell? ⟨Bx, 0, none⟩ = some (.int .i64 d.f0) := (blk_cell HD3.out.box 0).trans rfl
        have hc1 : W3.cell? ⟨Bx, 1, none⟩ = some (.slice A d.f1.length c) := (blk_cell HD3.out.box 1).trans rfl
        have hc2 : W3.cell? ⟨Bx, 2, none⟩ = some (.int .i64 d.f2) := (blk_cell HD3.out.box 2).trans rfl
        have hc3 : W3.cell? ⟨Bx, 3, none⟩ = some (.int .i64 d.f3) := (blk_cell HD3.out.box 3).trans rfl
        have hc4 : W3.cell? ⟨Bx, 4, none⟩ = some (.int .i64 d.f4) := (blk_cell HD3.out.box 4).trans rfl
        obtain ⟨m2, ⟨p1, p2⟩, hn1, hn2⟩ := eachF_cases HM.out
        have HN := Aside0.mk hn1
        have HN2 := Aside0.mk hn2
        clear hn1 hn2
        gi_wp2_with (gi_at_call 100; refine (callsIn_wide.2 (dom_Dom_Next.calls k d.f0 A c d.f1 d.f2 d.f3 d.f4 x.1 p1 p2 _ (Kd.F_now HD3.out.words) HD3.out.cap HN.out)).mono ?_; rintro e w' ⟨rfl, hb⟩; have HD4 := Aside0.mk (HD3.out.below hb); have HJ4 := Aside0.mk (abides_below hJ HJ3.out hb); clear hb HD3 HJ3)
        go_roundg rest'.length
        case measure => simp
        case rel =>
          refine ⟨pre ++ [x], rest', by rw [HX.out]; simp, rfl, HJ4.out, HD4.out, ?_⟩
          rcases HN2.out with ⟨hp, l', h1, h2⟩ | ⟨hp, h2⟩
          · have h3 : rest'.map (·.1) = l' := by rw [List.map_cons] at h2; exact (List.cons.inj h2).2
            obtain ⟨_, _, _, ⟨_, l2, _, e⟩ | ⟨_, e⟩⟩ := eachF_cases h1
            all_goals
              cases rest' with
              | nil => rw [← h3] at e; cases e
              | cons y rest2 =>
                have e2 : y.1 = p1 := by rw [← h3, List.map_cons] at e; exact (List.cons.inj e).1
                exact .inr ⟨y, rest2, m2, rfl, by rw [show p2 = true from hp], by rw [e2], by rw [h3, e2]; exact h1⟩
          · have h3 : rest' = [] := by
              rw [List.map_cons] at h2
              exact List.map_eq_nil_iff.1 (List.cons.inj h2).2
            exact .inl ⟨h3, by rw [show p2 = false from hp], _, rfl⟩
      · gi_wp2
        go_end0
        exact ⟨⟨_, rfl⟩, .inr ⟨pre ++ [x], ⟨rest', by rw [HX.out]; simp⟩, hJx3⟩⟩
theorem each1_stops (n : Nat) (hn : 1 ≤ n) (Bx n₀ : Nat) (S : Nat → Prop) (k : Nat) (d : S57) (A : Option Addr) (c : Nat) (L : List I32) (m : Nat) (hL : eachF k d m d.f2 = some (L.map (·.1))) (w : World) (hd : DomAt n₀ S Bx d A c w) :
    SeqStopsK Fence.wide n Tryz.prog 98 #[.pointer (some ⟨Bx, 0, none⟩)] (fun x : I32 => #[Value.int .i64 x.1]) (KeepL n₀ S) (fun ys => ys = L) (fun pre => pre <+: L) L.length w :=
  fun l J Jx W hW hJ _ hY h0 => each1_in n hn l Bx n₀ S k d A c L m hL J Jx W.heap.size hJ hY W (hd.below hW) h0
/-! A region that draws its order, within a round of a range over a function: walked as outside. -/
theorem upon_round {l n : Nat} {P : Program} {o : Oper} {a : Act} {K : Act → World → Prop} {Q : Exit → Act → World → Prop} {r : Result Next} (h : Oper.upon P o a K Q r) : Oper.uponIn (Fence.wide.inRound l) n P o a K Q r := by
  cases r with
  | ok x w' =>
    cases x with
    | value v => exact h
    | skip => exact h
    | defer d => exact h
    | enter f args => exact ⟨fun h => (by cases h), CallsIn.inRound l (callsIn_wide.2 h)⟩
    | row row args => exact ⟨fun h => (by cases h), fun c cs _ => let ⟨v, w', r, s⟩ := h c cs; ⟨v, w', r, stepsIn_wide.2 s⟩⟩
    | _ => exact h.elim
  | halt x w' =>
    cases x with
    | panic v => exact h
    | _ => exact h.elim
def noDefer (o : Oper) : Bool := match o.op with | .defer _ => false | _ => true
theorem opIn_round {l n : Nat} {P : Program} {o : Oper} {a : Act} {w : World} {K : Act → World → Prop} {Q : Exit → Act → World → Prop} (hd : noDefer o = true) (h : Oper.wp P o a w K Q) : Oper.wpIn (Fence.wide.inRound l) n P o a w K Q := by
  refine ⟨fun _ _ => trivial, ?_⟩
  have e : (o.semAt (Fence.wide.inRound l).round a.eval) = execOp a.eval o := Oper.semAt_eq _ _ _ fun c hc => by unfold noDefer at hd; rw [hc] at hd; cases hd
  rw [e]
  exact upon_round h
theorem wpOp_round {l n : Nat} {P : Program} {ops : Array Oper} {Q : Exit → Act → World → Prop} {i : Nat} {K : Act → World → Prop} {a : Act} {w : World} (hd : ops.all noDefer = true) (hq : ∀ a w, ¬ Q .outgrown a w) (h : wpOp P ops Q i K a w) : wpOpIn (Fence.wide.inRound l) n P ops Q i K a w := by
  unfold wpOp at h
  unfold wpOpIn
  cases ho : ops[i]? with
  | none => rw [ho] at h; exact h
  | some o =>
    rw [ho] at h
    simp only at h ⊢
    by_cases hw : Region.wanted o (yielded ops a.tmps) = true
    · rw [if_pos hw] at h ⊢
      exact opIn_round (Array.all_eq_true_iff_forall_mem.1 hd o (Array.mem_of_getElem? ho)) (h.resolve_right fun c => c.2.elim fun a c => c.elim fun w c => hq a w c)
    · rw [if_neg hw] at h ⊢
      exact ⟨fun _ _ => trivial, h⟩
theorem wpAny_round {l n : Nat} {P : Program} {md : Region.Mode} {ops : Array Oper} {Q : Exit → Act → World → Prop} (hd : ops.all noDefer = true) (hq : ∀ a w, ¬ Q .outgrown a w) : ∀ (fuel : Nat) (listed : Array Bool) (a : Act) (w : World), wpAny P md ops Q fuel listed a w → wpAnyIn (Fence.wide.inRound l) n P md ops Q fuel listed a w
  | 0, _, _, _, h => h
  | fuel + 1, _, _, _, h => ⟨h.1, fun i hi => wpOpIn_mono (fun a w => wpAny_round hd hq fuel _ a w) (wpOp_round hd hq (h.2 i hi))⟩
/-- Nothing but going on. -/
def NoP (K : Act → World → Prop) : Exit → Act → World → Prop
  | .normal, a, w => K a w
  | _, _, _ => False
theorem nop_then {K : Act → World → Prop} {Q : Exit → Act → World → Prop} : ∀ e a w, NoP K e a w → Exit.then K Q e a w
  | .normal, _, _, h => h
  | .ret, _, _, h => h.elim
  | .exit _, _, _, h => h.elim
  | .goto _, _, _, h => h.elim
  | .panic _, _, _, h => h.elim
  | .outgrown, _, _, h => h.elim
/-- 'start_' within a round. -/
theorem startR {P : Program} {ops : Array Oper} {K : Act → World → Prop} {Q : Exit → Act → World → Prop} {S : World → Prop} {ds : List Nat} {id n L N : Nat} {a : Act} {w : World} (l : Array Bool) (hd : ops.all noDefer = true) (hm : P.follows .mixedOrders = true) (hn : ops.size = n) (hl : Array.replicate n false = l) (hS : S w.drew)
    (h : S w.drew → wpAnyLast P .any ops (NoP K) S ds n l a w.drew) : (Code.region id ops true).wpIn (Fence.wide.inRound L) N P (Exit.then K Q) a w := by
  subst hn
  subst hl
  exact wpIn_mono (wpIn_region_any hm (wpAny_round hd (fun _ _ h => h) _ _ _ _ (wpAny_of_last _ _ _ _ (h hS)))) nop_then
/-- 'start_' in the wide fence. -/
theorem startW {P : Program} {ops : Array Oper} {K : Act → World → Prop} {Q : Exit → Act → World → Prop} {S : World → Prop} {ds : List Nat} {id n N : Nat} {a : Act} {w : World} (l : Array Bool) (hm : P.follows .mixedOrders = true) (hn : ops.size = n) (hl : Array.replicate n false = l) (hS : S w.drew)
    (h : S w.drew → wpAnyLast P .any ops (NoP K) S ds n l a w.drew) : (Code.region id ops true).wpIn Fence.wide N P (Exit.then K Q) a w := by
  subst hn
  subst hl
  exact wpIn_mono (wpIn_wide.2 (wp_region_last hm (h hS))) nop_then
theorem augL_app {rec : Int → Mt → Option (Mt × Bool)} {t but out i : Int} : ∀ (vs us : List Int) (s : Mt), augL rec t but out i (vs ++ us) s = match augL rec t but out i vs s with | none => none | some (s2, true) => some (s2, true) | some (s2, false) => augL rec t but out i us s2
  | [], us, s => rfl
  | v :: vs, us, s => by
    rw [List.cons_append]
    simp only [augL]
    by_cases c1 : (v = out ∧ 0 ≤ but) ∨ (s.met v).getD 0 = t
    · rw [if_pos c1, if_pos c1]
      exact augL_app vs us s
    rw [if_neg c1, if_neg c1]
    cases s.own v with
    | none => rfl
    | some j =>
      simp only
      by_cases c2 : j = but
      · rw [if_pos c2, if_pos c2]
        exact augL_app vs us _
      · rw [if_neg c2, if_neg c2]
        cases rec j { s with met := upd s.met v (some t) } with
        | none => rfl
        | some r2 =>
          obtain ⟨s2, b⟩ := r2
          cases b with
          | true => rfl
          | false => exact augL_app vs us s2
theorem cnt_mark {t v j : Int} {s : Mt} (hv : ¬ vis t s v) (j0 : 0 ≤ j) (j1 : j < (s.val.length : Int)) (jv : s.val.getD j.toNat 0 = v) : cnt t { s with met := upd s.met v (some t) } < cnt t s := by
  unfold cnt
  refine countP_lt' (fun m _ hm => ?_) ⟨j.toNat, List.mem_range.2 (show j.toNat < s.val.length by omega), ?_, ?_⟩
  · simp only [decide_eq_true_eq] at hm ⊢
    exact fun h => hm (vis_upd.2 (.inr h))
  · show decide (¬ vis t _ (s.val.getD j.toNat 0)) = false
    rw [jv]
    exact decide_eq_false fun h => h (vis_upd.2 (.inl rfl))
  · show decide (¬ vis t _ (s.val.getD j.toNat 0)) = true
    rw [jv]
    exact decide_eq_true hv
theorem cnt_more {t v : Int} {s : Mt} : cnt t { s with met := upd s.met v (some t) } ≤ cnt t s := by
  unfold cnt
  refine countP_le' fun m _ hm => ?_
  simp only [decide_eq_true_eq] at hm ⊢
  exact fun h => hm (vis_upd.2 (.inr h))
/-- What is lost stays held, and fewer are left to look at. -/
theorem augL_keep {rec : Int → Mt → Option (Mt × Bool)} {t but out i : Int} (hrec : ∀ j s s2, rec j s = some (s2, false) → Held but out s → Held but out s2 ∧ cnt t s2 ≤ cnt t s) :
    ∀ (vs : List Int) (s s2 : Mt), augL rec t but out i vs s = some (s2, false) → Held but out s → Held but out s2 ∧ cnt t s2 ≤ cnt t s
  | [], s, s2, h, hh => by
    simp only [augL, Option.some.injEq, Prod.mk.injEq] at h
    obtain ⟨rfl, _⟩ := h
    exact ⟨hh, Nat.le_refl _⟩
  | v :: vs, s, s2, h, hh => by
    simp only [augL] at h
    by_cases c1 : (v = out ∧ 0 ≤ but) ∨ (s.met v).getD 0 = t
    · rw [if_pos c1] at h
      exact augL_keep hrec vs s s2 h hh
    rw [if_neg c1] at h
    have hh1 : Held but out { s with met := upd s.met v (some t) } := hh
    cases ho : s.own v with
    | none => rw [ho] at h; simp at h
    | some j =>
      rw [ho] at h
      simp only at h
      by_cases c2 : j = but
      · rw [if_pos c2] at h
        obtain ⟨x, y⟩ := augL_keep hrec vs _ s2 h hh1
        exact ⟨x, Nat.le_trans y cnt_more⟩
      · rw [if_neg c2] at h
        cases hr : rec j { s with met := upd s.met v (some t) } with
        | none => rw [hr] at h; cases h
        | some r2 =>
          rw [hr] at h
          obtain ⟨s3, b⟩ := r2
          cases b with
          | true => simp at h
          | false =>
            obtain ⟨x1, y1⟩ := hrec _ _ _ hr hh1
            obtain ⟨x, y⟩ := augL_keep hrec vs _ s2 h x1
            exact ⟨x, Nat.le_trans y (Nat.le_trans y1 cnt_more)⟩
theorem aug_keep {D : Int → List Int} {t but out : Int} {k : Nat} {j : Int} {s s2 : Mt} (h : aug D t but out k j s = some (s2, false)) (hh : Held but out s) : Held but out s2 ∧ cnt t s2 ≤ cnt t s := by
  have h2 := aug_ends k j s _ h
  unfold Ends at h2
  rw [if_neg (by simp)] at h2
  exact h2.held hh
/-- Where a matching lies: its struct, its maps, its row; the domains' row. -/
structure MC where
  G : Nat
  bo : Nat
  bv : Nat
  bm : Nat
  Ad : Option Addr
  cd : Nat
  cv : Nat
  ld : List S57
def MC.S (c : MC) (k : Nat) : Prop := k = c.bo ∨ k = c.bv ∨ k = c.bm
def MC.T (c : MC) (k : Nat) : Prop := c.S k ∨ k = c.G
theorem KeepL.wide {n : Nat} {S S' : Nat → Prop} {A B : World} (h : KeepL n S A B) (hs : ∀ k, S k → S' k) : KeepL n S' A B := ⟨h.os, h.tape, h.output, h.size, fun i hi hn => h.block i hi fun e => hn (hs i e)⟩
theorem KeepL.toT {n : Nat} {c : MC} {A B : World} (h : KeepL n c.S A B) : KeepL n c.T A B := h.wide fun _ => .inl
structure MAt (c : MC) (n₀ : Nat) (t : Int) (s : Mt) (W : World) : Prop where
  blk : W.heap[c.G]? = some (.cells #[.slice c.Ad c.ld.length c.cd, .map (some c.bo), .slice (some ⟨c.bv, 0, none⟩) c.ld.length c.cv, .map (some c.bm), .int .i64 t] 95 (0, 0))
  own : IMap Tryz.prog W c.bo s.own
  met : IMap Tryz.prog W c.bm s.met
  val : Kd.R (Kd.int .i64) 3 W 0 (fun k => k = c.bv) (.slice (some ⟨c.bv, 0, none⟩) c.ld.length c.cv) s.val
  doms : Kd.F k57 W (fun k => k < n₀ ∧ ¬ c.T k) c.Ad c.ld.length c.ld
  cap : c.ld.length ≤ c.cd
  many : c.ld.length ≤ 1099511627776
  G0 : c.G < n₀
  G1 : ¬ c.S c.G
  lt : c.bo < n₀ ∧ c.bv < n₀ ∧ c.bm < n₀
  ne : c.bo ≠ c.bv ∧ c.bo ≠ c.bm ∧ c.bv ≠ c.bm
  time : 0 ≤ t ∧ t ≤ 1099511627776
  held : ∀ v j, s.own v = some j → 0 ≤ j ∧ j < (c.ld.length : Int)
  size : n₀ ≤ W.heap.size
/-- Nothing of it was turned. -/
theorem MAt.same {c : MC} {n₀ : Nat} {t : Int} {s : Mt} {W W' : World} (h : MAt c n₀ t s W) (hs : W.heap.size ≤ W'.heap.size) (hb : ∀ i, i < n₀ → W'.heap[i]? = W.heap[i]?) : MAt c n₀ t s W' :=
  { h with
    blk := (hb _ h.G0).trans h.blk
    own := h.own.keep (hb _ h.lt.1)
    met := h.met.keep (hb _ h.lt.2.2)
    val := Kd.R_step h.val fun k hk _ => by rw [show k = c.bv from hk]; exact hb _ h.lt.2.1
    doms := Kd.F_step h.doms fun k hk _ => hb k hk.1
    size := Nat.le_trans h.size hs }
theorem MAt.below {c : MC} {n₀ : Nat} {t : Int} {s : Mt} {W W' : World} (h : MAt c n₀ t s W) (hb : Below W.heap.size W W') : MAt c n₀ t s W' :=
  h.same hb.size fun i hi => hb.block i (Nat.lt_of_lt_of_le hi h.size)
theorem MAt.more {c : MC} {n₀ n₁ : Nat} {t : Int} {s : Mt} {W : World} (h : MAt c n₀ t s W) (h1 : n₀ ≤ n₁) (h2 : n₁ ≤ W.heap.size) : MAt c n₁ t s W :=
  { h with
    doms := Kd.F_mono h.doms fun k hk => ⟨Nat.lt_of_lt_of_le hk.1 h1, hk.2⟩
    G0 := Nat.lt_of_lt_of_le h.G0 h1
    lt := ⟨Nat.lt_of_lt_of_le h.lt.1 h1, Nat.lt_of_lt_of_le h.lt.2.1 h1, Nat.lt_of_lt_of_le h.lt.2.2 h1⟩
    size := h2 }
/-- Seen from below: the struct, the maps and the row were there. -/
theorem MAt.less {c : MC} {n₀ n₁ : Nat} {t : Int} {s s0 : Mt} {W W0 : World} (h : MAt c n₁ t s W) (h0 : MAt c n₀ t s0 W0) (hk : KeepL n₀ c.S W0 W) : MAt c n₀ t s W :=
  { h with
    doms := F_keepL h0.doms hk.toT
    G0 := h0.G0
    lt := h0.lt
    size := Nat.le_trans h0.size hk.size }
/-- What a search comes to. -/
def AugPost (c : MC) (t : Int) (r : Mt × Bool) (w : World) (e : Ending) (w' : World) : Prop := e = .returned (.bool r.2) ∧ MAt c w.heap.size t r.1 w' ∧ KeepL w.heap.size c.S w w'
theorem MAt.dom {c : MC} {n₀ : Nat} {t : Int} {s : Mt} {W : World} (h : MAt c n₀ t s W) (i : Int) (h0 : 0 ≤ i) (h1 : i < (c.ld.length : Int)) :
    ∃ ad A1 c1, c.Ad = some ad ∧ W.cell? (ad.add (i.toNat * 5)) = some (.int .i64 (rd_T57 c.ld i).f0) ∧ W.cell? ⟨(ad.add (i.toNat * 5)).block, (ad.add (i.toNat * 5)).off + 1, none⟩ = some (.slice A1 (rd_T57 c.ld i).f1.length c1) ∧ W.cell? ⟨(ad.add (i.toNat * 5)).block, (ad.add (i.toNat * 5)).off + 2, none⟩ = some (.int .i64 (rd_T57 c.ld i).f2) ∧ W.cell? ⟨(ad.add (i.toNat * 5)).block, (ad.add (i.toNat * 5)).off + 3, none⟩ = some (.int .i64 (rd_T57 c.ld i).f3) ∧ W.cell? ⟨(ad.add (i.toNat * 5)).block, (ad.add (i.toNat * 5)).off + 4, none⟩ = some (.int .i64 (rd_T57 c.ld i).f4) ∧ (rd_T57 c.ld i).f1.length ≤ c1 ∧ Kd.F (Kd.int .u64) W (fun k => k < n₀ ∧ ¬ c.S k) A1 (rd_T57 c.ld i).f1.length (rd_T57 c.ld i).f1 := by
  obtain ⟨ad, cs, e, _, hK, hc0, _⟩ := Kd.F_get h.doms z57 i h0 h1
  have hc : ∀ j u, cs[j]? = some u → W.cell? (ad.add (i.toNat * 5 + j)) = some u := hc0
  obtain ⟨A1, c1, rfl, l1, g1⟩ := k57_openF hK
  exact ⟨ad, A1, c1, e, hc 0 _ rfl, by rw [← add_field _ _ 1 (by omega)]; exact hc 1 _ rfl, by rw [← add_field _ _ 2 (by omega)]; exact hc 2 _ rfl, by rw [← add_field _ _ 3 (by omega)]; exact hc 3 _ rfl, by rw [← add_field _ _ 4 (by omega)]; exact hc 4 _ rfl, l1, Kd.F_mono g1 fun k hk => ⟨hk.1, fun e => hk.2 (.inl e)⟩⟩
/-- The boxes of a search: the matching, the variable, what stays out, the answer. -/
structure Bx5 (c : MC) (z : Nat) (i but out : Int) (rv : Bool) (W : World) : Prop where
  b0 : W.heap[z]? = some (.cells #[.pointer (some ⟨c.G, 0, none⟩)] 69 (0, 0))
  b1 : W.heap[z + 1]? = some (.cells #[.int .i64 i] 3 (0, 0))
  b2 : W.heap[z + 1 + 1]? = some (.cells #[.int .i64 but] 3 (0, 0))
  b3 : W.heap[z + 1 + 1 + 1]? = some (.cells #[.int .i64 out] 3 (0, 0))
  b4 : W.heap[z + 1 + 1 + 1 + 1]? = some (.cells #[.bool rv] 4 (0, 0))
theorem Bx5.keep {c : MC} {z : Nat} {i but out : Int} {rv : Bool} {W W' : World} (h : Bx5 c z i but out rv W) (hb : ∀ k, z ≤ k → k ≤ z + 4 → W'.heap[k]? = W.heap[k]?) : Bx5 c z i but out rv W' :=
  ⟨(hb _ (by omega) (by omega)).trans h.b0, (hb _ (by omega) (by omega)).trans h.b1, (hb _ (by omega) (by omega)).trans h.b2, (hb _ (by omega) (by omega)).trans h.b3, (hb _ (by omega) (by omega)).trans h.b4⟩
theorem Bx5.lt {c : MC} {z : Nat} {i but out : Int} {rv : Bool} {W : World} (h : Bx5 c z i but out rv W) : z + 4 < W.heap.size := blk_lt h.b4
theorem Bx5.below {c : MC} {z : Nat} {i but out : Int} {rv : Bool} {W W' : World} (h : Bx5 c z i but out rv W) (hb : Below W.heap.size W W') : Bx5 c z i but out rv W' :=
  h.keep fun k _ hk => hb.block k (by have := h.lt; omega)
theorem Bx5.made (c : MC) (i but out : Int) (w : World) :
    Bx5 c w.heap.size i but out false (((((w.alloc (.cells #[.pointer (some ⟨c.G, 0, none⟩)] 69)).alloc (.cells #[.int .i64 i] 3)).alloc (.cells #[.int .i64 but] 3)).alloc (.cells #[.int .i64 out] 3)).alloc (.cells #[.bool false] 4)) := by
  refine ⟨?_, ?_, ?_, ?_, ?_⟩
  · exact blk_alloc (blk_alloc (blk_alloc (blk_alloc (blk_new _ _) _) _) _) _
  · exact blk_alloc (blk_alloc (blk_alloc (by have := blk_new (w.alloc (.cells #[.pointer (some ⟨c.G, 0, none⟩)] 69)) (.cells #[.int .i64 i] 3); rwa [World.size_alloc] at this) _) _) _
  · exact blk_alloc (blk_alloc (by have := blk_new ((w.alloc (.cells #[.pointer (some ⟨c.G, 0, none⟩)] 69)).alloc (.cells #[.int .i64 i] 3)) (.cells #[.int .i64 but] 3); simpa only [World.size_alloc] using this) _) _
  · exact blk_alloc (by have := blk_new (((w.alloc (.cells #[.pointer (some ⟨c.G, 0, none⟩)] 69)).alloc (.cells #[.int .i64 i] 3)).alloc (.cells #[.int .i64 but] 3)) (.cells #[.int .i64 out] 3); simpa only [World.size_alloc] using this) _
  · have := blk_new ((((w.alloc (.cells #[.pointer (some ⟨c.G, 0, none⟩)] 69)).alloc (.cells #[.int .i64 i] 3)).alloc (.cells #[.int .i64 but] 3)).alloc (.cells #[.int .i64 out] 3)) (.cells #[.bool false] 4)
    simpa only [World.size_alloc] using this
/-- Between two values: what was looked at so far found nothing. -/
def AugI (c : MC) (Z z : Nat) (rec : Int → Mt → Option (Mt × Bool)) (t but out i : Int) (s : Mt) (w : World) (pre : List I32) (W : World) : Prop :=
  ∃ st, augL rec t but out i (pre.map (·.1)) s = some (st, false) ∧ MAt c Z t st W ∧ Bx5 c z i but out false W ∧ KeepL w.heap.size c.S w W
/-- The way was found. -/
def AugX (c : MC) (Z z : Nat) (rec : Int → Mt → Option (Mt × Bool)) (t but out i : Int) (s : Mt) (w : World) (cd : Code) (pre : List I32) (W : World) : Prop :=
  cd = .ret ∧ ∃ st, augL rec t but out i (pre.map (·.1)) s = some (st, true) ∧ MAt c Z t st W ∧ Bx5 c z i but out true W ∧ KeepL w.heap.size c.S w W
theorem mat_grown {c : MC} {Z z : Nat} {t i but out : Int} {rv : Bool} {st : Mt} {w W W' : World} {row : Option Nat} (hz : z + 4 < Z) (hw : w.heap.size ≤ Z) (h : MAt c Z t st W ∧ Bx5 c z i but out rv W ∧ KeepL w.heap.size c.S w W) (hg : W.grownBy W' row) (hr : ∀ r, row = some r → Z ≤ r) :
    MAt c Z t st W' ∧ Bx5 c z i but out rv W' ∧ KeepL w.heap.size c.S w W' := by
  obtain ⟨h2, h3, h4⟩ := h
  have hb : ∀ k, k < Z → W'.heap[k]? = W.heap[k]? := fun k hk => hg.block k (Nat.lt_of_lt_of_le hk h2.size) fun e => by have := hr k e.symm; omega
  exact ⟨h2.same hg.size hb, h3.keep fun k _ hk => hb k (by omega), h4.trans (KeepL.grown hg (fun k e => .inr (Nat.le_trans hw (hr k e))) h4.size)⟩
theorem augI_own {c : MC} {Z z : Nat} {rec : Int → Mt → Option (Mt × Bool)} {t but out i : Int} {s : Mt} {w : World} (hz : z + 4 < Z) (hw : w.heap.size ≤ Z) : OwnFrom Z (AugI c Z z rec t but out i s w) :=
  fun _ _ _ _ ⟨st, h1, h2⟩ hg hr => ⟨st, h1, mat_grown hz hw h2 hg fun r e => (hr r e).1⟩
theorem augX_own {c : MC} {Z z : Nat} {rec : Int → Mt → Option (Mt × Bool)} {t but out i : Int} {s : Mt} {w : World} (hz : z + 4 < Z) (hw : w.heap.size ≤ Z) (cd : Code) : OwnFrom Z (AugX c Z z rec t but out i s w cd) :=
  fun _ _ _ _ ⟨h0, st, h1, h2⟩ hg hr => ⟨h0, st, h1, mat_grown hz hw h2 hg fun r e => (hr r e).1⟩
theorem keepL_t {n₀ : Nat} {S : Nat → Prop} {A B C : World} (h : KeepL n₀ S A B) (k : KeepL n₀ S B C) : KeepL n₀ S A C := h.trans k
theorem keepL_b {n₀ : Nat} {S : Nat → Prop} {w : World} (hn : n₀ ≤ w.heap.size) (W : World) (l : Nat) (o o' : Obj) (hl : w.heap.size ≤ l) (h : W.heap[l]? = some o) (_ : o.isCells = false) (_ : o.isWalk = false) : KeepL n₀ S W (W.putObj l o') :=
  ⟨rfl, rfl, rfl, (grownBy_putObj' W l o').size, fun i hi _ => (grownBy_putObj' W l o').block i (by have := (Array.getElem?_eq_some_iff.1 h).1; omega) (fun e => by injection e with e; omega)⟩
theorem grown_cell {W W' : World} {b k : Nat} {o : Nat} {v : Value} (hg : W.grownBy W' (some b)) (hk : k ≠ b) (h : W.cell? ⟨k, o, none⟩ = some v) : W'.cell? ⟨k, o, none⟩ = some v :=
  (World.cell?_of_block (a := ⟨k, o, none⟩) (hg.block k (World.block_lt_of_cell? W _ h) (fun e => hk (by injection e)))).trans h
theorem keepL_grown {c : MC} {n₀ b : Nat} {W W' : World} (hg : W.grownBy W' (some b)) (hS : c.S b) (hn : n₀ ≤ W.heap.size) : KeepL n₀ c.S W W' := KeepL.grown hg (fun k e => by injection e with e; exact .inl (e ▸ hS)) hn
theorem MAt.bmS (c : MC) : c.S c.bm := .inr (.inr rfl)
theorem MAt.boS (c : MC) : c.S c.bo := .inl rfl
theorem MAt.bvS (c : MC) : c.S c.bv := .inr (.inl rfl)
theorem MAt.other {c : MC} {n₀ : Nat} {t : Int} {s : Mt} {W : World} (h : MAt c n₀ t s W) {b k : Nat} (hS : c.S b) (hk : ¬ c.S k) {W' : World} (hg : W.grownBy W' (some b)) (hl : k < n₀) : W'.heap[k]? = W.heap[k]? :=
  hg.block k (Nat.lt_of_lt_of_le hl h.size) fun e => hk (by injection e with e; exact e ▸ hS)
theorem MAt.putmet {c : MC} {n₀ : Nat} {t : Int} {s : Mt} {W W' : World} {v : Int} (h : MAt c n₀ t s W) (hm : IMap Tryz.prog W' c.bm (upd s.met v (some t))) (hg : W.grownBy W' (some c.bm)) : MAt c n₀ t { s with met := upd s.met v (some t) } W' :=
  { h with
    blk := (h.other (MAt.bmS c) h.G1 hg h.G0).trans h.blk
    own := h.own.keep (hg.block _ h.own.lt fun e => h.ne.2.1 (by injection e))
    met := hm
    val := Kd.R_step h.val fun k hk hlt => hg.block k hlt fun e => h.ne.2.2 (by rw [← show k = c.bv from hk]; injection e)
    doms := F_keepL h.doms (keepL_grown hg (MAt.bmS c) h.size).toT
    size := Nat.le_trans h.size hg.size }
theorem MAt.putown {c : MC} {n₀ : Nat} {t : Int} {s : Mt} {W W' : World} {v i : Int} (h : MAt c n₀ t s W) (h0 : 0 ≤ i) (h1 : i < (c.ld.length : Int)) (hm : IMap Tryz.prog W' c.bo (upd s.own v (some i))) (hg : W.grownBy W' (some c.bo)) : MAt c n₀ t { s with own := upd s.own v (some i) } W' :=
  { h with
    blk := (h.other (MAt.boS c) h.G1 hg h.G0).trans h.blk
    own := hm
    met := h.met.keep (hg.block _ h.met.lt fun e => h.ne.2.1 (by injection e with e; exact e.symm))
    val := Kd.R_step h.val fun k hk hlt => hg.block k hlt fun e => h.ne.1 (by rw [← show k = c.bv from hk]; injection e with e; exact e.symm)
    doms := F_keepL h.doms (keepL_grown hg (MAt.boS c) h.size).toT
    held := fun u j hu => by
      have hu' : upd s.own v (some i) u = some j := hu
      by_cases e : u = v
      · subst e
        rw [upd_same] at hu'
        obtain rfl := Option.some.inj hu'
        exact ⟨h0, h1⟩
      · rw [upd_other _ _ e] at hu'
        exact h.held u j hu'
    size := Nat.le_trans h.size hg.size }
theorem MAt.putval {c : MC} {n₀ : Nat} {t : Int} {s : Mt} {W : World} (i v : Int) (h : MAt c n₀ t s W) : MAt c n₀ t { s with val := s.val.set i.toNat v } (W.setCell ⟨c.bv, i.toNat, none⟩ (.int .i64 v)) ∧ W.grownBy (W.setCell ⟨c.bv, i.toNat, none⟩ (.int .i64 v)) (some c.bv) := by
  obtain ⟨h1, hg⟩ := Kd.R_putg h.val i v
  exact ⟨{ h with
    blk := (h.other (MAt.bvS c) h.G1 hg h.G0).trans h.blk
    own := h.own.keep (hg.block _ h.own.lt fun e => h.ne.1 (by injection e))
    met := h.met.keep (hg.block _ h.met.lt fun e => h.ne.2.2 (by injection e with e; exact e.symm))
    val := h1
    doms := F_keepL h.doms (keepL_grown hg (MAt.bvS c) h.size).toT
    size := Nat.le_trans h.size hg.size }, hg⟩
theorem MAt.vlen {c : MC} {n₀ : Nat} {t : Int} {s : Mt} {W : World} (h : MAt c n₀ t s W) : s.val.length = c.ld.length := (Kd.R_reads' h.val).1.symm
theorem KeepL.keepsFrom {B n : Nat} {S : Nat → Prop} {W W' : World} (h : KeepL n S W W') (hn : n = W.heap.size) (hS : ∀ k, S k → k < B) : KeepsFrom B W W' :=
  ⟨h.size, fun k o hB hk _ => (h.block k (by rw [hn]; exact (Array.getElem?_eq_some_iff.1 hk).1) (fun e => Nat.lt_irrefl _ (Nat.lt_of_lt_of_le (hS k e) hB))).trans hk⟩
theorem Bx5.keepL {c : MC} {z n : Nat} {i but out : Int} {rv : Bool} {W W' : World} (h : Bx5 c z i but out rv W) (hk : KeepL n c.S W W') (hz : z + 4 < n) (hS : ∀ k, c.S k → k < z) : Bx5 c z i but out rv W' :=
  h.keep fun k h1 h2 => hk.block k (by omega) fun e => by have := hS k e; omega
theorem Bx5.answer {c : MC} {z : Nat} {i but out : Int} {rv : Bool} {W : World} (h : Bx5 c z i but out rv W) (b : Bool) : Bx5 c z i but out b (W.setCell ⟨z + 1 + 1 + 1 + 1, 0, none⟩ (.bool b)) :=
  ⟨(Below.heap_setCell W _ _ _ (by first | (simp; done) | (simp; omega))).trans h.b0, (Below.heap_setCell W _ _ _ (by first | (simp; done) | (simp; omega))).trans h.b1, (Below.heap_setCell W _ _ _ (by first | (simp; done) | (simp; omega))).trans h.b2, (Below.heap_setCell W _ _ _ (by first | (simp; done) | (simp; omega))).trans h.b3, blk_put h.b4 0 _ rfl⟩
theorem MAt.vcell {c : MC} {n₀ : Nat} {t : Int} {s : Mt} {W : World} (h : MAt c n₀ t s W) (i : Int) (h0 : 0 ≤ i) (h1 : i < (c.ld.length : Int)) : W.cell? ⟨c.bv, i.toNat, none⟩ = some (.int .i64 (rd s.val i)) ∧ W.frozen? ⟨c.bv, i.toNat, none⟩ = false := by
  obtain ⟨ce, hcl, hM, hcc, hfr⟩ := Kd.R_elem h.val (0 : Int) i h0 h1
  have e : ce = [.int .i64 (s.val.getD i.toNat 0)] := hM
  subst e
  have c0 := hcc 0 _ rfl
  have f0 := hfr 0
  simp only [show (Kd.int .i64).sz = 1 from rfl, Nat.mul_one, Nat.add_zero] at c0 f0
  exact ⟨c0, f0⟩
/-- The answer's box is none of a matching's blocks. -/
theorem MAt.answered {c : MC} {n₀ Z z : Nat} {t : Int} {s s0 : Mt} {w W : World} (h : MAt c Z t s W) (h0 : MAt c w.heap.size t s0 w) (hk : KeepL w.heap.size c.S w W) (hz : w.heap.size ≤ z) (hZ : Z ≤ W.heap.size) (b : Bool) (hw : w.heap.size ≤ Z) :
    MAt c Z t s (W.setCell ⟨z, 0, none⟩ (.bool b)) ∧ KeepL w.heap.size c.S w (W.setCell ⟨z, 0, none⟩ (.bool b)) := by
  have hb : Below w.heap.size W (W.setCell ⟨z, 0, none⟩ (.bool b)) := (Below.refl _ _).setCell (p := ⟨z, 0, none⟩) hz _
  have h1 : MAt c w.heap.size t s W := h.less h0 hk
  exact ⟨(h1.same hb.size fun i hi => hb.block i hi).more hw (Nat.le_trans hZ hb.size), hk.trans (KeepL.of_below hb (Nat.le_refl _))⟩
theorem zero3 (w : World) : (zeroValue 3).run Tryz.prog w = .ok (.int .i64 0) w := by kernel_rfl
def augment.T1 : Bool × List (List Nat × List Nat) := (true, [([], []), ([0], [0]), ([1], [1]), ([2], [2]), ([], []), ([3, 4], [3, 4]), ([5], [5]), ([6], [6])])
def augment.B1 : List Nat := [0, 1, 3, 7, 0, 31, 63, 127]
theorem augment.tab1 : rtab .any (opsOf Tryz.f58 1) = augment.T1 := by kernel_rfl
theorem augment.bits1 : waitsOk augment.T1.2 augment.B1 = true := by kernel_rfl
def augment.T3 : Bool × List (List Nat × List Nat) := (true, [([], []), ([], []), ([0, 1], [0, 1]), ([2], [2]), ([3], [3]), ([4, 3], [3, 4]), ([3, 5], [3, 5]), ([6, 3], [6]), ([7], [7]), ([8, 7], [7, 8]), ([9, 7], [7, 9]), ([10, 7], [7, 10]), ([7], [7]), ([11, 12, 7], [7, 11, 12]), ([7], [7]), ([14, 7], [7, 14]), ([15, 7], [7, 15]), ([16, 7], [7, 16]), ([13, 17, 7], [7, 13, 17]), ([7, 18], [7, 18])])
def augment.B3 : List Nat := [0, 0, 3, 7, 15, 31, 63, 127, 255, 511, 1023, 2047, 255, 8191, 255, 16639, 49407, 114943, 262143, 524287]
theorem augment.tab3 : rtab .any (opsOf Tryz.f58 3) = augment.T3 := by kernel_rfl
theorem augment.bits3 : waitsOk augment.T3.2 augment.B3 = true := by kernel_rfl
def augment.T4 : Bool × List (List Nat × List Nat) := (true, [([], []), ([0], [0]), ([1], [1]), ([2], [2]), ([], []), ([], []), ([5], [5]), ([6], [6]), ([7], [7]), ([3, 4, 8, 0, 1, 2, 3, 4, 5, 6, 7, 8], [3, 4, 8])])
def augment.B4 : List Nat := [0, 1, 3, 7, 0, 0, 32, 96, 224, 511]
theorem augment.tab4 : rtab .any (opsOf Tryz.f58 4) = augment.T4 := by kernel_rfl
theorem augment.bits4 : waitsOk augment.T4.2 augment.B4 = true := by kernel_rfl
def augment.T7 : Bool × List (List Nat × List Nat) := (true, [([], []), ([0], [0]), ([1], [1]), ([2], [2]), ([], []), ([], []), ([3, 4, 5, 0, 1, 2, 3, 4, 5], [3, 4, 5])])
def augment.B7 : List Nat := [0, 1, 3, 7, 0, 0, 63]
theorem augment.tab7 : rtab .any (opsOf Tryz.f58 7) = augment.T7 := by kernel_rfl
theorem augment.bits7 : waitsOk augment.T7.2 augment.B7 = true := by kernel_rfl
def augment.T8 : Bool × List (List Nat × List Nat) := (true, [([], []), ([0], [0]), ([1], [1]), ([2], [2]), ([], []), ([], []), ([3, 4, 0, 1, 2, 3, 4, 5], [3, 4]), ([6, 5, 0, 1, 2, 3, 4, 5], [5, 6])])
def augment.B8 : List Nat := [0, 1, 3, 7, 0, 0, 63, 127]
theorem augment.tab8 : rtab .any (opsOf Tryz.f58 8) = augment.T8 := by kernel_rfl
theorem augment.bits8 : waitsOk augment.T8.2 augment.B8 = true := by kernel_rfl
set_option maxHeartbeats 8000000 in
set_option maxRecDepth 100000 in
theorem augment.step (kd : Nat) (c : MC) (D : Int → List Int) (hD : ∀ i : Int, 0 ≤ i → i < (c.ld.length : Int) → ∃ (m : Nat) (L : List I32), eachF kd (rd_T57 c.ld i) m (rd_T57 c.ld i).f2 = some (L.map (·.1)) ∧ D i = L.map (·.1)) (t but out : Int) (kf : Nat)
    (ih : ∀ (i : Int) (s : Mt) (r : Mt × Bool) (w : World), aug D t but out kf i s = some r → Held but out s → cnt t s < kf → 0 ≤ i → i < (c.ld.length : Int) → MAt c w.heap.size t s w → Calls Tryz.prog 58 #[.pointer (some ⟨c.G, 0, none⟩), .int .i64 i, .int .i64 but, .int .i64 out] w (AugPost c t r w))
    (i : Int) (s : Mt) (r : Mt × Bool) (w : World) (h : augL (aug D t but out kf) t but out i (D i) s = some r) (hh : Held but out s) (hk : cnt t s ≤ kf) (h0 : 0 ≤ i) (h1 : i < (c.ld.length : Int)) (hM : MAt c w.heap.size t s w) :
    Calls Tryz.prog 58 #[.pointer (some ⟨c.G, 0, none⟩), .int .i64 i, .int .i64 but, .int .i64 out] w (AugPost c t r w) := by
  have hu95 := Tryz.underlying95
  have hu57 := Tryz.underlying57
  obtain ⟨m, L, hL, hDi⟩ := hD i h0 h1
  have HM := Aside0.mk hM
  have HL := Aside0.mk hL
  have HDi := Aside0.mk hDi
  have HH := Aside0.mk hh
  have HK := Aside0.mk hk
  have HA := Aside0.mk h
  have H01 := Aside0.mk (And.intro h0 h1)
  have IH := Aside0.mk ih
  clear hM hL hDi hh hk h h0 h1 ih hD
  refine (callsIn_wide (n := 5)).1 ?_
  refine callsIn_of_wp_marks Tryz.func58 rfl trivial ?_ rfl
  simp only [Tryz.ntmps58, List.size_toArray, List.length_cons, List.length_nil, Nat.reduceAdd, Nat.reduceSub, Array.replicate_succ, Array.replicate_zero, List.push_toArray, List.append_toArray, List.nil_append, List.cons_append]
  gi_wp2
  have HX0 := Bx5.made c i but out w
  have hb0 : Below w.heap.size w (((((w.alloc (.cells #[.pointer (some ⟨c.G, 0, none⟩)] 69)).alloc (.cells #[.int .i64 i] 3)).alloc (.cells #[.int .i64 but] 3)).alloc (.cells #[.int .i64 out] 3)).alloc (.cells #[.bool false] 4)) :=
    below_alloc (below_alloc (below_alloc (below_alloc (below_alloc (Below.refl _ _) _) _) _) _) _
  obtain ⟨W0, hW0⟩ : ∃ W0, (((((w.alloc (.cells #[.pointer (some ⟨c.G, 0, none⟩)] 69)).alloc (.cells #[.int .i64 i] 3)).alloc (.cells #[.int .i64 but] 3)).alloc (.cells #[.int .i64 out] 3)).alloc (.cells #[.bool false] 4)) = W0 := ⟨_, rfl⟩
  rw [hW0] at HX0 hb0 ⊢
  clear hW0
  have HM1 := Aside0.mk (HM.out.below hb0)
  have HB := Aside0.mk hb0
  have HX := Aside0.mk HX0
  clear hb0 HX0
  obtain ⟨ad, A1, c1, eA, q0, q1, q2, q3, q4, ql, qF⟩ := HM1.out.dom i H01.out.1 H01.out.2
  obtain ⟨G, bo, bv, bm, Ad, cd, cv, ld⟩ := c
  simp only at eA
  subst eA
  refine startW (n := 8) (S := fun w' => w'.cell? ⟨w.heap.size, 0, none⟩ = some (.pointer (some ⟨G, 0, none⟩)) ∧ w'.cell? ⟨w.heap.size + 1, 0, none⟩ = some (.int .i64 i) ∧ w'.cell? ⟨G, 0, none⟩ = some (.slice (some ad) ld.length cd) ∧ w'.cell? (ad.add (i.toNat * 5)) = some (.int .i64 (rd_T57 ld i).f0) ∧ w'.cell? ⟨(ad.add (i.toNat * 5)).block, (ad.add (i.toNat * 5)).off + 1, none⟩ = some (.slice A1 (rd_T57 ld i).f1.length c1) ∧ w'.cell? ⟨(ad.add (i.toNat * 5)).block, (ad.add (i.toNat * 5)).off + 2, none⟩ = some (.int .i64 (rd_T57 ld i).f2) ∧ w'.cell? ⟨(ad.add (i.toNat * 5)).block, (ad.add (i.toNat * 5)).off + 3, none⟩ = some (.int .i64 (rd_T57 ld i).f3) ∧ w'.cell? ⟨(ad.add (i.toNat * 5)).block, (ad.add (i.toNat * 5)).off + 4, none⟩ = some (.int .i64 (rd_T57 ld i).f4)) (ds := []) #[false, false, false, false, false, false, false, false] (by kernel_rfl) rfl rfl ⟨(blk_cell HX.out.b0 0).trans rfl, (blk_cell HX.out.b1 0).trans rfl, (blk_cell HM1.out.blk 0).trans rfl, q0, q1, q2, q3, q4⟩ (fun hHeld => ?_)
  refine with_tabW augment.tab1 augment.bits1 (fun HT_ HW_ => ?_)
  have p01 : (0 ≤ i) = True := eq_true H01.out.1
  have p02 : (i < (ld.length : Int)) = True := eq_true H01.out.2
  refine take_ (i := 0) (N := some 12) (v := ?_) (a' := ?_) #[true, false, false, false, false, false, false, false] rfl rfl (take_ofW HT_.out HW_.out (by kernel_rfl)) (fun _ _ _ h => h) (Or.inl ⟨by rfl, ?_⟩) hHeld ?_ ?_
  rotate_left
  · rintro w' ⟨s0, s1, s2, s3, s4, s5, s6, s7⟩
    go_simp
    with_reducible rfl
  rotate_left
  · simp only [Act.put, List.setIfInBounds_toArray, List.set_cons_zero, List.set_cons_succ, i64_w, i32_w]
    rfl
  refine pure_ (i := 1) (N := some 13) (v := ?_) (a' := ?_) #[true, true, false, false, false, false, false, false] rfl rfl (any_of HT_.out (by kernel_rfl)) (fun _ _ _ h => h) (Or.inl ⟨by rfl, ?_⟩) ?_ ?_
  rotate_left
  · intro w'
    go_simp
    with_reducible rfl
  rotate_left
  · simp only [Act.put, List.setIfInBounds_toArray, List.set_cons_zero, List.set_cons_succ, i64_w, i32_w]
    rfl
  refine pure_ (i := 2) (N := some 14) (v := ?_) (a' := ?_) #[true, true, true, false, false, false, false, false] rfl rfl (any_of HT_.out (by kernel_rfl)) (fun _ _ _ h => h) (Or.inl ⟨by rfl, ?_⟩) ?_ ?_
  rotate_left
  · intro w'
    go_simp
    with_reducible rfl
  rotate_left
  · simp only [Act.put, List.setIfInBounds_toArray, List.set_cons_zero, List.set_cons_succ, i64_w, i32_w]
    rfl
  refine take_ (i := 3) (N := some 15) (v := ?_) (a' := ?_) #[true, true, true, true, false, false, false, false] rfl rfl (take_ofW HT_.out HW_.out (by kernel_rfl)) (fun _ _ _ h => h) (Or.inl ⟨by rfl, ?_⟩) hHeld ?_ ?_
  rotate_left
  · rintro w' ⟨s0, s1, s2, s3, s4, s5, s6, s7⟩
    go_simp
    with_reducible rfl
  rotate_left
  · simp only [Act.put, List.setIfInBounds_toArray, List.set_cons_zero, List.set_cons_succ, i64_w, i32_w]
    rfl
  refine take_ (i := 4) (N := some 16) (v := ?_) (a' := ?_) #[true, true, true, true, true, false, false, false] rfl rfl (take_ofW HT_.out HW_.out (by kernel_rfl)) (fun _ _ _ h => h) (Or.inl ⟨by rfl, ?_⟩) hHeld ?_ ?_
  rotate_left
  · rintro w' ⟨s0, s1, s2, s3, s4, s5, s6, s7⟩
    go_simp
    with_reducible rfl
  rotate_left
  · simp only [Act.put, List.setIfInBounds_toArray, List.set_cons_zero, List.set_cons_succ, i64_w, i32_w]
    rfl
  refine pure_ (i := 5) (N := some 17) (v := ?_) (a' := ?_) #[true, true, true, true, true, true, false, false] rfl rfl (any_of HT_.out (by kernel_rfl)) (fun _ _ _ h => h) (Or.inl ⟨by rfl, ?_⟩) ?_ ?_
  rotate_left
  · intro w'
    go_simp
    with_reducible rfl
  rotate_left
  · simp only [Act.put, List.setIfInBounds_toArray, List.set_cons_zero, List.set_cons_succ, i64_w, i32_w]
    rfl
  refine take_ (i := 6) (N := some 18) (v := ?_) (a' := ?_) #[true, true, true, true, true, true, true, false] rfl rfl (take_ofW HT_.out HW_.out (by kernel_rfl)) (fun _ _ _ h => h) (Or.inl ⟨by rfl, ?_⟩) hHeld ?_ ?_
  rotate_left
  · rintro w' ⟨s0, s1, s2, s3, s4, s5, s6, s7⟩
    go_simp
    with_reducible rfl
  rotate_left
  · simp only [Act.put, List.setIfInBounds_toArray, List.set_cons_zero, List.set_cons_succ, i64_w, i32_w]
    rfl
  refine one_ (i := 7) (N := some 19) #[true, true, true, true, true, true, true, true] rfl rfl (one_of HT_.out (by kernel_rfl)) (by decide) (fun K hK => ?_)
  refine goes_ Tryz.func82 (by kernel_rfl) rfl #[.agg #[.int .i64 (rd_T57 ld i).f0, .slice A1 (rd_T57 ld i).f1.length c1, .int .i64 (rd_T57 ld i).f2, .int .i64 (rd_T57 ld i).f3, .int .i64 (rd_T57 ld i).f4]] (by rfl) rfl rfl (by (try simp only [List.map_toArray, List.map_cons, List.map_nil]); first | done | rfl) ?_
  with_reducible refine (alldiff_each.calls _ _ _ _ _ _ _ _).mono ?_
  rintro e w' ⟨rfl, hw'⟩
  refine ⟨_, rfl, ?_⟩
  have hbx : w'.heap[W0.heap.size]? = some (.cells #[.int .i64 (rd_T57 ld i).f0, .slice A1 (rd_T57 ld i).f1.length c1, .int .i64 (rd_T57 ld i).f2, .int .i64 (rd_T57 ld i).f3, .int .i64 (rd_T57 ld i).f4] 57 (0, 0)) := by rw [hw']; exact blk_new W0.drew _
  have hb1 : Below W0.heap.size W0 w' := by rw [hw']; exact below_alloc (below_drew1 (Below.refl _ _)) _
  clear hw'
  have HM2 := Aside0.mk (HM1.out.below hb1)
  have HX2 := Aside0.mk (HX.out.below hb1)
  have HB2 := Aside0.mk (below_step HB.out hb1)
  have HQ := Aside0.mk (Kd.F_below qF hb1)
  have HQL := Aside0.mk ql
  have HBX := Aside0.mk hbx
  have HS1 := Aside0.mk hb1.size
  refine hK.out _ _ ⟨(blk_cell HX2.out.b0 0).trans rfl, (blk_cell HX2.out.b1 0).trans rfl, (blk_cell HM2.out.blk 0).trans rfl, (hb1.cell (World.block_lt_of_cell? W0 _ q0)).trans q0, (hb1.cell (World.block_lt_of_cell? W0 _ q1)).trans q1, (hb1.cell (World.block_lt_of_cell? W0 _ q2)).trans q2, (hb1.cell (World.block_lt_of_cell? W0 _ q3)).trans q3, (hb1.cell (World.block_lt_of_cell? W0 _ q4)).trans q4⟩ (fun hHeld => ?_)
  clear hK K hb1 hbx qF ql q0 q1 q2 q3 q4 hHeld p01 p02
  refine norm_ (a' := ?_) ?_ ?_
  rotate_left
  · show Act.put _ (some 19) _ = _
    simp only [Act.put, List.setIfInBounds_toArray, List.set_cons_zero, List.set_cons_succ, i64_w, i32_w]
    rfl
  refine done_ (done_of HT_.out (by kernel_rfl)) ?_
  clear HT_ HW_
  have hsz : W0.heap.size < w'.heap.size := blk_lt HBX.out
  rw [show W0.drew.heap.size = W0.heap.size from rfl]
  have hz4 : w.heap.size + 4 < W0.heap.size := HX.out.lt
  have HZ := Aside0.mk (And.intro hsz hz4)
  clear hsz hz4
  have hOut : ¬ (MC.mk G bo bv bm (some ad) cd cv ld).S W0.heap.size := fun e => by
    have h1 := HM.out.lt
    have h2 := HZ.out.2
    unfold MC.S at e
    simp only at e h1
    omega
  have HO := Aside0.mk hOut
  clear hOut
  simp only [NoP]
  gi_wp2
  refine wpIn_rangeFunc_ownG (F := Fence.wide) rfl (by decide : 1 ≤ 5) (gf := 98) (lb := #[.pointer (some ⟨W0.heap.size, 0, none⟩)]) rfl trivial (enters_of Tryz.func98 (by kernel_rfl) rfl)
    (each1_stops 4 (by decide) W0.heap.size w'.heap.size (MC.mk G bo bv bm (some ad) cd cv ld).S kd (rd_T57 ld i) A1 c1 L m HL.out w' ⟨HBX.out, HZ.out.1, HO.out, Kd.F_mono HQ.out (fun k hk => ⟨Nat.lt_of_lt_of_le hk.1 HB2.out.size, hk.2⟩), HQL.out⟩) keepL_t (keepL_b (Nat.le_refl _)) (Below.refl _ _) (fun _ => rfl)
    (AugI (MC.mk G bo bv bm (some ad) cd cv ld) w'.heap.size w.heap.size (aug D t but out kf) t but out i s w) (AugX (MC.mk G bo bv bm (some ad) cd cv ld) w'.heap.size w.heap.size (aug D t but out kf) t but out i s w)
    (augI_own (by have := HZ.out; omega) HB2.out.size) (fun cd_ => augX_own (by have := HZ.out; omega) HB2.out.size cd_)
    ⟨s, rfl, HM2.out.more HB2.out.size (Nat.le_refl _), HX2.out, KeepL.of_below HB2.out (Nat.le_refl _)⟩
    (fun x => { tmps := #[.pointer (some ⟨G, 0, none⟩), .int .i64 i, .int .i64 but, .int .i64 out, .pointer (some ⟨w.heap.size, 0, none⟩), .pointer (some ⟨w.heap.size + 1, 0, none⟩), .pointer (some ⟨w.heap.size + 1 + 1, 0, none⟩), .pointer (some ⟨w.heap.size + 1 + 1 + 1, 0, none⟩), .pointer (some ⟨w.heap.size + 1 + 1 + 1 + 1, 0, none⟩), .int .i64 x.1, undef, undef, .pointer (some ⟨G, 0, none⟩), .pointer (some ⟨G, 0, none⟩), .pointer (some ⟨G, 0, none⟩), .slice (some ad) ld.length cd, .int .i64 i, .pointer (some (ad.add (i.toNat * 5))), .agg #[.int .i64 (rd_T57 ld i).f0, .slice A1 (rd_T57 ld i).f1.length c1, .int .i64 (rd_T57 ld i).f2, .int .i64 (rd_T57 ld i).f3, .int .i64 (rd_T57 ld i).f4], .func (.func 98) #[] #[.pointer (some ⟨W0.heap.size, 0, none⟩)], .int .i64 x.1, undef, undef, undef, undef, undef, undef, undef, undef, undef, undef, undef, undef, undef, undef, undef, undef, undef, undef, undef, undef, undef, undef, undef, undef, undef, undef, undef, undef, undef, undef, undef, undef, undef, undef, undef, undef, undef, undef, undef, undef, undef, undef, undef, undef, undef, undef, undef, undef, undef, undef, undef, undef, undef, undef, undef, undef, undef, undef, undef, undef, undef, undef, undef, undef, undef], defers := [] }) ?assign ?body ?done ?stop
  case assign =>
    intro l x W K hK
    gi_wp2
    exact hK
  case done =>
    rintro Dd xs W hD rfl ⟨st, hst, hM, hX, hK⟩ hKd
    have hr : r = (st, false) := by
      have h_ := HA.out
      rw [HDi.out, hst] at h_
      exact (Option.some.inj h_).symm
    subst hr
    have h9 := MAt.answered (n₀ := 0) hM HM.out hK (z := w.heap.size + 1 + 1 + 1 + 1) (by omega) hM.size false HB2.out.size
    have h10 := mat_grown (z := w.heap.size) (by have := HZ.out; omega) HB2.out.size ⟨h9.1, hX.answer false, h9.2⟩ (grownBy_putObj' (W.setCell ⟨w.heap.size + 1 + 1 + 1 + 1, 0, none⟩ (.bool false)) Dd (.deferred none)) (fun q e => by injection e with e; omega)
    have H9 := Aside0.mk h9
    have H10 := Aside0.mk h10
    have hc9 : W.cell? ⟨w.heap.size + 1 + 1 + 1 + 1, 0, none⟩ = some (.bool false) := (blk_cell hX.b4 0).trans rfl
    have hf9 : W.frozen? ⟨w.heap.size + 1 + 1 + 1 + 1, 0, none⟩ = false := blk_frozen hX.b4 0
    have HKd := Aside0.mk hKd
    clear h9 h10 hM hX hK hKd hst
    gi_wp2
    refine ⟨by simp, .inl ⟨_, _, rfl, run_takeDeferred ((KeepsOthers.setCell _ _ _).same Dd _ HKd.out rfl), ?_⟩⟩
    have hc5 : ((W.setCell ⟨w.heap.size + 1 + 1 + 1 + 1, 0, none⟩ (.bool false)).putObj Dd (.deferred none)).cell? ⟨w.heap.size + 1 + 1 + 1 + 1, 0, none⟩ = some (.bool false) := (blk_cell H10.out.2.1.b4 0).trans rfl
    refine ⟨.bool false, ?_, rfl, H10.out.1.less HM.out H10.out.2.2, H10.out.2.2⟩
    simp [results, Tryz.f58, go_sem, hc5]
  case stop =>
    rintro Dd cd_ pre W hD hpre ⟨rfl, st, hst, hM, hX, hK⟩ hKd
    have hr : r = (st, true) := by
      have h_ := HA.out
      obtain ⟨suf, hs⟩ := hpre
      rw [HDi.out, ← hs, List.map_append, augL_app, hst] at h_
      exact (Option.some.inj h_).symm
    subst hr
    have h10 := mat_grown (z := w.heap.size) (by have := HZ.out; omega) HB2.out.size ⟨hM, hX, hK⟩ (grownBy_putObj' W Dd (.deferred none)) (fun q e => by injection e with e; omega)
    have H10 := Aside0.mk h10
    have HKd := Aside0.mk hKd
    clear h10 hM hX hK hKd hst
    gi_wp2
    refine ⟨by simp, .inl ⟨_, _, rfl, run_takeDeferred HKd.out, ?_⟩⟩
    have hc5 : (W.putObj Dd (.deferred none)).cell? ⟨w.heap.size + 1 + 1 + 1 + 1, 0, none⟩ = some (.bool true) := (blk_cell H10.out.2.1.b4 0).trans rfl
    refine ⟨.bool true, ?_, rfl, H10.out.1.less HM.out H10.out.2.2, H10.out.2.2⟩
    simp [results, Tryz.f58, go_sem, hc5]
  case body =>
    have HZ0 := Aside0.mk (And.intro HZ.out HB2.out.size)
    have HM0 := HM
    clear HM
    clear HM1 HB HX HM2 HX2 HB2 HQ HQL HBX HS1 HZ HO HL
    rintro l pre x W ⟨st, hst, hM, hX, hK⟩ _
    have HSt := Aside0.mk hst
    have HM := Aside0.mk hM
    have HX := Aside0.mk hX
    have HKp := Aside0.mk hK
    clear hst hM hX hK
    have HDW := Aside0.mk (below_drew1 (Below.refl W.heap.size W))
    have HDD := Aside0.mk (below_drew1 (below_drew1 (Below.refl W.heap.size W)))
    have HSz : Aside0 (∀ k, (MC.mk G bo bv bm (some ad) cd cv ld).S k → k < w.heap.size) := ⟨fun k e => by
      have h1 := HM0.out.lt
      unfold MC.S at e
      simp only at e h1
      omega⟩
    gi_wp2
    by_cases c1 : x.1 = out
    · have k1 : (x.1 == out) = true := beq_iff_eq.mpr c1
      by_cases c2 : 0 ≤ but
      · have k2 : decide (0 ≤ but) = true := decide_eq_true c2
        have C12 := Aside0.mk (And.intro c1 c2)
        clear c1 c2
        refine startR (n := 20) (S := fun w' => w'.cell? ⟨w.heap.size + 1 + 1 + 1, 0, none⟩ = some (.int .i64 out) ∧ w'.cell? ⟨w.heap.size + 1 + 1, 0, none⟩ = some (.int .i64 but) ∧ w'.cell? ⟨w.heap.size, 0, none⟩ = some (.pointer (some ⟨G, 0, none⟩)) ∧ w'.cell? ⟨G, 3, none⟩ = some (.map (some bm)) ∧ w'.cell? ⟨G, 4, none⟩ = some (.int .i64 t) ∧ IMap Tryz.prog w' bm st.met) (ds := []) #[false, false, false, false, false, false, false, false, false, false, false, false, false, false, false, false, false, false, false, false] (by kernel_rfl) (by kernel_rfl) rfl rfl ⟨(blk_cell HX.out.b3 0).trans rfl, (blk_cell HX.out.b2 0).trans rfl, (blk_cell HX.out.b0 0).trans rfl, (blk_cell HM.out.blk 3).trans rfl, (blk_cell HM.out.blk 4).trans rfl, HM.out.met.keep rfl⟩ (fun hHeld => ?_)
        refine with_tabW augment.tab3 augment.bits3 (fun HT_ HW_ => ?_)
        refine pure_ (i := 0) (N := some 21) (v := ?_) (a' := ?_) #[true, false, false, false, false, false, false, false, false, false, false, false, false, false, false, false, false, false, false, false] rfl rfl (any_of HT_.out (by kernel_rfl)) (fun _ _ _ h => h) (Or.inl ⟨by rfl, ?_⟩) ?_ ?_
        rotate_left
        · intro w'
          go_simp
          with_reducible rfl
        rotate_left
        · simp only [Act.put, List.setIfInBounds_toArray, List.set_cons_zero, List.set_cons_succ, i64_w, i32_w]
          rfl
        refine take_ (i := 1) (N := some 22) (v := ?_) (a' := ?_) #[true, true, false, false, false, false, false, false, false, false, false, false, false, false, false, false, false, false, false, false] rfl rfl (take_ofW HT_.out HW_.out (by kernel_rfl)) (fun _ _ _ h => h) (Or.inl ⟨by rfl, ?_⟩) hHeld ?_ ?_
        rotate_left
        · rintro w' ⟨s0, s1, s2, s3, s4, s5⟩
          go_simp
          with_reducible rfl
        rotate_left
        · simp only [Act.put, List.setIfInBounds_toArray, List.set_cons_zero, List.set_cons_succ, i64_w, i32_w]
          rfl
        refine pure_ (i := 2) (N := some 23) (v := ?_) (a' := ?_) #[true, true, true, false, false, false, false, false, false, false, false, false, false, false, false, false, false, false, false, false] rfl rfl (any_of HT_.out (by kernel_rfl)) (fun _ _ _ h => h) (Or.inl ⟨by rfl, ?_⟩) ?_ ?_
        rotate_left
        · intro w'
          go_simp
          with_reducible rfl
        rotate_left
        · simp only [Act.put, List.setIfInBounds_toArray, List.set_cons_zero, List.set_cons_succ, i64_w, i32_w]
          rfl
        refine pure_ (i := 3) (N := some 24) (v := ?_) (a' := ?_) #[true, true, true, true, false, false, false, false, false, false, false, false, false, false, false, false, false, false, false, false] rfl rfl (any_of HT_.out (by kernel_rfl)) (fun _ _ _ h => h) (Or.inl ⟨by rfl, ?_⟩) ?_ ?_
        rotate_left
        · intro w'
          go_simp
          with_reducible rfl
        rotate_left
        · simp only [Act.put, List.setIfInBounds_toArray, List.set_cons_zero, List.set_cons_succ, i64_w, i32_w]
          rfl
        refine take_ (i := 4) (N := some 25) (v := ?_) (a' := ?_) #[true, true, true, true, true, false, false, false, false, false, false, false, false, false, false, false, false, false, false, false] rfl rfl (take_ofW HT_.out HW_.out (by kernel_rfl)) (fun _ _ _ h => h) (Or.inl ⟨by rfl, ?_⟩) hHeld ?_ ?_
        rotate_left
        · rintro w' ⟨s0, s1, s2, s3, s4, s5⟩
          go_simp
          with_reducible rfl
        rotate_left
        · simp only [Act.put, List.setIfInBounds_toArray, List.set_cons_zero, List.set_cons_succ, i64_w, i32_w]
          rfl
        refine pure_ (i := 5) (N := some 26) (v := ?_) (a' := ?_) #[true, true, true, true, true, true, false, false, false, false, false, false, false, false, false, false, false, false, false, false] rfl rfl (any_of HT_.out (by kernel_rfl)) (fun _ _ _ h => h) (Or.inl ⟨by rfl, ?_⟩) ?_ ?_
        rotate_left
        · intro w'
          go_simp
          with_reducible rfl
        rotate_left
        · simp only [Act.put, List.setIfInBounds_toArray, List.set_cons_zero, List.set_cons_succ, i64_w, i32_w]
          rfl
        refine pure_ (i := 6) (N := some 27) (v := ?_) (a' := ?_) #[true, true, true, true, true, true, true, false, false, false, false, false, false, false, false, false, false, false, false, false] rfl rfl (any_of HT_.out (by kernel_rfl)) (fun _ _ _ h => h) (Or.inl ⟨by rfl, ?_⟩) ?_ ?_
        rotate_left
        · intro w'
          go_simp
          with_reducible rfl
        rotate_left
        · simp only [Act.put, List.setIfInBounds_toArray, List.set_cons_zero, List.set_cons_succ, i64_w, i32_w]
          rfl
        refine pure_ (i := 7) (N := some 28) (v := ?_) (a' := ?_) #[true, true, true, true, true, true, true, true, false, false, false, false, false, false, false, false, false, false, false, false] rfl rfl (any_of HT_.out (by kernel_rfl)) (fun _ _ _ h => h) (Or.inl ⟨by rfl, ?_⟩) ?_ ?_
        rotate_left
        · intro w'
          go_simp
          with_reducible rfl
        rotate_left
        · simp only [Act.put, List.setIfInBounds_toArray, List.set_cons_zero, List.set_cons_succ, i64_w, i32_w]
          rfl
        refine pure_ (i := 8) (N := some 29) (v := undef) (a' := ?_) #[true, true, true, true, true, true, true, true, true, false, false, false, false, false, false, false, false, false, false, false] rfl rfl (any_of HT_.out (by kernel_rfl)) (fun _ _ _ h => h) (Or.inr ⟨by rfl, rfl⟩) ?_ ?_
        rotate_left
        · simp only [Act.put, List.setIfInBounds_toArray, List.set_cons_zero, List.set_cons_succ, i64_w, i32_w]
          rfl
        refine pure_ (i := 9) (N := some 30) (v := undef) (a' := ?_) #[true, true, true, true, true, true, true, true, true, true, false, false, false, false, false, false, false, false, false, false] rfl rfl (any_of HT_.out (by kernel_rfl)) (fun _ _ _ h => h) (Or.inr ⟨by rfl, rfl⟩) ?_ ?_
        rotate_left
        · simp only [Act.put, List.setIfInBounds_toArray, List.set_cons_zero, List.set_cons_succ, i64_w, i32_w]
          rfl
        refine pure_ (i := 10) (N := some 31) (v := undef) (a' := ?_) #[true, true, true, true, true, true, true, true, true, true, true, false, false, false, false, false, false, false, false, false] rfl rfl (any_of HT_.out (by kernel_rfl)) (fun _ _ _ h => h) (Or.inr ⟨by rfl, rfl⟩) ?_ ?_
        rotate_left
        · simp only [Act.put, List.setIfInBounds_toArray, List.set_cons_zero, List.set_cons_succ, i64_w, i32_w]
          rfl
        refine pure_ (i := 11) (N := some 32) (v := undef) (a' := ?_) #[true, true, true, true, true, true, true, true, true, true, true, true, false, false, false, false, false, false, false, false] rfl rfl (any_of HT_.out (by kernel_rfl)) (fun _ _ _ h => h) (Or.inr ⟨by rfl, rfl⟩) ?_ ?_
        rotate_left
        · simp only [Act.put, List.setIfInBounds_toArray, List.set_cons_zero, List.set_cons_succ, i64_w, i32_w]
          rfl
        refine pure_ (i := 12) (N := some 33) (v := undef) (a' := ?_) #[true, true, true, true, true, true, true, true, true, true, true, true, true, false, false, false, false, false, false, false] rfl rfl (any_of HT_.out (by kernel_rfl)) (fun _ _ _ h => h) (Or.inr ⟨by rfl, rfl⟩) ?_ ?_
        rotate_left
        · simp only [Act.put, List.setIfInBounds_toArray, List.set_cons_zero, List.set_cons_succ, i64_w, i32_w]
          rfl
        refine pure_ (i := 13) (N := some 34) (v := undef) (a' := ?_) #[true, true, true, true, true, true, true, true, true, true, true, true, true, true, false, false, false, false, false, false] rfl rfl (any_of HT_.out (by kernel_rfl)) (fun _ _ _ h => h) (Or.inr ⟨by rfl, rfl⟩) ?_ ?_
        rotate_left
        · simp only [Act.put, List.setIfInBounds_toArray, List.set_cons_zero, List.set_cons_succ, i64_w, i32_w]
          rfl
        refine pure_ (i := 14) (N := some 35) (v := undef) (a' := ?_) #[true, true, true, true, true, true, true, true, true, true, true, true, true, true, true, false, false, false, false, false] rfl rfl (any_of HT_.out (by kernel_rfl)) (fun _ _ _ h => h) (Or.inr ⟨by rfl, rfl⟩) ?_ ?_
        rotate_left
        · simp only [Act.put, List.setIfInBounds_toArray, List.set_cons_zero, List.set_cons_succ, i64_w, i32_w]
          rfl
        refine pure_ (i := 15) (N := some 36) (v := undef) (a' := ?_) #[true, true, true, true, true, true, true, true, true, true, true, true, true, true, true, true, false, false, false, false] rfl rfl (any_of HT_.out (by kernel_rfl)) (fun _ _ _ h => h) (Or.inr ⟨by rfl, rfl⟩) ?_ ?_
        rotate_left
        · simp only [Act.put, List.setIfInBounds_toArray, List.set_cons_zero, List.set_cons_succ, i64_w, i32_w]
          rfl
        refine pure_ (i := 16) (N := some 37) (v := undef) (a' := ?_) #[true, true, true, true, true, true, true, true, true, true, true, true, true, true, true, true, true, false, false, false] rfl rfl (any_of HT_.out (by kernel_rfl)) (fun _ _ _ h => h) (Or.inr ⟨by rfl, rfl⟩) ?_ ?_
        rotate_left
        · simp only [Act.put, List.setIfInBounds_toArray, List.set_cons_zero, List.set_cons_succ, i64_w, i32_w]
          rfl
        refine pure_ (i := 17) (N := some 38) (v := undef) (a' := ?_) #[true, true, true, true, true, true, true, true, true, true, true, true, true, true, true, true, true, true, false, false] rfl rfl (any_of HT_.out (by kernel_rfl)) (fun _ _ _ h => h) (Or.inr ⟨by rfl, rfl⟩) ?_ ?_
        rotate_left
        · simp only [Act.put, List.setIfInBounds_toArray, List.set_cons_zero, List.set_cons_succ, i64_w, i32_w]
          rfl
        refine pure_ (i := 18) (N := some 39) (v := undef) (a' := ?_) #[true, true, true, true, true, true, true, true, true, true, true, true, true, true, true, true, true, true, true, false] rfl rfl (any_of HT_.out (by kernel_rfl)) (fun _ _ _ h => h) (Or.inr ⟨by rfl, rfl⟩) ?_ ?_
        rotate_left
        · simp only [Act.put, List.setIfInBounds_toArray, List.set_cons_zero, List.set_cons_succ, i64_w, i32_w]
          rfl
        refine pure_ (i := 19) (N := some 40) (v := ?_) (a' := ?_) #[true, true, true, true, true, true, true, true, true, true, true, true, true, true, true, true, true, true, true, true] rfl rfl (any_of HT_.out (by kernel_rfl)) (fun _ _ _ h => h) (Or.inl ⟨by rfl, ?_⟩) ?_ ?_
        rotate_left
        · intro w'
          go_simp
          with_reducible rfl
        rotate_left
        · simp only [Act.put, List.setIfInBounds_toArray, List.set_cons_zero, List.set_cons_succ, i64_w, i32_w]
          rfl
        refine done_ (done_of HT_.out (by kernel_rfl)) ?_
        clear HT_ HW_ hHeld
        simp only [NoP]
        gi_wp2
        exact ⟨(KeepL.of_below (S := (MC.mk G bo bv bm (some ad) cd cv ld).S) HDW.out (Nat.le_refl _)).keepsFrom rfl (fun k e => Nat.lt_of_lt_of_le (HSz.out k e) HZ0.out.2), (KeepL.of_below (S := (MC.mk G bo bv bm (some ad) cd cv ld).S) HDW.out (Nat.le_refl _)).mono HM.out.size, st, by rw [List.map_append, augL_app, HSt.out]; show augL _ _ _ _ _ [x.1] st = _; simp only [augL]; rw [if_pos (.inl C12.out)], HM.out.below HDW.out, HX.out.below HDW.out, HKp.out.trans ((KeepL.of_below (S := (MC.mk G bo bv bm (some ad) cd cv ld).S) HDW.out (Nat.le_refl _)).mono (Nat.le_trans HZ0.out.2 HM.out.size))⟩
      · have k2 : decide (0 ≤ but) = false := decide_eq_false c2
        have C2 := Aside0.mk c2
        clear c1 c2
        by_cases c3 : (st.met x.1).getD 0 = t
        · have k3 : ((st.met x.1).getD 0 == t) = true := beq_iff_eq.mpr c3
          have C3 := Aside0.mk c3
          clear c3
          refine startR (n := 20) (S := fun w' => w'.cell? ⟨w.heap.size + 1 + 1 + 1, 0, none⟩ = some (.int .i64 out) ∧ w'.cell? ⟨w.heap.size + 1 + 1, 0, none⟩ = some (.int .i64 but) ∧ w'.cell? ⟨w.heap.size, 0, none⟩ = some (.pointer (some ⟨G, 0, none⟩)) ∧ w'.cell? ⟨G, 3, none⟩ = some (.map (some bm)) ∧ w'.cell? ⟨G, 4, none⟩ = some (.int .i64 t) ∧ IMap Tryz.prog w' bm st.met) (ds := []) #[false, false, false, false, false, false, false, false, false, false, false, false, false, false, false, false, false, false, false, false] (by kernel_rfl) (by kernel_rfl) rfl rfl ⟨(blk_cell HX.out.b3 0).trans rfl, (blk_cell HX.out.b2 0).trans rfl, (blk_cell HX.out.b0 0).trans rfl, (blk_cell HM.out.blk 3).trans rfl, (blk_cell HM.out.blk 4).trans rfl, HM.out.met.keep rfl⟩ (fun hHeld => ?_)
          refine with_tabW augment.tab3 augment.bits3 (fun HT_ HW_ => ?_)
          refine pure_ (i := 0) (N := some 21) (v := ?_) (a' := ?_) #[true, false, false, false, false, false, false, false, false, false, false, false, false, false, false, false, false, false, false, false] rfl rfl (any_of HT_.out (by kernel_rfl)) (fun _ _ _ h => h) (Or.inl ⟨by rfl, ?_⟩) ?_ ?_
          rotate_left
          · intro w'
            go_simp
            with_reducible rfl
          rotate_left
          · simp only [Act.put, List.setIfInBounds_toArray, List.set_cons_zero, List.set_cons_succ, i64_w, i32_w]
            rfl
          refine take_ (i := 1) (N := some 22) (v := ?_) (a' := ?_) #[true, true, false, false, false, false, false, false, false, false, false, false, false, false, false, false, false, false, false, false] rfl rfl (take_ofW HT_.out HW_.out (by kernel_rfl)) (fun _ _ _ h => h) (Or.inl ⟨by rfl, ?_⟩) hHeld ?_ ?_
          rotate_left
          · rintro w' ⟨s0, s1, s2, s3, s4, s5⟩
            go_simp
            with_reducible rfl
          rotate_left
          · simp only [Act.put, List.setIfInBounds_toArray, List.set_cons_zero, List.set_cons_succ, i64_w, i32_w]
            rfl
          refine pure_ (i := 2) (N := some 23) (v := ?_) (a' := ?_) #[true, true, true, false, false, false, false, false, false, false, false, false, false, false, false, false, false, false, false, false] rfl rfl (any_of HT_.out (by kernel_rfl)) (fun _ _ _ h => h) (Or.inl ⟨by rfl, ?_⟩) ?_ ?_
          rotate_left
          · intro w'
            go_simp
            with_reducible rfl
          rotate_left
          · simp only [Act.put, List.setIfInBounds_toArray, List.set_cons_zero, List.set_cons_succ, i64_w, i32_w]
            rfl
          refine pure_ (i := 3) (N := some 24) (v := ?_) (a' := ?_) #[true, true, true, true, false, false, false, false, false, false, false, false, false, false, false, false, false, false, false, false] rfl rfl (any_of HT_.out (by kernel_rfl)) (fun _ _ _ h => h) (Or.inl ⟨by rfl, ?_⟩) ?_ ?_
          rotate_left
          · intro w'
            go_simp
            with_reducible rfl
          rotate_left
          · simp only [Act.put, List.setIfInBounds_toArray, List.set_cons_zero, List.set_cons_succ, i64_w, i32_w]
            rfl
          refine take_ (i := 4) (N := some 25) (v := ?_) (a' := ?_) #[true, true, true, true, true, false, false, false, false, false, false, false, false, false, false, false, false, false, false, false] rfl rfl (take_ofW HT_.out HW_.out (by kernel_rfl)) (fun _ _ _ h => h) (Or.inl ⟨by rfl, ?_⟩) hHeld ?_ ?_
          rotate_left
          · rintro w' ⟨s0, s1, s2, s3, s4, s5⟩
            go_simp
            with_reducible rfl
          rotate_left
          · simp only [Act.put, List.setIfInBounds_toArray, List.set_cons_zero, List.set_cons_succ, i64_w, i32_w]
            rfl
          refine pure_ (i := 5) (N := some 26) (v := ?_) (a' := ?_) #[true, true, true, true, true, true, false, false, false, false, false, false, false, false, false, false, false, false, false, false] rfl rfl (any_of HT_.out (by kernel_rfl)) (fun _ _ _ h => h) (Or.inl ⟨by rfl, ?_⟩) ?_ ?_
          rotate_left
          · intro w'
            go_simp
            with_reducible rfl
          rotate_left
          · simp only [Act.put, List.setIfInBounds_toArray, List.set_cons_zero, List.set_cons_succ, i64_w, i32_w]
            rfl
          refine pure_ (i := 6) (N := some 27) (v := ?_) (a' := ?_) #[true, true, true, true, true, true, true, false, false, false, false, false, false, false, false, false, false, false, false, false] rfl rfl (any_of HT_.out (by kernel_rfl)) (fun _ _ _ h => h) (Or.inl ⟨by rfl, ?_⟩) ?_ ?_
          rotate_left
          · intro w'
            go_simp
            with_reducible rfl
          rotate_left
          · simp only [Act.put, List.setIfInBounds_toArray, List.set_cons_zero, List.set_cons_succ, i64_w, i32_w]
            rfl
          refine pure_ (i := 7) (N := some 28) (v := ?_) (a' := ?_) #[true, true, true, true, true, true, true, true, false, false, false, false, false, false, false, false, false, false, false, false] rfl rfl (any_of HT_.out (by kernel_rfl)) (fun _ _ _ h => h) (Or.inl ⟨by rfl, ?_⟩) ?_ ?_
          rotate_left
          · intro w'
            go_simp
            with_reducible rfl
          rotate_left
          · simp only [Act.put, List.setIfInBounds_toArray, List.set_cons_zero, List.set_cons_succ, i64_w, i32_w]
            rfl
          refine take_ (i := 8) (N := some 29) (v := ?_) (a' := ?_) #[true, true, true, true, true, true, true, true, true, false, false, false, false, false, false, false, false, false, false, false] rfl rfl (take_ofW HT_.out HW_.out (by kernel_rfl)) (fun _ _ _ h => h) (Or.inl ⟨by rfl, ?_⟩) hHeld ?_ ?_
          rotate_left
          · rintro w' ⟨s0, s1, s2, s3, s4, s5⟩
            go_simp
            with_reducible rfl
          rotate_left
          · simp only [Act.put, List.setIfInBounds_toArray, List.set_cons_zero, List.set_cons_succ, i64_w, i32_w]
            rfl
          refine pure_ (i := 9) (N := some 30) (v := ?_) (a' := ?_) #[true, true, true, true, true, true, true, true, true, true, false, false, false, false, false, false, false, false, false, false] rfl rfl (any_of HT_.out (by kernel_rfl)) (fun _ _ _ h => h) (Or.inl ⟨by rfl, ?_⟩) ?_ ?_
          rotate_left
          · intro w'
            go_simp
            with_reducible rfl
          rotate_left
          · simp only [Act.put, List.setIfInBounds_toArray, List.set_cons_zero, List.set_cons_succ, i64_w, i32_w]
            rfl
          refine pure_ (i := 10) (N := some 31) (v := ?_) (a' := ?_) #[true, true, true, true, true, true, true, true, true, true, true, false, false, false, false, false, false, false, false, false] rfl rfl (any_of HT_.out (by kernel_rfl)) (fun _ _ _ h => h) (Or.inl ⟨by rfl, ?_⟩) ?_ ?_
          rotate_left
          · intro w'
            go_simp
            with_reducible rfl
          rotate_left
          · simp only [Act.put, List.setIfInBounds_toArray, List.set_cons_zero, List.set_cons_succ, i64_w, i32_w]
            rfl
          refine take_ (i := 11) (N := some 32) (v := ?_) (a' := ?_) #[true, true, true, true, true, true, true, true, true, true, true, true, false, false, false, false, false, false, false, false] rfl rfl (take_ofW HT_.out HW_.out (by kernel_rfl)) (fun _ _ _ h => h) (Or.inl ⟨by rfl, ?_⟩) hHeld ?_ ?_
          rotate_left
          · rintro w' ⟨s0, s1, s2, s3, s4, s5⟩
            go_simp
            with_reducible rfl
          rotate_left
          · simp only [Act.put, List.setIfInBounds_toArray, List.set_cons_zero, List.set_cons_succ, i64_w, i32_w]
            rfl
          refine pure_ (i := 12) (N := some 33) (v := ?_) (a' := ?_) #[true, true, true, true, true, true, true, true, true, true, true, true, true, false, false, false, false, false, false, false] rfl rfl (any_of HT_.out (by kernel_rfl)) (fun _ _ _ h => h) (Or.inl ⟨by rfl, ?_⟩) ?_ ?_
          rotate_left
          · intro w'
            go_simp
            with_reducible rfl
          rotate_left
          · simp only [Act.put, List.setIfInBounds_toArray, List.set_cons_zero, List.set_cons_succ, i64_w, i32_w]
            rfl
          refine take_ (i := 13) (N := some 34) (v := ?_) (a' := ?_) #[true, true, true, true, true, true, true, true, true, true, true, true, true, true, false, false, false, false, false, false] rfl rfl (take_ofW HT_.out HW_.out (by kernel_rfl)) (fun _ _ _ h => h) (Or.inl ⟨by rfl, ?_⟩) hHeld ?_ ?_
          rotate_left
          · rintro w' ⟨s0, s1, s2, s3, s4, s5⟩
            have e_ := s5.run_get 93 Tryz.underlying3 Tryz.underlying93 zero3 x.1 x.2
            go_simp
            with_reducible rfl
          rotate_left
          · simp only [Act.put, List.setIfInBounds_toArray, List.set_cons_zero, List.set_cons_succ, i64_w, i32_w]
            rfl
          refine take_ (i := 14) (N := some 35) (v := ?_) (a' := ?_) #[true, true, true, true, true, true, true, true, true, true, true, true, true, true, true, false, false, false, false, false] rfl rfl (take_ofW HT_.out HW_.out (by kernel_rfl)) (fun _ _ _ h => h) (Or.inl ⟨by rfl, ?_⟩) hHeld ?_ ?_
          rotate_left
          · rintro w' ⟨s0, s1, s2, s3, s4, s5⟩
            go_simp
            with_reducible rfl
          rotate_left
          · simp only [Act.put, List.setIfInBounds_toArray, List.set_cons_zero, List.set_cons_succ, i64_w, i32_w]
            rfl
          refine pure_ (i := 15) (N := some 36) (v := ?_) (a' := ?_) #[true, true, true, true, true, true, true, true, true, true, true, true, true, true, true, true, false, false, false, false] rfl rfl (any_of HT_.out (by kernel_rfl)) (fun _ _ _ h => h) (Or.inl ⟨by rfl, ?_⟩) ?_ ?_
          rotate_left
          · intro w'
            go_simp
            with_reducible rfl
          rotate_left
          · simp only [Act.put, List.setIfInBounds_toArray, List.set_cons_zero, List.set_cons_succ, i64_w, i32_w]
            rfl
          refine pure_ (i := 16) (N := some 37) (v := ?_) (a' := ?_) #[true, true, true, true, true, true, true, true, true, true, true, true, true, true, true, true, true, false, false, false] rfl rfl (any_of HT_.out (by kernel_rfl)) (fun _ _ _ h => h) (Or.inl ⟨by rfl, ?_⟩) ?_ ?_
          rotate_left
          · intro w'
            go_simp
            with_reducible rfl
          rotate_left
          · simp only [Act.put, List.setIfInBounds_toArray, List.set_cons_zero, List.set_cons_succ, i64_w, i32_w]
            rfl
          refine take_ (i := 17) (N := some 38) (v := ?_) (a' := ?_) #[true, true, true, true, true, true, true, true, true, true, true, true, true, true, true, true, true, true, false, false] rfl rfl (take_ofW HT_.out HW_.out (by kernel_rfl)) (fun _ _ _ h => h) (Or.inl ⟨by rfl, ?_⟩) hHeld ?_ ?_
          rotate_left
          · rintro w' ⟨s0, s1, s2, s3, s4, s5⟩
            go_simp
            with_reducible rfl
          rotate_left
          · simp only [Act.put, List.setIfInBounds_toArray, List.set_cons_zero, List.set_cons_succ, i64_w, i32_w]
            rfl
          refine pure_ (i := 18) (N := some 39) (v := ?_) (a' := ?_) #[true, true, true, true, true, true, true, true, true, true, true, true, true, true, true, true, true, true, true, false] rfl rfl (any_of HT_.out (by kernel_rfl)) (fun _ _ _ h => h) (Or.inl ⟨by rfl, ?_⟩) ?_ ?_
          rotate_left
          · intro w'
            go_simp
            with_reducible rfl
          rotate_left
          · simp only [Act.put, List.setIfInBounds_toArray, List.set_cons_zero, List.set_cons_succ, i64_w, i32_w]
            rfl
          refine pure_ (i := 19) (N := some 40) (v := ?_) (a' := ?_) #[true, true, true, true, true, true, true, true, true, true, true, true, true, true, true, true, true, true, true, true] rfl rfl (any_of HT_.out (by kernel_rfl)) (fun _ _ _ h => h) (Or.inl ⟨by rfl, ?_⟩) ?_ ?_
          rotate_left
          · intro w'
            go_simp
            with_reducible rfl
          rotate_left
          · simp only [Act.put, List.setIfInBounds_toArray, List.set_cons_zero, List.set_cons_succ, i64_w, i32_w]
            rfl
          refine done_ (done_of HT_.out (by kernel_rfl)) ?_
          clear HT_ HW_ hHeld
          simp only [NoP]
          gi_wp2
          exact ⟨(KeepL.of_below (S := (MC.mk G bo bv bm (some ad) cd cv ld).S) HDW.out (Nat.le_refl _)).keepsFrom rfl (fun k e => Nat.lt_of_lt_of_le (HSz.out k e) HZ0.out.2), (KeepL.of_below (S := (MC.mk G bo bv bm (some ad) cd cv ld).S) HDW.out (Nat.le_refl _)).mono HM.out.size, st, by rw [List.map_append, augL_app, HSt.out]; show augL _ _ _ _ _ [x.1] st = _; simp only [augL]; rw [if_pos (.inr C3.out)], HM.out.below HDW.out, HX.out.below HDW.out, HKp.out.trans ((KeepL.of_below (S := (MC.mk G bo bv bm (some ad) cd cv ld).S) HDW.out (Nat.le_refl _)).mono (Nat.le_trans HZ0.out.2 HM.out.size))⟩
        · have k3 : ((st.met x.1).getD 0 == t) = false := beq_eq_false_iff_ne.mpr c3
          have CN : Aside0 (¬ ((x.1 = out ∧ 0 ≤ but) ∨ (st.met x.1).getD 0 = t)) := ⟨fun h => h.elim (fun h => C2.out h.2) c3⟩
          clear c3
          refine startR (n := 20) (S := fun w' => w'.cell? ⟨w.heap.size + 1 + 1 + 1, 0, none⟩ = some (.int .i64 out) ∧ w'.cell? ⟨w.heap.size + 1 + 1, 0, none⟩ = some (.int .i64 but) ∧ w'.cell? ⟨w.heap.size, 0, none⟩ = some (.pointer (some ⟨G, 0, none⟩)) ∧ w'.cell? ⟨G, 3, none⟩ = some (.map (some bm)) ∧ w'.cell? ⟨G, 4, none⟩ = some (.int .i64 t) ∧ IMap Tryz.prog w' bm st.met) (ds := []) #[false, false, false, false, false, false, false, false, false, false, false, false, false, false, false, false, false, false, false, false] (by kernel_rfl) (by kernel_rfl) rfl rfl ⟨(blk_cell HX.out.b3 0).trans rfl, (blk_cell HX.out.b2 0).trans rfl, (blk_cell HX.out.b0 0).trans rfl, (blk_cell HM.out.blk 3).trans rfl, (blk_cell HM.out.blk 4).trans rfl, HM.out.met.keep rfl⟩ (fun hHeld => ?_)
          refine with_tabW augment.tab3 augment.bits3 (fun HT_ HW_ => ?_)
          refine pure_ (i := 0) (N := some 21) (v := ?_) (a' := ?_) #[true, false, false, false, false, false, false, false, false, false, false, false, false, false, false, false, false, false, false, false] rfl rfl (any_of HT_.out (by kernel_rfl)) (fun _ _ _ h => h) (Or.inl ⟨by rfl, ?_⟩) ?_ ?_
          rotate_left
          · intro w'
            go_simp
            with_reducible rfl
          rotate_left
          · simp only [Act.put, List.setIfInBounds_toArray, List.set_cons_zero, List.set_cons_succ, i64_w, i32_w]
            rfl
          refine take_ (i := 1) (N := some 22) (v := ?_) (a' := ?_) #[true, true, false, false, false, false, false, false, false, false, false, false, false, false, false, false, false, false, false, false] rfl rfl (take_ofW HT_.out HW_.out (by kernel_rfl)) (fun _ _ _ h => h) (Or.inl ⟨by rfl, ?_⟩) hHeld ?_ ?_
          rotate_left
          · rintro w' ⟨s0, s1, s2, s3, s4, s5⟩
            go_simp
            with_reducible rfl
          rotate_left
          · simp only [Act.put, List.setIfInBounds_toArray, List.set_cons_zero, List.set_cons_succ, i64_w, i32_w]
            rfl
          refine pure_ (i := 2) (N := some 23) (v := ?_) (a' := ?_) #[true, true, true, false, false, false, false, false, false, false, false, false, false, false, false, false, false, false, false, false] rfl rfl (any_of HT_.out (by kernel_rfl)) (fun _ _ _ h => h) (Or.inl ⟨by rfl, ?_⟩) ?_ ?_
          rotate_left
          · intro w'
            go_simp
            with_reducible rfl
          rotate_left
          · simp only [Act.put, List.setIfInBounds_toArray, List.set_cons_zero, List.set_cons_succ, i64_w, i32_w]
            rfl
          refine pure_ (i := 3) (N := some 24) (v := ?_) (a' := ?_) #[true, true, true, true, false, false, false, false, false, false, false, false, false, false, false, false, false, false, false, false] rfl rfl (any_of HT_.out (by kernel_rfl)) (fun _ _ _ h => h) (Or.inl ⟨by rfl, ?_⟩) ?_ ?_
          rotate_left
          · intro w'
            go_simp
            with_reducible rfl
          rotate_left
          · simp only [Act.put, List.setIfInBounds_toArray, List.set_cons_zero, List.set_cons_succ, i64_w, i32_w]
            rfl
          refine take_ (i := 4) (N := some 25) (v := ?_) (a' := ?_) #[true, true, true, true, true, false, false, false, false, false, false, false, false, false, false, false, false, false, false, false] rfl rfl (take_ofW HT_.out HW_.out (by kernel_rfl)) (fun _ _ _ h => h) (Or.inl ⟨by rfl, ?_⟩) hHeld ?_ ?_
          rotate_left
          · rintro w' ⟨s0, s1, s2, s3, s4, s5⟩
            go_simp
            with_reducible rfl
          rotate_left
          · simp only [Act.put, List.setIfInBounds_toArray, List.set_cons_zero, List.set_cons_succ, i64_w, i32_w]
            rfl
          refine pure_ (i := 5) (N := some 26) (v := ?_) (a' := ?_) #[true, true, true, true, true, true, false, false, false, false, false, false, false, false, false, false, false, false, false, false] rfl rfl (any_of HT_.out (by kernel_rfl)) (fun _ _ _ h => h) (Or.inl ⟨by rfl, ?_⟩) ?_ ?_
          rotate_left
          · intro w'
            go_simp
            with_reducible rfl
          rotate_left
          · simp only [Act.put, List.setIfInBounds_toArray, List.set_cons_zero, List.set_cons_succ, i64_w, i32_w]
            rfl
          refine pure_ (i := 6) (N := some 27) (v := ?_) (a' := ?_) #[true, true, true, true, true, true, true, false, false, false, false, false, false, false, false, false, false, false, false, false] rfl rfl (any_of HT_.out (by kernel_rfl)) (fun _ _ _ h => h) (Or.inl ⟨by rfl, ?_⟩) ?_ ?_
          rotate_left
          · intro w'
            go_simp
            with_reducible rfl
          rotate_left
          · simp only [Act.put, List.setIfInBounds_toArray, List.set_cons_zero, List.set_cons_succ, i64_w, i32_w]
            rfl
          refine pure_ (i := 7) (N := some 28) (v := ?_) (a' := ?_) #[true, true, true, true, true, true, true, true, false, false, false, false, false, false, false, false, false, false, false, false] rfl rfl (any_of HT_.out (by kernel_rfl)) (fun _ _ _ h => h) (Or.inl ⟨by rfl, ?_⟩) ?_ ?_
          rotate_left
          · intro w'
            go_simp
            with_reducible rfl
          rotate_left
          · simp only [Act.put, List.setIfInBounds_toArray, List.set_cons_zero, List.set_cons_succ, i64_w, i32_w]
            rfl
          refine take_ (i := 8) (N := some 29) (v := ?_) (a' := ?_) #[true, true, true, true, true, true, true, true, true, false, false, false, false, false, false, false, false, false, false, false] rfl rfl (take_ofW HT_.out HW_.out (by kernel_rfl)) (fun _ _ _ h => h) (Or.inl ⟨by rfl, ?_⟩) hHeld ?_ ?_
          rotate_left
          · rintro w' ⟨s0, s1, s2, s3, s4, s5⟩
            go_simp
            with_reducible rfl
          rotate_left
          · simp only [Act.put, List.setIfInBounds_toArray, List.set_cons_zero, List.set_cons_succ, i64_w, i32_w]
            rfl
          refine pure_ (i := 9) (N := some 30) (v := ?_) (a' := ?_) #[true, true, true, true, true, true, true, true, true, true, false, false, false, false, false, false, false, false, false, false] rfl rfl (any_of HT_.out (by kernel_rfl)) (fun _ _ _ h => h) (Or.inl ⟨by rfl, ?_⟩) ?_ ?_
          rotate_left
          · intro w'
            go_simp
            with_reducible rfl
          rotate_left
          · simp only [Act.put, List.setIfInBounds_toArray, List.set_cons_zero, List.set_cons_succ, i64_w, i32_w]
            rfl
          refine pure_ (i := 10) (N := some 31) (v := ?_) (a' := ?_) #[true, true, true, true, true, true, true, true, true, true, true, false, false, false, false, false, false, false, false, false] rfl rfl (any_of HT_.out (by kernel_rfl)) (fun _ _ _ h => h) (Or.inl ⟨by rfl, ?_⟩) ?_ ?_
          rotate_left
          · intro w'
            go_simp
            with_reducible rfl
          rotate_left
          · simp only [Act.put, List.setIfInBounds_toArray, List.set_cons_zero, List.set_cons_succ, i64_w, i32_w]
            rfl
          refine take_ (i := 11) (N := some 32) (v := ?_) (a' := ?_) #[true, true, true, true, true, true, true, true, true, true, true, true, false, false, false, false, false, false, false, false] rfl rfl (take_ofW HT_.out HW_.out (by kernel_rfl)) (fun _ _ _ h => h) (Or.inl ⟨by rfl, ?_⟩) hHeld ?_ ?_
          rotate_left
          · rintro w' ⟨s0, s1, s2, s3, s4, s5⟩
            go_simp
            with_reducible rfl
          rotate_left
          · simp only [Act.put, List.setIfInBounds_toArray, List.set_cons_zero, List.set_cons_succ, i64_w, i32_w]
            rfl
          refine pure_ (i := 12) (N := some 33) (v := ?_) (a' := ?_) #[true, true, true, true, true, true, true, true, true, true, true, true, true, false, false, false, false, false, false, false] rfl rfl (any_of HT_.out (by kernel_rfl)) (fun _ _ _ h => h) (Or.inl ⟨by rfl, ?_⟩) ?_ ?_
          rotate_left
          · intro w'
            go_simp
            with_reducible rfl
          rotate_left
          · simp only [Act.put, List.setIfInBounds_toArray, List.set_cons_zero, List.set_cons_succ, i64_w, i32_w]
            rfl
          refine take_ (i := 13) (N := some 34) (v := ?_) (a' := ?_) #[true, true, true, true, true, true, true, true, true, true, true, true, true, true, false, false, false, false, false, false] rfl rfl (take_ofW HT_.out HW_.out (by kernel_rfl)) (fun _ _ _ h => h) (Or.inl ⟨by rfl, ?_⟩) hHeld ?_ ?_
          rotate_left
          · rintro w' ⟨s0, s1, s2, s3, s4, s5⟩
            have e_ := s5.run_get 93 Tryz.underlying3 Tryz.underlying93 zero3 x.1 x.2
            go_simp
            with_reducible rfl
          rotate_left
          · simp only [Act.put, List.setIfInBounds_toArray, List.set_cons_zero, List.set_cons_succ, i64_w, i32_w]
            rfl
          refine take_ (i := 14) (N := some 35) (v := ?_) (a' := ?_) #[true, true, true, true, true, true, true, true, true, true, true, true, true, true, true, false, false, false, false, false] rfl rfl (take_ofW HT_.out HW_.out (by kernel_rfl)) (fun _ _ _ h => h) (Or.inl ⟨by rfl, ?_⟩) hHeld ?_ ?_
          rotate_left
          · rintro w' ⟨s0, s1, s2, s3, s4, s5⟩
            go_simp
            with_reducible rfl
          rotate_left
          · simp only [Act.put, List.setIfInBounds_toArray, List.set_cons_zero, List.set_cons_succ, i64_w, i32_w]
            rfl
          refine pure_ (i := 15) (N := some 36) (v := ?_) (a' := ?_) #[true, true, true, true, true, true, true, true, true, true, true, true, true, true, true, true, false, false, false, false] rfl rfl (any_of HT_.out (by kernel_rfl)) (fun _ _ _ h => h) (Or.inl ⟨by rfl, ?_⟩) ?_ ?_
          rotate_left
          · intro w'
            go_simp
            with_reducible rfl
          rotate_left
          · simp only [Act.put, List.setIfInBounds_toArray, List.set_cons_zero, List.set_cons_succ, i64_w, i32_w]
            rfl
          refine pure_ (i := 16) (N := some 37) (v := ?_) (a' := ?_) #[true, true, true, true, true, true, true, true, true, true, true, true, true, true, true, true, true, false, false, false] rfl rfl (any_of HT_.out (by kernel_rfl)) (fun _ _ _ h => h) (Or.inl ⟨by rfl, ?_⟩) ?_ ?_
          rotate_left
          · intro w'
            go_simp
            with_reducible rfl
          rotate_left
          · simp only [Act.put, List.setIfInBounds_toArray, List.set_cons_zero, List.set_cons_succ, i64_w, i32_w]
            rfl
          refine take_ (i := 17) (N := some 38) (v := ?_) (a' := ?_) #[true, true, true, true, true, true, true, true, true, true, true, true, true, true, true, true, true, true, false, false] rfl rfl (take_ofW HT_.out HW_.out (by kernel_rfl)) (fun _ _ _ h => h) (Or.inl ⟨by rfl, ?_⟩) hHeld ?_ ?_
          rotate_left
          · rintro w' ⟨s0, s1, s2, s3, s4, s5⟩
            go_simp
            with_reducible rfl
          rotate_left
          · simp only [Act.put, List.setIfInBounds_toArray, List.set_cons_zero, List.set_cons_succ, i64_w, i32_w]
            rfl
          refine pure_ (i := 18) (N := some 39) (v := ?_) (a' := ?_) #[true, true, true, true, true, true, true, true, true, true, true, true, true, true, true, true, true, true, true, false] rfl rfl (any_of HT_.out (by kernel_rfl)) (fun _ _ _ h => h) (Or.inl ⟨by rfl, ?_⟩) ?_ ?_
          rotate_left
          · intro w'
            go_simp
            with_reducible rfl
          rotate_left
          · simp only [Act.put, List.setIfInBounds_toArray, List.set_cons_zero, List.set_cons_succ, i64_w, i32_w]
            rfl
          refine pure_ (i := 19) (N := some 40) (v := ?_) (a' := ?_) #[true, true, true, true, true, true, true, true, true, true, true, true, true, true, true, true, true, true, true, true] rfl rfl (any_of HT_.out (by kernel_rfl)) (fun _ _ _ h => h) (Or.inl ⟨by rfl, ?_⟩) ?_ ?_
          rotate_left
          · intro w'
            go_simp
            with_reducible rfl
          rotate_left
          · simp only [Act.put, List.setIfInBounds_toArray, List.set_cons_zero, List.set_cons_succ, i64_w, i32_w]
            rfl
          refine done_ (done_of HT_.out (by kernel_rfl)) ?_
          clear HT_ HW_ hHeld
          simp only [NoP]
          gi_wp2
          refine startR (n := 10) (S := fun w' => w'.cell? ⟨w.heap.size, 0, none⟩ = some (.pointer (some ⟨G, 0, none⟩)) ∧ w'.cell? ⟨G, 3, none⟩ = some (.map (some bm)) ∧ w'.cell? ⟨G, 4, none⟩ = some (.int .i64 t)) (ds := []) #[false, false, false, false, false, false, false, false, false, false] (by kernel_rfl) (by kernel_rfl) rfl rfl ⟨(blk_cell HX.out.b0 0).trans rfl, (blk_cell HM.out.blk 3).trans rfl, (blk_cell HM.out.blk 4).trans rfl⟩ (fun hHeld => ?_)
          refine with_tabW augment.tab4 augment.bits4 (fun HT_ HW_ => ?_)
          refine take_ (i := 0) (N := some 41) (v := ?_) (a' := ?_) #[true, false, false, false, false, false, false, false, false, false] rfl rfl (take_ofW HT_.out HW_.out (by kernel_rfl)) (fun _ _ _ h => h) (Or.inl ⟨by rfl, ?_⟩) hHeld ?_ ?_
          rotate_left
          · rintro w' ⟨s0, s1, s2⟩
            go_simp
            with_reducible rfl
          rotate_left
          · simp only [Act.put, List.setIfInBounds_toArray, List.set_cons_zero, List.set_cons_succ, i64_w, i32_w]
            rfl
          refine pure_ (i := 1) (N := some 42) (v := ?_) (a' := ?_) #[true, true, false, false, false, false, false, false, false, false] rfl rfl (any_of HT_.out (by kernel_rfl)) (fun _ _ _ h => h) (Or.inl ⟨by rfl, ?_⟩) ?_ ?_
          rotate_left
          · intro w'
            go_simp
            with_reducible rfl
          rotate_left
          · simp only [Act.put, List.setIfInBounds_toArray, List.set_cons_zero, List.set_cons_succ, i64_w, i32_w]
            rfl
          refine pure_ (i := 2) (N := some 43) (v := ?_) (a' := ?_) #[true, true, true, false, false, false, false, false, false, false] rfl rfl (any_of HT_.out (by kernel_rfl)) (fun _ _ _ h => h) (Or.inl ⟨by rfl, ?_⟩) ?_ ?_
          rotate_left
          · intro w'
            go_simp
            with_reducible rfl
          rotate_left
          · simp only [Act.put, List.setIfInBounds_toArray, List.set_cons_zero, List.set_cons_succ, i64_w, i32_w]
            rfl
          refine take_ (i := 3) (N := some 44) (v := ?_) (a' := ?_) #[true, true, true, true, false, false, false, false, false, false] rfl rfl (take_ofW HT_.out HW_.out (by kernel_rfl)) (fun _ _ _ h => h) (Or.inl ⟨by rfl, ?_⟩) hHeld ?_ ?_
          rotate_left
          · rintro w' ⟨s0, s1, s2⟩
            go_simp
            with_reducible rfl
          rotate_left
          · simp only [Act.put, List.setIfInBounds_toArray, List.set_cons_zero, List.set_cons_succ, i64_w, i32_w]
            rfl
          refine pure_ (i := 4) (N := some 45) (v := ?_) (a' := ?_) #[true, true, true, true, true, false, false, false, false, false] rfl rfl (any_of HT_.out (by kernel_rfl)) (fun _ _ _ h => h) (Or.inl ⟨by rfl, ?_⟩) ?_ ?_
          rotate_left
          · intro w'
            go_simp
            with_reducible rfl
          rotate_left
          · simp only [Act.put, List.setIfInBounds_toArray, List.set_cons_zero, List.set_cons_succ, i64_w, i32_w]
            rfl
          refine take_ (i := 5) (N := some 46) (v := ?_) (a' := ?_) #[true, true, true, true, true, true, false, false, false, false] rfl rfl (take_ofW HT_.out HW_.out (by kernel_rfl)) (fun _ _ _ h => h) (Or.inl ⟨by rfl, ?_⟩) hHeld ?_ ?_
          rotate_left
          · rintro w' ⟨s0, s1, s2⟩
            go_simp
            with_reducible rfl
          rotate_left
          · simp only [Act.put, List.setIfInBounds_toArray, List.set_cons_zero, List.set_cons_succ, i64_w, i32_w]
            rfl
          refine pure_ (i := 6) (N := some 47) (v := ?_) (a' := ?_) #[true, true, true, true, true, true, true, false, false, false] rfl rfl (any_of HT_.out (by kernel_rfl)) (fun _ _ _ h => h) (Or.inl ⟨by rfl, ?_⟩) ?_ ?_
          rotate_left
          · intro w'
            go_simp
            with_reducible rfl
          rotate_left
          · simp only [Act.put, List.setIfInBounds_toArray, List.set_cons_zero, List.set_cons_succ, i64_w, i32_w]
            rfl
          refine pure_ (i := 7) (N := some 48) (v := ?_) (a' := ?_) #[true, true, true, true, true, true, true, true, false, false] rfl rfl (any_of HT_.out (by kernel_rfl)) (fun _ _ _ h => h) (Or.inl ⟨by rfl, ?_⟩) ?_ ?_
          rotate_left
          · intro w'
            go_simp
            with_reducible rfl
          rotate_left
          · simp only [Act.put, List.setIfInBounds_toArray, List.set_cons_zero, List.set_cons_succ, i64_w, i32_w]
            rfl
          refine take_ (i := 8) (N := some 49) (v := ?_) (a' := ?_) #[true, true, true, true, true, true, true, true, true, false] rfl rfl (take_ofW HT_.out HW_.out (by kernel_rfl)) (fun _ _ _ h => h) (Or.inl ⟨by rfl, ?_⟩) hHeld ?_ ?_
          rotate_left
          · rintro w' ⟨s0, s1, s2⟩
            go_simp
            with_reducible rfl
          rotate_left
          · simp only [Act.put, List.setIfInBounds_toArray, List.set_cons_zero, List.set_cons_succ, i64_w, i32_w]
            rfl
          refine one_ (i := 9) (N := none) #[true, true, true, true, true, true, true, true, true, true] rfl rfl (one_of HT_.out (by kernel_rfl)) (by decide) (fun K hK => ?_)
          refine put_step (by rfl) (.tmp 44) (.tmp 45) (.tmp 49) 93 rfl Tryz.underlying3 Tryz.underlying93 bm st.met rfl (HM.out.met.keep rfl) x.1 t rfl rfl x.2 ⟨by have := HM.out.time; omega, HM.out.time.2⟩ ?_
          intro w2 hm2 hg2
          have HM2 := Aside0.mk ((HM.out.below HDD.out).putmet hm2 hg2)
          have HK2 := Aside0.mk ((KeepL.of_below HDD.out (Nat.le_refl _)).trans (keepL_grown (c := (MC.mk G bo bv bm (some ad) cd cv ld)) hg2 (MAt.bmS _) (Nat.le_refl _)))
          have HX2 := Aside0.mk (HX.out.keepL HK2.out (by have := HZ0.out; have := HM.out.size; omega) HSz.out)
          clear hm2 hg2
          refine hK.out _ _ ⟨(blk_cell HX2.out.b0 0).trans rfl, (blk_cell HM2.out.blk 3).trans rfl, (blk_cell HM2.out.blk 4).trans rfl⟩ (fun hHeld => ?_)
          clear hK K
          refine done_ (done_of HT_.out (by kernel_rfl)) ?_
          clear HT_ HW_ hHeld
          simp only [NoP, Act.put]
          have hq0 : w2.cell? ⟨w.heap.size, 0, none⟩ = some (.pointer (some ⟨G, 0, none⟩)) := (blk_cell HX2.out.b0 0).trans rfl
          have hq1 : w2.cell? ⟨G, 1, none⟩ = some (.map (some bo)) := (blk_cell HM2.out.blk 1).trans rfl
          have hq2 : w2.cell? ⟨w.heap.size + 1 + 1, 0, none⟩ = some (.int .i64 but) := (blk_cell HX2.out.b2 0).trans rfl
          have hq3 : w2.cell? ⟨w.heap.size + 1 + 1 + 1, 0, none⟩ = some (.int .i64 out) := (blk_cell HX2.out.b3 0).trans rfl
          cases ho : st.own x.1 with
          | none =>
            have HOw := Aside0.mk ho
            gi_wp2_with (gi_at_lookup; refine in_mgetok _ rfl _ _ 93 rfl Tryz.underlying3 Tryz.underlying93 zero3 bo st.own rfl HM2.out.own x.1 rfl x.2 ?_; simp only [ho, Option.getD_none, Option.isSome_none])
            all_goals first | (rename_i h1 h2; exact absurd h1 (by simp [undef])) | skip
            refine ⟨trivial, ?_⟩
            gi_wp2
            clear ho hq0 hq1 hq2 hq3
            refine startR (n := 7) (S := fun w' => w'.cell? ⟨w.heap.size, 0, none⟩ = some (.pointer (some ⟨G, 0, none⟩)) ∧ w'.cell? ⟨G, 1, none⟩ = some (.map (some bo)) ∧ w'.cell? ⟨w.heap.size + 1, 0, none⟩ = some (.int .i64 i)) (ds := []) #[false, false, false, false, false, false, false] (by kernel_rfl) (by kernel_rfl) rfl rfl ⟨(blk_cell HX2.out.b0 0).trans rfl, (blk_cell HM2.out.blk 1).trans rfl, (blk_cell HX2.out.b1 0).trans rfl⟩ (fun hHeld => ?_)
            refine with_tabW augment.tab7 augment.bits7 (fun HT_ HW_ => ?_)
            refine take_ (i := 0) (N := some 73) (v := ?_) (a' := ?_) #[true, false, false, false, false, false, false] rfl rfl (take_ofW HT_.out HW_.out (by kernel_rfl)) (fun _ _ _ h => h) (Or.inl ⟨by rfl, ?_⟩) hHeld ?_ ?_
            rotate_left
            · rintro w' ⟨s0, s1, s2⟩
              go_simp
              with_reducible rfl
            rotate_left
            · simp only [Act.put, List.setIfInBounds_toArray, List.set_cons_zero, List.set_cons_succ, i64_w, i32_w]
              rfl
            refine pure_ (i := 1) (N := some 74) (v := ?_) (a' := ?_) #[true, true, false, false, false, false, false] rfl rfl (any_of HT_.out (by kernel_rfl)) (fun _ _ _ h => h) (Or.inl ⟨by rfl, ?_⟩) ?_ ?_
            rotate_left
            · intro w'
              go_simp
              with_reducible rfl
            rotate_left
            · simp only [Act.put, List.setIfInBounds_toArray, List.set_cons_zero, List.set_cons_succ, i64_w, i32_w]
              rfl
            refine pure_ (i := 2) (N := some 75) (v := ?_) (a' := ?_) #[true, true, true, false, false, false, false] rfl rfl (any_of HT_.out (by kernel_rfl)) (fun _ _ _ h => h) (Or.inl ⟨by rfl, ?_⟩) ?_ ?_
            rotate_left
            · intro w'
              go_simp
              with_reducible rfl
            rotate_left
            · simp only [Act.put, List.setIfInBounds_toArray, List.set_cons_zero, List.set_cons_succ, i64_w, i32_w]
              rfl
            refine take_ (i := 3) (N := some 76) (v := ?_) (a' := ?_) #[true, true, true, true, false, false, false] rfl rfl (take_ofW HT_.out HW_.out (by kernel_rfl)) (fun _ _ _ h => h) (Or.inl ⟨by rfl, ?_⟩) hHeld ?_ ?_
            rotate_left
            · rintro w' ⟨s0, s1, s2⟩
              go_simp
              with_reducible rfl
            rotate_left
            · simp only [Act.put, List.setIfInBounds_toArray, List.set_cons_zero, List.set_cons_succ, i64_w, i32_w]
              rfl
            refine pure_ (i := 4) (N := some 77) (v := ?_) (a' := ?_) #[true, true, true, true, true, false, false] rfl rfl (any_of HT_.out (by kernel_rfl)) (fun _ _ _ h => h) (Or.inl ⟨by rfl, ?_⟩) ?_ ?_
            rotate_left
            · intro w'
              go_simp
              with_reducible rfl
            rotate_left
            · simp only [Act.put, List.setIfInBounds_toArray, List.set_cons_zero, List.set_cons_succ, i64_w, i32_w]
              rfl
            refine take_ (i := 5) (N := some 78) (v := ?_) (a' := ?_) #[true, true, true, true, true, true, false] rfl rfl (take_ofW HT_.out HW_.out (by kernel_rfl)) (fun _ _ _ h => h) (Or.inl ⟨by rfl, ?_⟩) hHeld ?_ ?_
            rotate_left
            · rintro w' ⟨s0, s1, s2⟩
              go_simp
              with_reducible rfl
            rotate_left
            · simp only [Act.put, List.setIfInBounds_toArray, List.set_cons_zero, List.set_cons_succ, i64_w, i32_w]
              rfl
            refine one_ (i := 6) (N := none) #[true, true, true, true, true, true, true] rfl rfl (one_of HT_.out (by kernel_rfl)) (by decide) (fun K hK => ?_)
            refine put_step (by rfl) (.tmp 76) (.tmp 77) (.tmp 78) 93 rfl Tryz.underlying3 Tryz.underlying93 bo st.own rfl (HM2.out.own.keep rfl) x.1 i rfl rfl x.2 ⟨by have := H01.out.1; omega, by have h1_ : i < (ld.length : Int) := H01.out.2; have h2_ : ld.length ≤ 1099511627776 := HM0.out.many; omega⟩ ?_
            intro w7 hm7 hg7
            have HD7 := Aside0.mk (below_drew1 (Below.refl w2.heap.size w2))
            have HM7 := Aside0.mk ((HM2.out.below HD7.out).putown H01.out.1 H01.out.2 hm7 hg7)
            have HK7 := Aside0.mk (HK2.out.trans ((KeepL.of_below HD7.out HK2.out.size).trans (keepL_grown (c := (MC.mk G bo bv bm (some ad) cd cv ld)) hg7 (MAt.boS _) HK2.out.size)))
            have HX7 := Aside0.mk (HX.out.keepL HK7.out (by have := HZ0.out; have := HM.out.size; omega) HSz.out)
            clear hm7 hg7
            refine hK.out _ _ ⟨(blk_cell HX7.out.b0 0).trans rfl, (blk_cell HM7.out.blk 1).trans rfl, (blk_cell HX7.out.b1 0).trans rfl⟩ (fun hHeld => ?_)
            clear hK K
            refine done_ (done_of HT_.out (by kernel_rfl)) ?_
            clear HT_ HW_ hHeld
            simp only [NoP, Act.put]
            gi_wp2
            have hq8 : w7.drew.cell? ⟨bv, i.toNat, none⟩ = some (.int .i64 (rd st.val i)) := ((HM7.out.below (below_drew1 (Below.refl _ _))).vcell i H01.out.1 H01.out.2).1
            have hf8 : w7.drew.frozen? ⟨bv, i.toNat, none⟩ = false := ((HM7.out.below (below_drew1 (Below.refl _ _))).vcell i H01.out.1 H01.out.2).2
            have p01 : (0 ≤ i) = True := eq_true H01.out.1
            have p02 : (i < (ld.length : Int)) = True := eq_true H01.out.2
            refine startR (n := 8) (S := fun w' => w'.cell? ⟨w.heap.size, 0, none⟩ = some (.pointer (some ⟨G, 0, none⟩)) ∧ w'.cell? ⟨G, 2, none⟩ = some (.slice (some ⟨bv, 0, none⟩) ld.length cv) ∧ w'.cell? ⟨w.heap.size + 1, 0, none⟩ = some (.int .i64 i)) (ds := []) #[false, false, false, false, false, false, false, false] (by kernel_rfl) (by kernel_rfl) rfl rfl ⟨(blk_cell HX7.out.b0 0).trans rfl, (blk_cell HM7.out.blk 2).trans rfl, (blk_cell HX7.out.b1 0).trans rfl⟩ (fun hHeld => ?_)
            refine with_tabW augment.tab8 augment.bits8 (fun HT_ HW_ => ?_)
            refine take_ (i := 0) (N := some 79) (v := ?_) (a' := ?_) #[true, false, false, false, false, false, false, false] rfl rfl (take_ofW HT_.out HW_.out (by kernel_rfl)) (fun _ _ _ h => h) (Or.inl ⟨by rfl, ?_⟩) hHeld ?_ ?_
            rotate_left
            · rintro w' ⟨s0, s1, s2⟩
              go_simp
              with_reducible rfl
            rotate_left
            · simp only [Act.put, List.setIfInBounds_toArray, List.set_cons_zero, List.set_cons_succ, i64_w, i32_w]
              rfl
            refine pure_ (i := 1) (N := some 80) (v := ?_) (a' := ?_) #[true, true, false, false, false, false, false, false] rfl rfl (any_of HT_.out (by kernel_rfl)) (fun _ _ _ h => h) (Or.inl ⟨by rfl, ?_⟩) ?_ ?_
            rotate_left
            · intro w'
              go_simp
              with_reducible rfl
            rotate_left
            · simp only [Act.put, List.setIfInBounds_toArray, List.set_cons_zero, List.set_cons_succ, i64_w, i32_w]
              rfl
            refine pure_ (i := 2) (N := some 81) (v := ?_) (a' := ?_) #[true, true, true, false, false, false, false, false] rfl rfl (any_of HT_.out (by kernel_rfl)) (fun _ _ _ h => h) (Or.inl ⟨by rfl, ?_⟩) ?_ ?_
            rotate_left
            · intro w'
              go_simp
              with_reducible rfl
            rotate_left
            · simp only [Act.put, List.setIfInBounds_toArray, List.set_cons_zero, List.set_cons_succ, i64_w, i32_w]
              rfl
            refine take_ (i := 3) (N := some 82) (v := ?_) (a' := ?_) #[true, true, true, true, false, false, false, false] rfl rfl (take_ofW HT_.out HW_.out (by kernel_rfl)) (fun _ _ _ h => h) (Or.inl ⟨by rfl, ?_⟩) hHeld ?_ ?_
            rotate_left
            · rintro w' ⟨s0, s1, s2⟩
              go_simp
              with_reducible rfl
            rotate_left
            · simp only [Act.put, List.setIfInBounds_toArray, List.set_cons_zero, List.set_cons_succ, i64_w, i32_w]
              rfl
            refine take_ (i := 4) (N := some 83) (v := ?_) (a' := ?_) #[true, true, true, true, true, false, false, false] rfl rfl (take_ofW HT_.out HW_.out (by kernel_rfl)) (fun _ _ _ h => h) (Or.inl ⟨by rfl, ?_⟩) hHeld ?_ ?_
            rotate_left
            · rintro w' ⟨s0, s1, s2⟩
              go_simp
              with_reducible rfl
            rotate_left
            · simp only [Act.put, List.setIfInBounds_toArray, List.set_cons_zero, List.set_cons_succ, i64_w, i32_w]
              rfl
            refine pure_ (i := 5) (N := some 84) (v := ?_) (a' := ?_) #[true, true, true, true, true, true, false, false] rfl rfl (any_of HT_.out (by kernel_rfl)) (fun _ _ _ h => h) (Or.inl ⟨by rfl, ?_⟩) ?_ ?_
            rotate_left
            · intro w'
              go_simp
              with_reducible rfl
            rotate_left
            · simp only [Act.put, List.setIfInBounds_toArray, List.set_cons_zero, List.set_cons_succ, i64_w, i32_w]
              rfl
            refine pure_ (i := 6) (N := some 85) (v := ?_) (a' := ?_) #[true, true, true, true, true, true, true, false] rfl rfl (any_of HT_.out (by kernel_rfl)) (fun _ _ _ h => h) (Or.inl ⟨by rfl, ?_⟩) ?_ ?_
            rotate_left
            · intro w'
              go_simp
              with_reducible rfl
            rotate_left
            · simp only [Act.put, List.setIfInBounds_toArray, List.set_cons_zero, List.set_cons_succ, i64_w, i32_w]
              rfl
            refine one_ (i := 7) (N := none) #[true, true, true, true, true, true, true, true] rfl rfl (one_of HT_.out (by kernel_rfl)) (by decide) (fun K hK => ?_)
            refine skip_ (w1 := w7.drew.setCell ⟨bv, i.toNat, none⟩ (.int .i64 x.1)) (by rfl) rfl ?_ ?_
            · first | (go_simp; done) | (go_simp; rfl)
            obtain ⟨w8, hw8⟩ : ∃ w8, w8 = w7.drew.setCell ⟨bv, i.toNat, none⟩ (.int .i64 x.1) := ⟨_, rfl⟩
            rw [← hw8]
            have HD8 := Aside0.mk (below_drew1 (Below.refl w7.heap.size w7))
            have HV8 : Aside0 (MAt (MC.mk G bo bv bm (some ad) cd cv ld) w'.heap.size t { own := upd st.own x.1 (some i), val := st.val.set i.toNat x.1, met := upd st.met x.1 (some t) } w8 ∧ w7.drew.grownBy w8 (some bv)) := ⟨by rw [hw8]; exact (HM7.out.below HD8.out).putval i x.1⟩
            clear hw8
            have HK8 := Aside0.mk (HK7.out.trans ((KeepL.of_below HD8.out HK7.out.size).trans (keepL_grown (c := (MC.mk G bo bv bm (some ad) cd cv ld)) HV8.out.2 (MAt.bvS _) HK7.out.size)))
            have HX8 := Aside0.mk (HX.out.keepL HK8.out (by have := HZ0.out; have := HM.out.size; omega) HSz.out)
            refine hK.out _ _ ⟨(blk_cell HX8.out.b0 0).trans rfl, (blk_cell HV8.out.1.blk 2).trans rfl, (blk_cell HX8.out.b1 0).trans rfl⟩ (fun hHeld => ?_)
            clear hK K
            refine done_ (done_of HT_.out (by kernel_rfl)) ?_
            clear HT_ HW_ hHeld
            simp only [NoP, Act.put]
            clear hq8 hf8 p01 p02
            have hc9 : w8.cell? ⟨w.heap.size + 1 + 1 + 1 + 1, 0, none⟩ = some (.bool false) := (blk_cell HX8.out.b4 0).trans rfl
            have hf9 : w8.frozen? ⟨w.heap.size + 1 + 1 + 1 + 1, 0, none⟩ = false := blk_frozen HX8.out.b4 0
            gi_wp2
            have HA9 := Aside0.mk (MAt.answered (n₀ := 0) HV8.out.1 HM0.out (HKp.out.trans (HK8.out.mono (Nat.le_trans HZ0.out.2 HM.out.size))) (z := w.heap.size + 1 + 1 + 1 + 1) (by omega) HV8.out.1.size true HZ0.out.2)
            exact ⟨(HK8.out.keepsFrom rfl (fun k e => Nat.lt_of_lt_of_le (HSz.out k e) HZ0.out.2)).trans ((KeepsOthers.setCell _ _ _).from _), rfl, _, by rw [List.map_append, augL_app, HSt.out]; show augL _ _ _ _ _ [x.1] st = _; simp only [augL]; rw [if_neg CN.out, HOw.out], HA9.out.1, HX8.out.answer true, HA9.out.2⟩
          | some j =>
            have HOw := Aside0.mk ho
            have HJ := Aside0.mk (HM.out.held x.1 j ho)
            by_cases c5 : j = but
            · have k5 : (j == but) = true := beq_iff_eq.mpr c5
              have C5 := Aside0.mk c5
              clear c5
              gi_wp2_with (gi_at_lookup; refine in_mgetok _ rfl _ _ 93 rfl Tryz.underlying3 Tryz.underlying93 zero3 bo st.own rfl HM2.out.own x.1 rfl x.2 ?_; simp only [ho, Option.getD_some, Option.isSome_some])
              refine ⟨trivial, ?_⟩
              gi_wp2
              exact ⟨HK2.out.keepsFrom rfl (fun k e => Nat.lt_of_lt_of_le (HSz.out k e) HZ0.out.2), HK2.out.mono HM.out.size, _, by rw [List.map_append, augL_app, HSt.out]; show augL _ _ _ _ _ [x.1] st = _; simp only [augL]; rw [if_neg CN.out, HOw.out]; show (if j = but then _ else _) = _; rw [if_pos C5.out], HM2.out, HX2.out, HKp.out.trans (HK2.out.mono (Nat.le_trans HZ0.out.2 HM.out.size))⟩
            · have k5 : (j == but) = false := beq_eq_false_iff_ne.mpr c5
              have C5 := Aside0.mk c5
              clear c5
              have hkeep := augL_keep (fun j s s2 h hh => aug_keep h hh) (pre.map (·.1)) s st HSt.out HH.out
              have hheld := hkeep.1 x.1 j ho (fun h => CN.out (.inl h))
              have HCn := Aside0.mk (Nat.lt_of_lt_of_le (cnt_mark (s := st) (t := t) (v := x.1) (fun h => CN.out (.inr h)) hheld.1 hheld.2.1 hheld.2.2) (Nat.le_trans hkeep.2 HK.out))
              have HHe := Aside0.mk (show Held but out { st with met := upd st.met x.1 (some t) } from hkeep.1)
              clear hkeep hheld
              obtain ⟨⟨s2, b⟩, hr⟩ := aug_some (D := D) kf j { st with met := upd st.met x.1 (some t) } HHe.out HCn.out
              have HR := Aside0.mk hr
              clear hr
              cases b with
              | false =>
                gi_wp2_with (first | (gi_at_lookup; refine in_mgetok _ rfl _ _ 93 rfl Tryz.underlying3 Tryz.underlying93 zero3 bo st.own rfl HM2.out.own x.1 rfl x.2 ?_; simp only [ho, Option.getD_some, Option.isSome_some]) | (refine ⟨trivial, ?_⟩; gi_at_call 58; refine (CallsIn.inRound _ (callsIn_wide.2 (IH.out j _ (s2, false) w2 HR.out HHe.out HCn.out HJ.out.1 HJ.out.2 (HM2.out.more HM2.out.size (Nat.le_refl _))))).mono ?_; rintro e w3 ⟨rfl, hm3, hk3⟩; have HM3 := Aside0.mk (hm3.less HM2.out (hk3.mono HM2.out.size)); have HK3 := Aside0.mk (HK2.out.trans (hk3.mono HK2.out.size)); have HX3 := Aside0.mk (HX2.out.keepL hk3 (by have := HZ0.out; have := HM2.out.size; omega) HSz.out); clear hm3 hk3))
                exact ⟨HK3.out.keepsFrom rfl (fun k e => Nat.lt_of_lt_of_le (HSz.out k e) HZ0.out.2), HK3.out.mono HM.out.size, _, by rw [List.map_append, augL_app, HSt.out]; show augL _ _ _ _ _ [x.1] st = _; simp only [augL]; rw [if_neg CN.out, HOw.out]; show (if j = but then _ else _) = _; rw [if_neg C5.out, HR.out], HM3.out, HX3.out, HKp.out.trans (HK3.out.mono (Nat.le_trans HZ0.out.2 HM.out.size))⟩
              | true =>
                gi_wp2_with (first | (gi_at_lookup; refine in_mgetok _ rfl _ _ 93 rfl Tryz.underlying3 Tryz.underlying93 zero3 bo st.own rfl HM2.out.own x.1 rfl x.2 ?_; simp only [ho, Option.getD_some, Option.isSome_some]) | (refine ⟨trivial, ?_⟩; gi_at_call 58; refine (CallsIn.inRound _ (callsIn_wide.2 (IH.out j _ (s2, true) w2 HR.out HHe.out HCn.out HJ.out.1 HJ.out.2 (HM2.out.more HM2.out.size (Nat.le_refl _))))).mono ?_; rintro e w3 ⟨rfl, hm3, hk3⟩; have HM3 := Aside0.mk (hm3.less HM2.out (hk3.mono HM2.out.size)); have HK3 := Aside0.mk (HK2.out.trans (hk3.mono HK2.out.size)); have HX3 := Aside0.mk (HX2.out.keepL hk3 (by have := HZ0.out; have := HM2.out.size; omega) HSz.out); clear hm3 hk3))
                clear ho hq0 hq1 hq2 hq3
                refine startR (n := 7) (S := fun w' => w'.cell? ⟨w.heap.size, 0, none⟩ = some (.pointer (some ⟨G, 0, none⟩)) ∧ w'.cell? ⟨G, 1, none⟩ = some (.map (some bo)) ∧ w'.cell? ⟨w.heap.size + 1, 0, none⟩ = some (.int .i64 i)) (ds := []) #[false, false, false, false, false, false, false] (by kernel_rfl) (by kernel_rfl) rfl rfl ⟨(blk_cell HX3.out.b0 0).trans rfl, (blk_cell HM3.out.blk 1).trans rfl, (blk_cell HX3.out.b1 0).trans rfl⟩ (fun hHeld => ?_)
                refine with_tabW augment.tab7 augment.bits7 (fun HT_ HW_ => ?_)
                refine take_ (i := 0) (N := some 73) (v := ?_) (a' := ?_) #[true, false, false, false, false, false, false] rfl rfl (take_ofW HT_.out HW_.out (by kernel_rfl)) (fun _ _ _ h => h) (Or.inl ⟨by rfl, ?_⟩) hHeld ?_ ?_
                rotate_left
                · rintro w' ⟨s0, s1, s2⟩
                  go_simp
                  with_reducible rfl
                rotate_left
                · simp only [Act.put, List.setIfInBounds_toArray, List.set_cons_zero, List.set_cons_succ, i64_w, i32_w]
                  rfl
                refine pure_ (i := 1) (N := some 74) (v := ?_) (a' := ?_) #[true, true, false, false, false, false, false] rfl rfl (any_of HT_.out (by kernel_rfl)) (fun _ _ _ h => h) (Or.inl ⟨by rfl, ?_⟩) ?_ ?_
                rotate_left
                · intro w'
                  go_simp
                  with_reducible rfl
                rotate_left
                · simp only [Act.put, List.setIfInBounds_toArray, List.set_cons_zero, List.set_cons_succ, i64_w, i32_w]
                  rfl
                refine pure_ (i := 2) (N := some 75) (v := ?_) (a' := ?_) #[true, true, true, false, false, false, false] rfl rfl (any_of HT_.out (by kernel_rfl)) (fun _ _ _ h => h) (Or.inl ⟨by rfl, ?_⟩) ?_ ?_
                rotate_left
                · intro w'
                  go_simp
                  with_reducible rfl
                rotate_left
                · simp only [Act.put, List.setIfInBounds_toArray, List.set_cons_zero, List.set_cons_succ, i64_w, i32_w]
                  rfl
                refine take_ (i := 3) (N := some 76) (v := ?_) (a' := ?_) #[true, true, true, true, false, false, false] rfl rfl (take_ofW HT_.out HW_.out (by kernel_rfl)) (fun _ _ _ h => h) (Or.inl ⟨by rfl, ?_⟩) hHeld ?_ ?_
                rotate_left
                · rintro w' ⟨s0, s1, s2⟩
                  go_simp
                  with_reducible rfl
                rotate_left
                · simp only [Act.put, List.setIfInBounds_toArray, List.set_cons_zero, List.set_cons_succ, i64_w, i32_w]
                  rfl
                refine pure_ (i := 4) (N := some 77) (v := ?_) (a' := ?_) #[true, true, true, true, true, false, false] rfl rfl (any_of HT_.out (by kernel_rfl)) (fun _ _ _ h => h) (Or.inl ⟨by rfl, ?_⟩) ?_ ?_
                rotate_left
                · intro w'
                  go_simp
                  with_reducible rfl
                rotate_left
                · simp only [Act.put, List.setIfInBounds_toArray, List.set_cons_zero, List.set_cons_succ, i64_w, i32_w]
                  rfl
                refine take_ (i := 5) (N := some 78) (v := ?_) (a' := ?_) #[true, true, true, true, true, true, false] rfl rfl (take_ofW HT_.out HW_.out (by kernel_rfl)) (fun _ _ _ h => h) (Or.inl ⟨by rfl, ?_⟩) hHeld ?_ ?_
                rotate_left
                · rintro w' ⟨s0, s1, s2⟩
                  go_simp
                  with_reducible rfl
                rotate_left
                · simp only [Act.put, List.setIfInBounds_toArray, List.set_cons_zero, List.set_cons_succ, i64_w, i32_w]
                  rfl
                refine one_ (i := 6) (N := none) #[true, true, true, true, true, true, true] rfl rfl (one_of HT_.out (by kernel_rfl)) (by decide) (fun K hK => ?_)
                refine put_step (by rfl) (.tmp 76) (.tmp 77) (.tmp 78) 93 rfl Tryz.underlying3 Tryz.underlying93 bo s2.own rfl (HM3.out.own.keep rfl) x.1 i rfl rfl x.2 ⟨by have := H01.out.1; omega, by have h1_ : i < (ld.length : Int) := H01.out.2; have h2_ : ld.length ≤ 1099511627776 := HM0.out.many; omega⟩ ?_
                intro w7 hm7 hg7
                have HD7 := Aside0.mk (below_drew1 (Below.refl w3.heap.size w3))
                have HM7 := Aside0.mk ((HM3.out.below HD7.out).putown H01.out.1 H01.out.2 hm7 hg7)
                have HK7 := Aside0.mk (HK3.out.trans ((KeepL.of_below HD7.out HK3.out.size).trans (keepL_grown (c := (MC.mk G bo bv bm (some ad) cd cv ld)) hg7 (MAt.boS _) HK3.out.size)))
                have HX7 := Aside0.mk (HX.out.keepL HK7.out (by have := HZ0.out; have := HM.out.size; omega) HSz.out)
                clear hm7 hg7
                refine hK.out _ _ ⟨(blk_cell HX7.out.b0 0).trans rfl, (blk_cell HM7.out.blk 1).trans rfl, (blk_cell HX7.out.b1 0).trans rfl⟩ (fun hHeld => ?_)
                clear hK K
                refine done_ (done_of HT_.out (by kernel_rfl)) ?_
                clear HT_ HW_ hHeld
                simp only [NoP, Act.put]
                gi_wp2
                have hq8 : w7.drew.cell? ⟨bv, i.toNat, none⟩ = some (.int .i64 (rd s2.val i)) := ((HM7.out.below (below_drew1 (Below.refl _ _))).vcell i H01.out.1 H01.out.2).1
                have hf8 : w7.drew.frozen? ⟨bv, i.toNat, none⟩ = false := ((HM7.out.below (below_drew1 (Below.refl _ _))).vcell i H01.out.1 H01.out.2).2
                have p01 : (0 ≤ i) = True := eq_true H01.out.1
                have p02 : (i < (ld.length : Int)) = True := eq_true H01.out.2
                refine startR (n := 8) (S := fun w' => w'.cell? ⟨w.heap.size, 0, none⟩ = some (.pointer (some ⟨G, 0, none⟩)) ∧ w'.cell? ⟨G, 2, none⟩ = some (.slice (some ⟨bv, 0, none⟩) ld.length cv) ∧ w'.cell? ⟨w.heap.size + 1, 0, none⟩ = some (.int .i64 i)) (ds := []) #[false, false, false, false, false, false, false, false] (by kernel_rfl) (by kernel_rfl) rfl rfl ⟨(blk_cell HX7.out.b0 0).trans rfl, (blk_cell HM7.out.blk 2).trans rfl, (blk_cell HX7.out.b1 0).trans rfl⟩ (fun hHeld => ?_)
                refine with_tabW augment.tab8 augment.bits8 (fun HT_ HW_ => ?_)
                refine take_ (i := 0) (N := some 79) (v := ?_) (a' := ?_) #[true, false, false, false, false, false, false, false] rfl rfl (take_ofW HT_.out HW_.out (by kernel_rfl)) (fun _ _ _ h => h) (Or.inl ⟨by rfl, ?_⟩) hHeld ?_ ?_
                rotate_left
                · rintro w' ⟨s0, s1, s2⟩
                  go_simp
                  with_reducible rfl
                rotate_left
                · simp only [Act.put, List.setIfInBounds_toArray, List.set_cons_zero, List.set_cons_succ, i64_w, i32_w]
                  rfl
                refine pure_ (i := 1) (N := some 80) (v := ?_) (a' := ?_) #[true, true, false, false, false, false, false, false] rfl rfl (any_of HT_.out (by kernel_rfl)) (fun _ _ _ h => h) (Or.inl ⟨by rfl, ?_⟩) ?_ ?_
                rotate_left
                · intro w'
                  go_simp
                  with_reducible rfl
                rotate_left
                · simp only [Act.put, List.setIfInBounds_toArray, List.set_cons_zero, List.set_cons_succ, i64_w, i32_w]
                  rfl
                refine pure_ (i := 2) (N := some 81) (v := ?_) (a' := ?_) #[true, true, true, false, false, false, false, false] rfl rfl (any_of HT_.out (by kernel_rfl)) (fun _ _ _ h => h) (Or.inl ⟨by rfl, ?_⟩) ?_ ?_
                rotate_left
                · intro w'
                  go_simp
                  with_reducible rfl
                rotate_left
                · simp only [Act.put, List.setIfInBounds_toArray, List.set_cons_zero, List.set_cons_succ, i64_w, i32_w]
                  rfl
                refine take_ (i := 3) (N := some 82) (v := ?_) (a' := ?_) #[true, true, true, true, false, false, false, false] rfl rfl (take_ofW HT_.out HW_.out (by kernel_rfl)) (fun _ _ _ h => h) (Or.inl ⟨by rfl, ?_⟩) hHeld ?_ ?_
                rotate_left
                · rintro w' ⟨s0, s1, s2⟩
                  go_simp
                  with_reducible rfl
                rotate_left
                · simp only [Act.put, List.setIfInBounds_toArray, List.set_cons_zero, List.set_cons_succ, i64_w, i32_w]
                  rfl
                refine take_ (i := 4) (N := some 83) (v := ?_) (a' := ?_) #[true, true, true, true, true, false, false, false] rfl rfl (take_ofW HT_.out HW_.out (by kernel_rfl)) (fun _ _ _ h => h) (Or.inl ⟨by rfl, ?_⟩) hHeld ?_ ?_
                rotate_left
                · rintro w' ⟨s0, s1, s2⟩
                  go_simp
                  with_reducible rfl
                rotate_left
                · simp only [Act.put, List.setIfInBounds_toArray, List.set_cons_zero, List.set_cons_succ, i64_w, i32_w]
                  rfl
                refine pure_ (i := 5) (N := some 84) (v := ?_) (a' := ?_) #[true, true, true, true, true, true, false, false] rfl rfl (any_of HT_.out (by kernel_rfl)) (fun _ _ _ h => h) (Or.inl ⟨by rfl, ?_⟩) ?_ ?_
                rotate_left
                · intro w'
                  go_simp
                  with_reducible rfl
                rotate_left
                · simp only [Act.put, List.setIfInBounds_toArray, List.set_cons_zero, List.set_cons_succ, i64_w, i32_w]
                  rfl
                refine pure_ (i := 6) (N := some 85) (v := ?_) (a' := ?_) #[true, true, true, true, true, true, true, false] rfl rfl (any_of HT_.out (by kernel_rfl)) (fun _ _ _ h => h) (Or.inl ⟨by rfl, ?_⟩) ?_ ?_
                rotate_left
                · intro w'
                  go_simp
                  with_reducible rfl
                rotate_left
                · simp only [Act.put, List.setIfInBounds_toArray, List.set_cons_zero, List.set_cons_succ, i64_w, i32_w]
                  rfl
                refine one_ (i := 7) (N := none) #[true, true, true, true, true, true, true, true] rfl rfl (one_of HT_.out (by kernel_rfl)) (by decide) (fun K hK => ?_)
                refine skip_ (w1 := w7.drew.setCell ⟨bv, i.toNat, none⟩ (.int .i64 x.1)) (by rfl) rfl ?_ ?_
                · first | (go_simp; done) | (go_simp; rfl)
                obtain ⟨w8, hw8⟩ : ∃ w8, w8 = w7.drew.setCell ⟨bv, i.toNat, none⟩ (.int .i64 x.1) := ⟨_, rfl⟩
                rw [← hw8]
                have HD8 := Aside0.mk (below_drew1 (Below.refl w7.heap.size w7))
                have HV8 : Aside0 (MAt (MC.mk G bo bv bm (some ad) cd cv ld) w'.heap.size t { own := upd s2.own x.1 (some i), val := s2.val.set i.toNat x.1, met := s2.met } w8 ∧ w7.drew.grownBy w8 (some bv)) := ⟨by rw [hw8]; exact (HM7.out.below HD8.out).putval i x.1⟩
                clear hw8
                have HK8 := Aside0.mk (HK7.out.trans ((KeepL.of_below HD8.out HK7.out.size).trans (keepL_grown (c := (MC.mk G bo bv bm (some ad) cd cv ld)) HV8.out.2 (MAt.bvS _) HK7.out.size)))
                have HX8 := Aside0.mk (HX.out.keepL HK8.out (by have := HZ0.out; have := HM.out.size; omega) HSz.out)
                refine hK.out _ _ ⟨(blk_cell HX8.out.b0 0).trans rfl, (blk_cell HV8.out.1.blk 2).trans rfl, (blk_cell HX8.out.b1 0).trans rfl⟩ (fun hHeld => ?_)
                clear hK K
                refine done_ (done_of HT_.out (by kernel_rfl)) ?_
                clear HT_ HW_ hHeld
                simp only [NoP, Act.put]
                clear hq8 hf8 p01 p02
                have hc9 : w8.cell? ⟨w.heap.size + 1 + 1 + 1 + 1, 0, none⟩ = some (.bool false) := (blk_cell HX8.out.b4 0).trans rfl
                have hf9 : w8.frozen? ⟨w.heap.size + 1 + 1 + 1 + 1, 0, none⟩ = false := blk_frozen HX8.out.b4 0
                gi_wp2
                have HA9 := Aside0.mk (MAt.answered (n₀ := 0) HV8.out.1 HM0.out (HKp.out.trans (HK8.out.mono (Nat.le_trans HZ0.out.2 HM.out.size))) (z := w.heap.size + 1 + 1 + 1 + 1) (by omega) HV8.out.1.size true HZ0.out.2)
                exact ⟨(HK8.out.keepsFrom rfl (fun k e => Nat.lt_of_lt_of_le (HSz.out k e) HZ0.out.2)).trans ((KeepsOthers.setCell _ _ _).from _), rfl, _, by rw [List.map_append, augL_app, HSt.out]; show augL _ _ _ _ _ [x.1] st = _; simp only [augL]; rw [if_neg CN.out, HOw.out]; show (if j = but then _ else _) = _; rw [if_neg C5.out, HR.out], HA9.out.1, HX8.out.answer true, HA9.out.2⟩
    · have k1 : (x.1 == out) = false := beq_eq_false_iff_ne.mpr c1
      have C1 := Aside0.mk c1
      clear c1
      by_cases c3 : (st.met x.1).getD 0 = t
      · have k3 : ((st.met x.1).getD 0 == t) = true := beq_iff_eq.mpr c3
        have C3 := Aside0.mk c3
        clear c3
        refine startR (n := 20) (S := fun w' => w'.cell? ⟨w.heap.size + 1 + 1 + 1, 0, none⟩ = some (.int .i64 out) ∧ w'.cell? ⟨w.heap.size + 1 + 1, 0, none⟩ = some (.int .i64 but) ∧ w'.cell? ⟨w.heap.size, 0, none⟩ = some (.pointer (some ⟨G, 0, none⟩)) ∧ w'.cell? ⟨G, 3, none⟩ = some (.map (some bm)) ∧ w'.cell? ⟨G, 4, none⟩ = some (.int .i64 t) ∧ IMap Tryz.prog w' bm st.met) (ds := []) #[false, false, false, false, false, false, false, false, false, false, false, false, false, false, false, false, false, false, false, false] (by kernel_rfl) (by kernel_rfl) rfl rfl ⟨(blk_cell HX.out.b3 0).trans rfl, (blk_cell HX.out.b2 0).trans rfl, (blk_cell HX.out.b0 0).trans rfl, (blk_cell HM.out.blk 3).trans rfl, (blk_cell HM.out.blk 4).trans rfl, HM.out.met.keep rfl⟩ (fun hHeld => ?_)
        refine with_tabW augment.tab3 augment.bits3 (fun HT_ HW_ => ?_)
        refine pure_ (i := 0) (N := some 21) (v := ?_) (a' := ?_) #[true, false, false, false, false, false, false, false, false, false, false, false, false, false, false, false, false, false, false, false] rfl rfl (any_of HT_.out (by kernel_rfl)) (fun _ _ _ h => h) (Or.inl ⟨by rfl, ?_⟩) ?_ ?_
        rotate_left
        · intro w'
          go_simp
          with_reducible rfl
        rotate_left
        · simp only [Act.put, List.setIfInBounds_toArray, List.set_cons_zero, List.set_cons_succ, i64_w, i32_w]
          rfl
        refine take_ (i := 1) (N := some 22) (v := ?_) (a' := ?_) #[true, true, false, false, false, false, false, false, false, false, false, false, false, false, false, false, false, false, false, false] rfl rfl (take_ofW HT_.out HW_.out (by kernel_rfl)) (fun _ _ _ h => h) (Or.inl ⟨by rfl, ?_⟩) hHeld ?_ ?_
        rotate_left
        · rintro w' ⟨s0, s1, s2, s3, s4, s5⟩
          go_simp
          with_reducible rfl
        rotate_left
        · simp only [Act.put, List.setIfInBounds_toArray, List.set_cons_zero, List.set_cons_succ, i64_w, i32_w]
          rfl
        refine pure_ (i := 2) (N := some 23) (v := ?_) (a' := ?_) #[true, true, true, false, false, false, false, false, false, false, false, false, false, false, false, false, false, false, false, false] rfl rfl (any_of HT_.out (by kernel_rfl)) (fun _ _ _ h => h) (Or.inl ⟨by rfl, ?_⟩) ?_ ?_
        rotate_left
        · intro w'
          go_simp
          with_reducible rfl
        rotate_left
        · simp only [Act.put, List.setIfInBounds_toArray, List.set_cons_zero, List.set_cons_succ, i64_w, i32_w]
          rfl
        refine pure_ (i := 3) (N := some 24) (v := ?_) (a' := ?_) #[true, true, true, true, false, false, false, false, false, false, false, false, false, false, false, false, false, false, false, false] rfl rfl (any_of HT_.out (by kernel_rfl)) (fun _ _ _ h => h) (Or.inl ⟨by rfl, ?_⟩) ?_ ?_
        rotate_left
        · intro w'
          go_simp
          with_reducible rfl
        rotate_left
        · simp only [Act.put, List.setIfInBounds_toArray, List.set_cons_zero, List.set_cons_succ, i64_w, i32_w]
          rfl
        refine pure_ (i := 4) (N := some 25) (v := undef) (a' := ?_) #[true, true, true, true, true, false, false, false, false, false, false, false, false, false, false, false, false, false, false, false] rfl rfl (any_of HT_.out (by kernel_rfl)) (fun _ _ _ h => h) (Or.inr ⟨by rfl, rfl⟩) ?_ ?_
        rotate_left
        · simp only [Act.put, List.setIfInBounds_toArray, List.set_cons_zero, List.set_cons_succ, i64_w, i32_w]
          rfl
        refine pure_ (i := 5) (N := some 26) (v := undef) (a' := ?_) #[true, true, true, true, true, true, false, false, false, false, false, false, false, false, false, false, false, false, false, false] rfl rfl (any_of HT_.out (by kernel_rfl)) (fun _ _ _ h => h) (Or.inr ⟨by rfl, rfl⟩) ?_ ?_
        rotate_left
        · simp only [Act.put, List.setIfInBounds_toArray, List.set_cons_zero, List.set_cons_succ, i64_w, i32_w]
          rfl
        refine pure_ (i := 6) (N := some 27) (v := ?_) (a' := ?_) #[true, true, true, true, true, true, true, false, false, false, false, false, false, false, false, false, false, false, false, false] rfl rfl (any_of HT_.out (by kernel_rfl)) (fun _ _ _ h => h) (Or.inl ⟨by rfl, ?_⟩) ?_ ?_
        rotate_left
        · intro w'
          go_simp
          with_reducible rfl
        rotate_left
        · simp only [Act.put, List.setIfInBounds_toArray, List.set_cons_zero, List.set_cons_succ, i64_w, i32_w]
          rfl
        refine pure_ (i := 7) (N := some 28) (v := ?_) (a' := ?_) #[true, true, true, true, true, true, true, true, false, false, false, false, false, false, false, false, false, false, false, false] rfl rfl (any_of HT_.out (by kernel_rfl)) (fun _ _ _ h => h) (Or.inl ⟨by rfl, ?_⟩) ?_ ?_
        rotate_left
        · intro w'
          go_simp
          with_reducible rfl
        rotate_left
        · simp only [Act.put, List.setIfInBounds_toArray, List.set_cons_zero, List.set_cons_succ, i64_w, i32_w]
          rfl
        refine take_ (i := 8) (N := some 29) (v := ?_) (a' := ?_) #[true, true, true, true, true, true, true, true, true, false, false, false, false, false, false, false, false, false, false, false] rfl rfl (take_ofW HT_.out HW_.out (by kernel_rfl)) (fun _ _ _ h => h) (Or.inl ⟨by rfl, ?_⟩) hHeld ?_ ?_
        rotate_left
        · rintro w' ⟨s0, s1, s2, s3, s4, s5⟩
          go_simp
          with_reducible rfl
        rotate_left
        · simp only [Act.put, List.setIfInBounds_toArray, List.set_cons_zero, List.set_cons_succ, i64_w, i32_w]
          rfl
        refine pure_ (i := 9) (N := some 30) (v := ?_) (a' := ?_) #[true, true, true, true, true, true, true, true, true, true, false, false, false, false, false, false, false, false, false, false] rfl rfl (any_of HT_.out (by kernel_rfl)) (fun _ _ _ h => h) (Or.inl ⟨by rfl, ?_⟩) ?_ ?_
        rotate_left
        · intro w'
          go_simp
          with_reducible rfl
        rotate_left
        · simp only [Act.put, List.setIfInBounds_toArray, List.set_cons_zero, List.set_cons_succ, i64_w, i32_w]
          rfl
        refine pure_ (i := 10) (N := some 31) (v := ?_) (a' := ?_) #[true, true, true, true, true, true, true, true, true, true, true, false, false, false, false, false, false, false, false, false] rfl rfl (any_of HT_.out (by kernel_rfl)) (fun _ _ _ h => h) (Or.inl ⟨by rfl, ?_⟩) ?_ ?_
        rotate_left
        · intro w'
          go_simp
          with_reducible rfl
        rotate_left
        · simp only [Act.put, List.setIfInBounds_toArray, List.set_cons_zero, List.set_cons_succ, i64_w, i32_w]
          rfl
        refine take_ (i := 11) (N := some 32) (v := ?_) (a' := ?_) #[true, true, true, true, true, true, true, true, true, true, true, true, false, false, false, false, false, false, false, false] rfl rfl (take_ofW HT_.out HW_.out (by kernel_rfl)) (fun _ _ _ h => h) (Or.inl ⟨by rfl, ?_⟩) hHeld ?_ ?_
        rotate_left
        · rintro w' ⟨s0, s1, s2, s3, s4, s5⟩
          go_simp
          with_reducible rfl
        rotate_left
        · simp only [Act.put, List.setIfInBounds_toArray, List.set_cons_zero, List.set_cons_succ, i64_w, i32_w]
          rfl
        refine pure_ (i := 12) (N := some 33) (v := ?_) (a' := ?_) #[true, true, true, true, true, true, true, true, true, true, true, true, true, false, false, false, false, false, false, false] rfl rfl (any_of HT_.out (by kernel_rfl)) (fun _ _ _ h => h) (Or.inl ⟨by rfl, ?_⟩) ?_ ?_
        rotate_left
        · intro w'
          go_simp
          with_reducible rfl
        rotate_left
        · simp only [Act.put, List.setIfInBounds_toArray, List.set_cons_zero, List.set_cons_succ, i64_w, i32_w]
          rfl
        refine take_ (i := 13) (N := some 34) (v := ?_) (a' := ?_) #[true, true, true, true, true, true, true, true, true, true, true, true, true, true, false, false, false, false, false, false] rfl rfl (take_ofW HT_.out HW_.out (by kernel_rfl)) (fun _ _ _ h => h) (Or.inl ⟨by rfl, ?_⟩) hHeld ?_ ?_
        rotate_left
        · rintro w' ⟨s0, s1, s2, s3, s4, s5⟩
          have e_ := s5.run_get 93 Tryz.underlying3 Tryz.underlying93 zero3 x.1 x.2
          go_simp
          with_reducible rfl
        rotate_left
        · simp only [Act.put, List.setIfInBounds_toArray, List.set_cons_zero, List.set_cons_succ, i64_w, i32_w]
          rfl
        refine take_ (i := 14) (N := some 35) (v := ?_) (a' := ?_) #[true, true, true, true, true, true, true, true, true, true, true, true, true, true, true, false, false, false, false, false] rfl rfl (take_ofW HT_.out HW_.out (by kernel_rfl)) (fun _ _ _ h => h) (Or.inl ⟨by rfl, ?_⟩) hHeld ?_ ?_
        rotate_left
        · rintro w' ⟨s0, s1, s2, s3, s4, s5⟩
          go_simp
          with_reducible rfl
        rotate_left
        · simp only [Act.put, List.setIfInBounds_toArray, List.set_cons_zero, List.set_cons_succ, i64_w, i32_w]
          rfl
        refine pure_ (i := 15) (N := some 36) (v := ?_) (a' := ?_) #[true, true, true, true, true, true, true, true, true, true, true, true, true, true, true, true, false, false, false, false] rfl rfl (any_of HT_.out (by kernel_rfl)) (fun _ _ _ h => h) (Or.inl ⟨by rfl, ?_⟩) ?_ ?_
        rotate_left
        · intro w'
          go_simp
          with_reducible rfl
        rotate_left
        · simp only [Act.put, List.setIfInBounds_toArray, List.set_cons_zero, List.set_cons_succ, i64_w, i32_w]
          rfl
        refine pure_ (i := 16) (N := some 37) (v := ?_) (a' := ?_) #[true, true, true, true, true, true, true, true, true, true, true, true, true, true, true, true, true, false, false, false] rfl rfl (any_of HT_.out (by kernel_rfl)) (fun _ _ _ h => h) (Or.inl ⟨by rfl, ?_⟩) ?_ ?_
        rotate_left
        · intro w'
          go_simp
          with_reducible rfl
        rotate_left
        · simp only [Act.put, List.setIfInBounds_toArray, List.set_cons_zero, List.set_cons_succ, i64_w, i32_w]
          rfl
        refine take_ (i := 17) (N := some 38) (v := ?_) (a' := ?_) #[true, true, true, true, true, true, true, true, true, true, true, true, true, true, true, true, true, true, false, false] rfl rfl (take_ofW HT_.out HW_.out (by kernel_rfl)) (fun _ _ _ h => h) (Or.inl ⟨by rfl, ?_⟩) hHeld ?_ ?_
        rotate_left
        · rintro w' ⟨s0, s1, s2, s3, s4, s5⟩
          go_simp
          with_reducible rfl
        rotate_left
        · simp only [Act.put, List.setIfInBounds_toArray, List.set_cons_zero, List.set_cons_succ, i64_w, i32_w]
          rfl
        refine pure_ (i := 18) (N := some 39) (v := ?_) (a' := ?_) #[true, true, true, true, true, true, true, true, true, true, true, true, true, true, true, true, true, true, true, false] rfl rfl (any_of HT_.out (by kernel_rfl)) (fun _ _ _ h => h) (Or.inl ⟨by rfl, ?_⟩) ?_ ?_
        rotate_left
        · intro w'
          go_simp
          with_reducible rfl
        rotate_left
        · simp only [Act.put, List.setIfInBounds_toArray, List.set_cons_zero, List.set_cons_succ, i64_w, i32_w]
          rfl
        refine pure_ (i := 19) (N := some 40) (v := ?_) (a' := ?_) #[true, true, true, true, true, true, true, true, true, true, true, true, true, true, true, true, true, true, true, true] rfl rfl (any_of HT_.out (by kernel_rfl)) (fun _ _ _ h => h) (Or.inl ⟨by rfl, ?_⟩) ?_ ?_
        rotate_left
        · intro w'
          go_simp
          with_reducible rfl
        rotate_left
        · simp only [Act.put, List.setIfInBounds_toArray, List.set_cons_zero, List.set_cons_succ, i64_w, i32_w]
          rfl
        refine done_ (done_of HT_.out (by kernel_rfl)) ?_
        clear HT_ HW_ hHeld
        simp only [NoP]
        gi_wp2
        exact ⟨(KeepL.of_below (S := (MC.mk G bo bv bm (some ad) cd cv ld).S) HDW.out (Nat.le_refl _)).keepsFrom rfl (fun k e => Nat.lt_of_lt_of_le (HSz.out k e) HZ0.out.2), (KeepL.of_below (S := (MC.mk G bo bv bm (some ad) cd cv ld).S) HDW.out (Nat.le_refl _)).mono HM.out.size, st, by rw [List.map_append, augL_app, HSt.out]; show augL _ _ _ _ _ [x.1] st = _; simp only [augL]; rw [if_pos (.inr C3.out)], HM.out.below HDW.out, HX.out.below HDW.out, HKp.out.trans ((KeepL.of_below (S := (MC.mk G bo bv bm (some ad) cd cv ld).S) HDW.out (Nat.le_refl _)).mono (Nat.le_trans HZ0.out.2 HM.out.size))⟩
      · have k3 : ((st.met x.1).getD 0 == t) = false := beq_eq_false_iff_ne.mpr c3
        have CN : Aside0 (¬ ((x.1 = out ∧ 0 ≤ but) ∨ (st.met x.1).getD 0 = t)) := ⟨fun h => h.elim (fun h => C1.out h.1) c3⟩
        clear c3
        refine startR (n := 20) (S := fun w' => w'.cell? ⟨w.heap.size + 1 + 1 + 1, 0, none⟩ = some (.int .i64 out) ∧ w'.cell? ⟨w.heap.size + 1 + 1, 0, none⟩ = some (.int .i64 but) ∧ w'.cell? ⟨w.heap.size, 0, none⟩ = some (.pointer (some ⟨G, 0, none⟩)) ∧ w'.cell? ⟨G, 3, none⟩ = some (.map (some bm)) ∧ w'.cell? ⟨G, 4, none⟩ = some (.int .i64 t) ∧ IMap Tryz.prog w' bm st.met) (ds := []) #[false, false, false, false, false, false, false, false, false, false, false, false, false, false, false, false, false, false, false, false] (by kernel_rfl) (by kernel_rfl) rfl rfl ⟨(blk_cell HX.out.b3 0).trans rfl, (blk_cell HX.out.b2 0).trans rfl, (blk_cell HX.out.b0 0).trans rfl, (blk_cell HM.out.blk 3).trans rfl, (blk_cell HM.out.blk 4).trans rfl, HM.out.met.keep rfl⟩ (fun hHeld => ?_)
        refine with_tabW augment.tab3 augment.bits3 (fun HT_ HW_ => ?_)
        refine pure_ (i := 0) (N := some 21) (v := ?_) (a' := ?_) #[true, false, false, false, false, false, false, false, false, false, false, false, false, false, false, false, false, false, false, false] rfl rfl (any_of HT_.out (by kernel_rfl)) (fun _ _ _ h => h) (Or.inl ⟨by rfl, ?_⟩) ?_ ?_
        rotate_left
        · intro w'
          go_simp
          with_reducible rfl
        rotate_left
        · simp only [Act.put, List.setIfInBounds_toArray, List.set_cons_zero, List.set_cons_succ, i64_w, i32_w]
          rfl
        refine take_ (i := 1) (N := some 22) (v := ?_) (a' := ?_) #[true, true, false, false, false, false, false, false, false, false, false, false, false, false, false, false, false, false, false, false] rfl rfl (take_ofW HT_.out HW_.out (by kernel_rfl)) (fun _ _ _ h => h) (Or.inl ⟨by rfl, ?_⟩) hHeld ?_ ?_
        rotate_left
        · rintro w' ⟨s0, s1, s2, s3, s4, s5⟩
          go_simp
          with_reducible rfl
        rotate_left
        · simp only [Act.put, List.setIfInBounds_toArray, List.set_cons_zero, List.set_cons_succ, i64_w, i32_w]
          rfl
        refine pure_ (i := 2) (N := some 23) (v := ?_) (a' := ?_) #[true, true, true, false, false, false, false, false, false, false, false, false, false, false, false, false, false, false, false, false] rfl rfl (any_of HT_.out (by kernel_rfl)) (fun _ _ _ h => h) (Or.inl ⟨by rfl, ?_⟩) ?_ ?_
        rotate_left
        · intro w'
          go_simp
          with_reducible rfl
        rotate_left
        · simp only [Act.put, List.setIfInBounds_toArray, List.set_cons_zero, List.set_cons_succ, i64_w, i32_w]
          rfl
        refine pure_ (i := 3) (N := some 24) (v := ?_) (a' := ?_) #[true, true, true, true, false, false, false, false, false, false, false, false, false, false, false, false, false, false, false, false] rfl rfl (any_of HT_.out (by kernel_rfl)) (fun _ _ _ h => h) (Or.inl ⟨by rfl, ?_⟩) ?_ ?_
        rotate_left
        · intro w'
          go_simp
          with_reducible rfl
        rotate_left
        · simp only [Act.put, List.setIfInBounds_toArray, List.set_cons_zero, List.set_cons_succ, i64_w, i32_w]
          rfl
        refine pure_ (i := 4) (N := some 25) (v := undef) (a' := ?_) #[true, true, true, true, true, false, false, false, false, false, false, false, false, false, false, false, false, false, false, false] rfl rfl (any_of HT_.out (by kernel_rfl)) (fun _ _ _ h => h) (Or.inr ⟨by rfl, rfl⟩) ?_ ?_
        rotate_left
        · simp only [Act.put, List.setIfInBounds_toArray, List.set_cons_zero, List.set_cons_succ, i64_w, i32_w]
          rfl
        refine pure_ (i := 5) (N := some 26) (v := undef) (a' := ?_) #[true, true, true, true, true, true, false, false, false, false, false, false, false, false, false, false, false, false, false, false] rfl rfl (any_of HT_.out (by kernel_rfl)) (fun _ _ _ h => h) (Or.inr ⟨by rfl, rfl⟩) ?_ ?_
        rotate_left
        · simp only [Act.put, List.setIfInBounds_toArray, List.set_cons_zero, List.set_cons_succ, i64_w, i32_w]
          rfl
        refine pure_ (i := 6) (N := some 27) (v := ?_) (a' := ?_) #[true, true, true, true, true, true, true, false, false, false, false, false, false, false, false, false, false, false, false, false] rfl rfl (any_of HT_.out (by kernel_rfl)) (fun _ _ _ h => h) (Or.inl ⟨by rfl, ?_⟩) ?_ ?_
        rotate_left
        · intro w'
          go_simp
          with_reducible rfl
        rotate_left
        · simp only [Act.put, List.setIfInBounds_toArray, List.set_cons_zero, List.set_cons_succ, i64_w, i32_w]
          rfl
        refine pure_ (i := 7) (N := some 28) (v := ?_) (a' := ?_) #[true, true, true, true, true, true, true, true, false, false, false, false, false, false, false, false, false, false, false, false] rfl rfl (any_of HT_.out (by kernel_rfl)) (fun _ _ _ h => h) (Or.inl ⟨by rfl, ?_⟩) ?_ ?_
        rotate_left
        · intro w'
          go_simp
          with_reducible rfl
        rotate_left
        · simp only [Act.put, List.setIfInBounds_toArray, List.set_cons_zero, List.set_cons_succ, i64_w, i32_w]
          rfl
        refine take_ (i := 8) (N := some 29) (v := ?_) (a' := ?_) #[true, true, true, true, true, true, true, true, true, false, false, false, false, false, false, false, false, false, false, false] rfl rfl (take_ofW HT_.out HW_.out (by kernel_rfl)) (fun _ _ _ h => h) (Or.inl ⟨by rfl, ?_⟩) hHeld ?_ ?_
        rotate_left
        · rintro w' ⟨s0, s1, s2, s3, s4, s5⟩
          go_simp
          with_reducible rfl
        rotate_left
        · simp only [Act.put, List.setIfInBounds_toArray, List.set_cons_zero, List.set_cons_succ, i64_w, i32_w]
          rfl
        refine pure_ (i := 9) (N := some 30) (v := ?_) (a' := ?_) #[true, true, true, true, true, true, true, true, true, true, false, false, false, false, false, false, false, false, false, false] rfl rfl (any_of HT_.out (by kernel_rfl)) (fun _ _ _ h => h) (Or.inl ⟨by rfl, ?_⟩) ?_ ?_
        rotate_left
        · intro w'
          go_simp
          with_reducible rfl
        rotate_left
        · simp only [Act.put, List.setIfInBounds_toArray, List.set_cons_zero, List.set_cons_succ, i64_w, i32_w]
          rfl
        refine pure_ (i := 10) (N := some 31) (v := ?_) (a' := ?_) #[true, true, true, true, true, true, true, true, true, true, true, false, false, false, false, false, false, false, false, false] rfl rfl (any_of HT_.out (by kernel_rfl)) (fun _ _ _ h => h) (Or.inl ⟨by rfl, ?_⟩) ?_ ?_
        rotate_left
        · intro w'
          go_simp
          with_reducible rfl
        rotate_left
        · simp only [Act.put, List.setIfInBounds_toArray, List.set_cons_zero, List.set_cons_succ, i64_w, i32_w]
          rfl
        refine take_ (i := 11) (N := some 32) (v := ?_) (a' := ?_) #[true, true, true, true, true, true, true, true, true, true, true, true, false, false, false, false, false, false, false, false] rfl rfl (take_ofW HT_.out HW_.out (by kernel_rfl)) (fun _ _ _ h => h) (Or.inl ⟨by rfl, ?_⟩) hHeld ?_ ?_
        rotate_left
        · rintro w' ⟨s0, s1, s2, s3, s4, s5⟩
          go_simp
          with_reducible rfl
        rotate_left
        · simp only [Act.put, List.setIfInBounds_toArray, List.set_cons_zero, List.set_cons_succ, i64_w, i32_w]
          rfl
        refine pure_ (i := 12) (N := some 33) (v := ?_) (a' := ?_) #[true, true, true, true, true, true, true, true, true, true, true, true, true, false, false, false, false, false, false, false] rfl rfl (any_of HT_.out (by kernel_rfl)) (fun _ _ _ h => h) (Or.inl ⟨by rfl, ?_⟩) ?_ ?_
        rotate_left
        · intro w'
          go_simp
          with_reducible rfl
        rotate_left
        · simp only [Act.put, List.setIfInBounds_toArray, List.set_cons_zero, List.set_cons_succ, i64_w, i32_w]
          rfl
        refine take_ (i := 13) (N := some 34) (v := ?_) (a' := ?_) #[true, true, true, true, true, true, true, true, true, true, true, true, true, true, false, false, false, false, false, false] rfl rfl (take_ofW HT_.out HW_.out (by kernel_rfl)) (fun _ _ _ h => h) (Or.inl ⟨by rfl, ?_⟩) hHeld ?_ ?_
        rotate_left
        · rintro w' ⟨s0, s1, s2, s3, s4, s5⟩
          have e_ := s5.run_get 93 Tryz.underlying3 Tryz.underlying93 zero3 x.1 x.2
          go_simp
          with_reducible rfl
        rotate_left
        · simp only [Act.put, List.setIfInBounds_toArray, List.set_cons_zero, List.set_cons_succ, i64_w, i32_w]
          rfl
        refine take_ (i := 14) (N := some 35) (v := ?_) (a' := ?_) #[true, true, true, true, true, true, true, true, true, true, true, true, true, true, true, false, false, false, false, false] rfl rfl (take_ofW HT_.out HW_.out (by kernel_rfl)) (fun _ _ _ h => h) (Or.inl ⟨by rfl, ?_⟩) hHeld ?_ ?_
        rotate_left
        · rintro w' ⟨s0, s1, s2, s3, s4, s5⟩
          go_simp
          with_reducible rfl
        rotate_left
        · simp only [Act.put, List.setIfInBounds_toArray, List.set_cons_zero, List.set_cons_succ, i64_w, i32_w]
          rfl
        refine pure_ (i := 15) (N := some 36) (v := ?_) (a' := ?_) #[true, true, true, true, true, true, true, true, true, true, true, true, true, true, true, true, false, false, false, false] rfl rfl (any_of HT_.out (by kernel_rfl)) (fun _ _ _ h => h) (Or.inl ⟨by rfl, ?_⟩) ?_ ?_
        rotate_left
        · intro w'
          go_simp
          with_reducible rfl
        rotate_left
        · simp only [Act.put, List.setIfInBounds_toArray, List.set_cons_zero, List.set_cons_succ, i64_w, i32_w]
          rfl
        refine pure_ (i := 16) (N := some 37) (v := ?_) (a' := ?_) #[true, true, true, true, true, true, true, true, true, true, true, true, true, true, true, true, true, false, false, false] rfl rfl (any_of HT_.out (by kernel_rfl)) (fun _ _ _ h => h) (Or.inl ⟨by rfl, ?_⟩) ?_ ?_
        rotate_left
        · intro w'
          go_simp
          with_reducible rfl
        rotate_left
        · simp only [Act.put, List.setIfInBounds_toArray, List.set_cons_zero, List.set_cons_succ, i64_w, i32_w]
          rfl
        refine take_ (i := 17) (N := some 38) (v := ?_) (a' := ?_) #[true, true, true, true, true, true, true, true, true, true, true, true, true, true, true, true, true, true, false, false] rfl rfl (take_ofW HT_.out HW_.out (by kernel_rfl)) (fun _ _ _ h => h) (Or.inl ⟨by rfl, ?_⟩) hHeld ?_ ?_
        rotate_left
        · rintro w' ⟨s0, s1, s2, s3, s4, s5⟩
          go_simp
          with_reducible rfl
        rotate_left
        · simp only [Act.put, List.setIfInBounds_toArray, List.set_cons_zero, List.set_cons_succ, i64_w, i32_w]
          rfl
        refine pure_ (i := 18) (N := some 39) (v := ?_) (a' := ?_) #[true, true, true, true, true, true, true, true, true, true, true, true, true, true, true, true, true, true, true, false] rfl rfl (any_of HT_.out (by kernel_rfl)) (fun _ _ _ h => h) (Or.inl ⟨by rfl, ?_⟩) ?_ ?_
        rotate_left
        · intro w'
          go_simp
          with_reducible rfl
        rotate_left
        · simp only [Act.put, List.setIfInBounds_toArray, List.set_cons_zero, List.set_cons_succ, i64_w, i32_w]
          rfl
        refine pure_ (i := 19) (N := some 40) (v := ?_) (a' := ?_) #[true, true, true, true, true, true, true, true, true, true, true, true, true, true, true, true, true, true, true, true] rfl rfl (any_of HT_.out (by kernel_rfl)) (fun _ _ _ h => h) (Or.inl ⟨by rfl, ?_⟩) ?_ ?_
        rotate_left
        · intro w'
          go_simp
          with_reducible rfl
        rotate_left
        · simp only [Act.put, List.setIfInBounds_toArray, List.set_cons_zero, List.set_cons_succ, i64_w, i32_w]
          rfl
        refine done_ (done_of HT_.out (by kernel_rfl)) ?_
        clear HT_ HW_ hHeld
        simp only [NoP]
        gi_wp2
        refine startR (n := 10) (S := fun w' => w'.cell? ⟨w.heap.size, 0, none⟩ = some (.pointer (some ⟨G, 0, none⟩)) ∧ w'.cell? ⟨G, 3, none⟩ = some (.map (some bm)) ∧ w'.cell? ⟨G, 4, none⟩ = some (.int .i64 t)) (ds := []) #[false, false, false, false, false, false, false, false, false, false] (by kernel_rfl) (by kernel_rfl) rfl rfl ⟨(blk_cell HX.out.b0 0).trans rfl, (blk_cell HM.out.blk 3).trans rfl, (blk_cell HM.out.blk 4).trans rfl⟩ (fun hHeld => ?_)
        refine with_tabW augment.tab4 augment.bits4 (fun HT_ HW_ => ?_)
        refine take_ (i := 0) (N := some 41) (v := ?_) (a' := ?_) #[true, false, false, false, false, false, false, false, false, false] rfl rfl (take_ofW HT_.out HW_.out (by kernel_rfl)) (fun _ _ _ h => h) (Or.inl ⟨by rfl, ?_⟩) hHeld ?_ ?_
        rotate_left
        · rintro w' ⟨s0, s1, s2⟩
          go_simp
          with_reducible rfl
        rotate_left
        · simp only [Act.put, List.setIfInBounds_toArray, List.set_cons_zero, List.set_cons_succ, i64_w, i32_w]
          rfl
        refine pure_ (i := 1) (N := some 42) (v := ?_) (a' := ?_) #[true, true, false, false, false, false, false, false, false, false] rfl rfl (any_of HT_.out (by kernel_rfl)) (fun _ _ _ h => h) (Or.inl ⟨by rfl, ?_⟩) ?_ ?_
        rotate_left
        · intro w'
          go_simp
          with_reducible rfl
        rotate_left
        · simp only [Act.put, List.setIfInBounds_toArray, List.set_cons_zero, List.set_cons_succ, i64_w, i32_w]
          rfl
        refine pure_ (i := 2) (N := some 43) (v := ?_) (a' := ?_) #[true, true, true, false, false, false, false, false, false, false] rfl rfl (any_of HT_.out (by kernel_rfl)) (fun _ _ _ h => h) (Or.inl ⟨by rfl, ?_⟩) ?_ ?_
        rotate_left
        · intro w'
          go_simp
          with_reducible rfl
        rotate_left
        · simp only [Act.put, List.setIfInBounds_toArray, List.set_cons_zero, List.set_cons_succ, i64_w, i32_w]
          rfl
        refine take_ (i := 3) (N := some 44) (v := ?_) (a' := ?_) #[true, true, true, true, false, false, false, false, false, false] rfl rfl (take_ofW HT_.out HW_.out (by kernel_rfl)) (fun _ _ _ h => h) (Or.inl ⟨by rfl, ?_⟩) hHeld ?_ ?_
        rotate_left
        · rintro w' ⟨s0, s1, s2⟩
          go_simp
          with_reducible rfl
        rotate_left
        · simp only [Act.put, List.setIfInBounds_toArray, List.set_cons_zero, List.set_cons_succ, i64_w, i32_w]
          rfl
        refine pure_ (i := 4) (N := some 45) (v := ?_) (a' := ?_) #[true, true, true, true, true, false, false, false, false, false] rfl rfl (any_of HT_.out (by kernel_rfl)) (fun _ _ _ h => h) (Or.inl ⟨by rfl, ?_⟩) ?_ ?_
        rotate_left
        · intro w'
          go_simp
          with_reducible rfl
        rotate_left
        · simp only [Act.put, List.setIfInBounds_toArray, List.set_cons_zero, List.set_cons_succ, i64_w, i32_w]
          rfl
        refine take_ (i := 5) (N := some 46) (v := ?_) (a' := ?_) #[true, true, true, true, true, true, false, false, false, false] rfl rfl (take_ofW HT_.out HW_.out (by kernel_rfl)) (fun _ _ _ h => h) (Or.inl ⟨by rfl, ?_⟩) hHeld ?_ ?_
        rotate_left
        · rintro w' ⟨s0, s1, s2⟩
          go_simp
          with_reducible rfl
        rotate_left
        · simp only [Act.put, List.setIfInBounds_toArray, List.set_cons_zero, List.set_cons_succ, i64_w, i32_w]
          rfl
        refine pure_ (i := 6) (N := some 47) (v := ?_) (a' := ?_) #[true, true, true, true, true, true, true, false, false, false] rfl rfl (any_of HT_.out (by kernel_rfl)) (fun _ _ _ h => h) (Or.inl ⟨by rfl, ?_⟩) ?_ ?_
        rotate_left
        · intro w'
          go_simp
          with_reducible rfl
        rotate_left
        · simp only [Act.put, List.setIfInBounds_toArray, List.set_cons_zero, List.set_cons_succ, i64_w, i32_w]
          rfl
        refine pure_ (i := 7) (N := some 48) (v := ?_) (a' := ?_) #[true, true, true, true, true, true, true, true, false, false] rfl rfl (any_of HT_.out (by kernel_rfl)) (fun _ _ _ h => h) (Or.inl ⟨by rfl, ?_⟩) ?_ ?_
        rotate_left
        · intro w'
          go_simp
          with_reducible rfl
        rotate_left
        · simp only [Act.put, List.setIfInBounds_toArray, List.set_cons_zero, List.set_cons_succ, i64_w, i32_w]
          rfl
        refine take_ (i := 8) (N := some 49) (v := ?_) (a' := ?_) #[true, true, true, true, true, true, true, true, true, false] rfl rfl (take_ofW HT_.out HW_.out (by kernel_rfl)) (fun _ _ _ h => h) (Or.inl ⟨by rfl, ?_⟩) hHeld ?_ ?_
        rotate_left
        · rintro w' ⟨s0, s1, s2⟩
          go_simp
          with_reducible rfl
        rotate_left
        · simp only [Act.put, List.setIfInBounds_toArray, List.set_cons_zero, List.set_cons_succ, i64_w, i32_w]
          rfl
        refine one_ (i := 9) (N := none) #[true, true, true, true, true, true, true, true, true, true] rfl rfl (one_of HT_.out (by kernel_rfl)) (by decide) (fun K hK => ?_)
        refine put_step (by rfl) (.tmp 44) (.tmp 45) (.tmp 49) 93 rfl Tryz.underlying3 Tryz.underlying93 bm st.met rfl (HM.out.met.keep rfl) x.1 t rfl rfl x.2 ⟨by have := HM.out.time; omega, HM.out.time.2⟩ ?_
        intro w2 hm2 hg2
        have HM2 := Aside0.mk ((HM.out.below HDD.out).putmet hm2 hg2)
        have HK2 := Aside0.mk ((KeepL.of_below HDD.out (Nat.le_refl _)).trans (keepL_grown (c := (MC.mk G bo bv bm (some ad) cd cv ld)) hg2 (MAt.bmS _) (Nat.le_refl _)))
        have HX2 := Aside0.mk (HX.out.keepL HK2.out (by have := HZ0.out; have := HM.out.size; omega) HSz.out)
        clear hm2 hg2
        refine hK.out _ _ ⟨(blk_cell HX2.out.b0 0).trans rfl, (blk_cell HM2.out.blk 3).trans rfl, (blk_cell HM2.out.blk 4).trans rfl⟩ (fun hHeld => ?_)
        clear hK K
        refine done_ (done_of HT_.out (by kernel_rfl)) ?_
        clear HT_ HW_ hHeld
        simp only [NoP, Act.put]
        have hq0 : w2.cell? ⟨w.heap.size, 0, none⟩ = some (.pointer (some ⟨G, 0, none⟩)) := (blk_cell HX2.out.b0 0).trans rfl
        have hq1 : w2.cell? ⟨G, 1, none⟩ = some (.map (some bo)) := (blk_cell HM2.out.blk 1).trans rfl
        have hq2 : w2.cell? ⟨w.heap.size + 1 + 1, 0, none⟩ = some (.int .i64 but) := (blk_cell HX2.out.b2 0).trans rfl
        have hq3 : w2.cell? ⟨w.heap.size + 1 + 1 + 1, 0, none⟩ = some (.int .i64 out) := (blk_cell HX2.out.b3 0).trans rfl
        cases ho : st.own x.1 with
        | none =>
          have HOw := Aside0.mk ho
          gi_wp2_with (gi_at_lookup; refine in_mgetok _ rfl _ _ 93 rfl Tryz.underlying3 Tryz.underlying93 zero3 bo st.own rfl HM2.out.own x.1 rfl x.2 ?_; simp only [ho, Option.getD_none, Option.isSome_none])
          all_goals first | (rename_i h1 h2; exact absurd h1 (by simp [undef])) | skip
          refine ⟨trivial, ?_⟩
          gi_wp2
          clear ho hq0 hq1 hq2 hq3
          refine startR (n := 7) (S := fun w' => w'.cell? ⟨w.heap.size, 0, none⟩ = some (.pointer (some ⟨G, 0, none⟩)) ∧ w'.cell? ⟨G, 1, none⟩ = some (.map (some bo)) ∧ w'.cell? ⟨w.heap.size + 1, 0, none⟩ = some (.int .i64 i)) (ds := []) #[false, false, false, false, false, false, false] (by kernel_rfl) (by kernel_rfl) rfl rfl ⟨(blk_cell HX2.out.b0 0).trans rfl, (blk_cell HM2.out.blk 1).trans rfl, (blk_cell HX2.out.b1 0).trans rfl⟩ (fun hHeld => ?_)
          refine with_tabW augment.tab7 augment.bits7 (fun HT_ HW_ => ?_)
          refine take_ (i := 0) (N := some 73) (v := ?_) (a' := ?_) #[true, false, false, false, false, false, false] rfl rfl (take_ofW HT_.out HW_.out (by kernel_rfl)) (fun _ _ _ h => h) (Or.inl ⟨by rfl, ?_⟩) hHeld ?_ ?_
          rotate_left
          · rintro w' ⟨s0, s1, s2⟩
            go_simp
            with_reducible rfl
          rotate_left
          · simp only [Act.put, List.setIfInBounds_toArray, List.set_cons_zero, List.set_cons_succ, i64_w, i32_w]
            rfl
          refine pure_ (i := 1) (N := some 74) (v := ?_) (a' := ?_) #[true, true, false, false, false, false, false] rfl rfl (any_of HT_.out (by kernel_rfl)) (fun _ _ _ h => h) (Or.inl ⟨by rfl, ?_⟩) ?_ ?_
          rotate_left
          · intro w'
            go_simp
            with_reducible rfl
          rotate_left
          · simp only [Act.put, List.setIfInBounds_toArray, List.set_cons_zero, List.set_cons_succ, i64_w, i32_w]
            rfl
          refine pure_ (i := 2) (N := some 75) (v := ?_) (a' := ?_) #[true, true, true, false, false, false, false] rfl rfl (any_of HT_.out (by kernel_rfl)) (fun _ _ _ h => h) (Or.inl ⟨by rfl, ?_⟩) ?_ ?_
          rotate_left
          · intro w'
            go_simp
            with_reducible rfl
          rotate_left
          · simp only [Act.put, List.setIfInBounds_toArray, List.set_cons_zero, List.set_cons_succ, i64_w, i32_w]
            rfl
          refine take_ (i := 3) (N := some 76) (v := ?_) (a' := ?_) #[true, true, true, true, false, false, false] rfl rfl (take_ofW HT_.out HW_.out (by kernel_rfl)) (fun _ _ _ h => h) (Or.inl ⟨by rfl, ?_⟩) hHeld ?_ ?_
          rotate_left
          · rintro w' ⟨s0, s1, s2⟩
            go_simp
            with_reducible rfl
          rotate_left
          · simp only [Act.put, List.setIfInBounds_toArray, List.set_cons_zero, List.set_cons_succ, i64_w, i32_w]
            rfl
          refine pure_ (i := 4) (N := some 77) (v := ?_) (a' := ?_) #[true, true, true, true, true, false, false] rfl rfl (any_of HT_.out (by kernel_rfl)) (fun _ _ _ h => h) (Or.inl ⟨by rfl, ?_⟩) ?_ ?_
          rotate_left
          · intro w'
            go_simp
            with_reducible rfl
          rotate_left
          · simp only [Act.put, List.setIfInBounds_toArray, List.set_cons_zero, List.set_cons_succ, i64_w, i32_w]
            rfl
          refine take_ (i := 5) (N := some 78) (v := ?_) (a' := ?_) #[true, true, true, true, true, true, false] rfl rfl (take_ofW HT_.out HW_.out (by kernel_rfl)) (fun _ _ _ h => h) (Or.inl ⟨by rfl, ?_⟩) hHeld ?_ ?_
          rotate_left
          · rintro w' ⟨s0, s1, s2⟩
            go_simp
            with_reducible rfl
          rotate_left
          · simp only [Act.put, List.setIfInBounds_toArray, List.set_cons_zero, List.set_cons_succ, i64_w, i32_w]
            rfl
          refine one_ (i := 6) (N := none) #[true, true, true, true, true, true, true] rfl rfl (one_of HT_.out (by kernel_rfl)) (by decide) (fun K hK => ?_)
          refine put_step (by rfl) (.tmp 76) (.tmp 77) (.tmp 78) 93 rfl Tryz.underlying3 Tryz.underlying93 bo st.own rfl (HM2.out.own.keep rfl) x.1 i rfl rfl x.2 ⟨by have := H01.out.1; omega, by have h1_ : i < (ld.length : Int) := H01.out.2; have h2_ : ld.length ≤ 1099511627776 := HM0.out.many; omega⟩ ?_
          intro w7 hm7 hg7
          have HD7 := Aside0.mk (below_drew1 (Below.refl w2.heap.size w2))
          have HM7 := Aside0.mk ((HM2.out.below HD7.out).putown H01.out.1 H01.out.2 hm7 hg7)
          have HK7 := Aside0.mk (HK2.out.trans ((KeepL.of_below HD7.out HK2.out.size).trans (keepL_grown (c := (MC.mk G bo bv bm (some ad) cd cv ld)) hg7 (MAt.boS _) HK2.out.size)))
          have HX7 := Aside0.mk (HX.out.keepL HK7.out (by have := HZ0.out; have := HM.out.size; omega) HSz.out)
          clear hm7 hg7
          refine hK.out _ _ ⟨(blk_cell HX7.out.b0 0).trans rfl, (blk_cell HM7.out.blk 1).trans rfl, (blk_cell HX7.out.b1 0).trans rfl⟩ (fun hHeld => ?_)
          clear hK K
          refine done_ (done_of HT_.out (by kernel_rfl)) ?_
          clear HT_ HW_ hHeld
          simp only [NoP, Act.put]
          gi_wp2
          have hq8 : w7.drew.cell? ⟨bv, i.toNat, none⟩ = some (.int .i64 (rd st.val i)) := ((HM7.out.below (below_drew1 (Below.refl _ _))).vcell i H01.out.1 H01.out.2).1
          have hf8 : w7.drew.frozen? ⟨bv, i.toNat, none⟩ = false := ((HM7.out.below (below_drew1 (Below.refl _ _))).vcell i H01.out.1 H01.out.2).2
          have p01 : (0 ≤ i) = True := eq_true H01.out.1
          have p02 : (i < (ld.length : Int)) = True := eq_true H01.out.2
          refine startR (n := 8) (S := fun w' => w'.cell? ⟨w.heap.size, 0, none⟩ = some (.pointer (some ⟨G, 0, none⟩)) ∧ w'.cell? ⟨G, 2, none⟩ = some (.slice (some ⟨bv, 0, none⟩) ld.length cv) ∧ w'.cell? ⟨w.heap.size + 1, 0, none⟩ = some (.int .i64 i)) (ds := []) #[false, false, false, false, false, false, false, false] (by kernel_rfl) (by kernel_rfl) rfl rfl ⟨(blk_cell HX7.out.b0 0).trans rfl, (blk_cell HM7.out.blk 2).trans rfl, (blk_cell HX7.out.b1 0).trans rfl⟩ (fun hHeld => ?_)
          refine with_tabW augment.tab8 augment.bits8 (fun HT_ HW_ => ?_)
          refine take_ (i := 0) (N := some 79) (v := ?_) (a' := ?_) #[true, false, false, false, false, false, false, false] rfl rfl (take_ofW HT_.out HW_.out (by kernel_rfl)) (fun _ _ _ h => h) (Or.inl ⟨by rfl, ?_⟩) hHeld ?_ ?_
          rotate_left
          · rintro w' ⟨s0, s1, s2⟩
            go_simp
            with_reducible rfl
          rotate_left
          · simp only [Act.put, List.setIfInBounds_toArray, List.set_cons_zero, List.set_cons_succ, i64_w, i32_w]
            rfl
          refine pure_ (i := 1) (N := some 80) (v := ?_) (a' := ?_) #[true, true, false, false, false, false, false, false] rfl rfl (any_of HT_.out (by kernel_rfl)) (fun _ _ _ h => h) (Or.inl ⟨by rfl, ?_⟩) ?_ ?_
          rotate_left
          · intro w'
            go_simp
            with_reducible rfl
          rotate_left
          · simp only [Act.put, List.setIfInBounds_toArray, List.set_cons_zero, List.set_cons_succ, i64_w, i32_w]
            rfl
          refine pure_ (i := 2) (N := some 81) (v := ?_) (a' := ?_) #[true, true, true, false, false, false, false, false] rfl rfl (any_of HT_.out (by kernel_rfl)) (fun _ _ _ h => h) (Or.inl ⟨by rfl, ?_⟩) ?_ ?_
          rotate_left
          · intro w'
            go_simp
            with_reducible rfl
          rotate_left
          · simp only [Act.put, List.setIfInBounds_toArray, List.set_cons_zero, List.set_cons_succ, i64_w, i32_w]
            rfl
          refine take_ (i := 3) (N := some 82) (v := ?_) (a' := ?_) #[true, true, true, true, false, false, false, false] rfl rfl (take_ofW HT_.out HW_.out (by kernel_rfl)) (fun _ _ _ h => h) (Or.inl ⟨by rfl, ?_⟩) hHeld ?_ ?_
          rotate_left
          · rintro w' ⟨s0, s1, s2⟩
            go_simp
            with_reducible rfl
          rotate_left
          · simp only [Act.put, List.setIfInBounds_toArray, List.set_cons_zero, List.set_cons_succ, i64_w, i32_w]
            rfl
          refine take_ (i := 4) (N := some 83) (v := ?_) (a' := ?_) #[true, true, true, true, true, false, false, false] rfl rfl (take_ofW HT_.out HW_.out (by kernel_rfl)) (fun _ _ _ h => h) (Or.inl ⟨by rfl, ?_⟩) hHeld ?_ ?_
          rotate_left
          · rintro w' ⟨s0, s1, s2⟩
            go_simp
            with_reducible rfl
          rotate_left
          · simp only [Act.put, List.setIfInBounds_toArray, List.set_cons_zero, List.set_cons_succ, i64_w, i32_w]
            rfl
          refine pure_ (i := 5) (N := some 84) (v := ?_) (a' := ?_) #[true, true, true, true, true, true, false, false] rfl rfl (any_of HT_.out (by kernel_rfl)) (fun _ _ _ h => h) (Or.inl ⟨by rfl, ?_⟩) ?_ ?_
          rotate_left
          · intro w'
            go_simp
            with_reducible rfl
          rotate_left
          · simp only [Act.put, List.setIfInBounds_toArray, List.set_cons_zero, List.set_cons_succ, i64_w, i32_w]
            rfl
          refine pure_ (i := 6) (N := some 85) (v := ?_) (a' := ?_) #[true, true, true, true, true, true, true, false] rfl rfl (any_of HT_.out (by kernel_rfl)) (fun _ _ _ h => h) (Or.inl ⟨by rfl, ?_⟩) ?_ ?_
          rotate_left
          · intro w'
            go_simp
            with_reducible rfl
          rotate_left
          · simp only [Act.put, List.setIfInBounds_toArray, List.set_cons_zero, List.set_cons_succ, i64_w, i32_w]
            rfl
          refine one_ (i := 7) (N := none) #[true, true, true, true, true, true, true, true] rfl rfl (one_of HT_.out (by kernel_rfl)) (by decide) (fun K hK => ?_)
          refine skip_ (w1 := w7.drew.setCell ⟨bv, i.toNat, none⟩ (.int .i64 x.1)) (by rfl) rfl ?_ ?_
          · first | (go_simp; done) | (go_simp; rfl)
          obtain ⟨w8, hw8⟩ : ∃ w8, w8 = w7.drew.setCell ⟨bv, i.toNat, none⟩ (.int .i64 x.1) := ⟨_, rfl⟩
          rw [← hw8]
          have HD8 := Aside0.mk (below_drew1 (Below.refl w7.heap.size w7))
          have HV8 : Aside0 (MAt (MC.mk G bo bv bm (some ad) cd cv ld) w'.heap.size t { own := upd st.own x.1 (some i), val := st.val.set i.toNat x.1, met := upd st.met x.1 (some t) } w8 ∧ w7.drew.grownBy w8 (some bv)) := ⟨by rw [hw8]; exact (HM7.out.below HD8.out).putval i x.1⟩
          clear hw8
          have HK8 := Aside0.mk (HK7.out.trans ((KeepL.of_below HD8.out HK7.out.size).trans (keepL_grown (c := (MC.mk G bo bv bm (some ad) cd cv ld)) HV8.out.2 (MAt.bvS _) HK7.out.size)))
          have HX8 := Aside0.mk (HX.out.keepL HK8.out (by have := HZ0.out; have := HM.out.size; omega) HSz.out)
          refine hK.out _ _ ⟨(blk_cell HX8.out.b0 0).trans rfl, (blk_cell HV8.out.1.blk 2).trans rfl, (blk_cell HX8.out.b1 0).trans rfl⟩ (fun hHeld => ?_)
          clear hK K
          refine done_ (done_of HT_.out (by kernel_rfl)) ?_
          clear HT_ HW_ hHeld
          simp only [NoP, Act.put]
          clear hq8 hf8 p01 p02
          have hc9 : w8.cell? ⟨w.heap.size + 1 + 1 + 1 + 1, 0, none⟩ = some (.bool false) := (blk_cell HX8.out.b4 0).trans rfl
          have hf9 : w8.frozen? ⟨w.heap.size + 1 + 1 + 1 + 1, 0, none⟩ = false := blk_frozen HX8.out.b4 0
          gi_wp2
          have HA9 := Aside0.mk (MAt.answered (n₀ := 0) HV8.out.1 HM0.out (HKp.out.trans (HK8.out.mono (Nat.le_trans HZ0.out.2 HM.out.size))) (z := w.heap.size + 1 + 1 + 1 + 1) (by omega) HV8.out.1.size true HZ0.out.2)
          exact ⟨(HK8.out.keepsFrom rfl (fun k e => Nat.lt_of_lt_of_le (HSz.out k e) HZ0.out.2)).trans ((KeepsOthers.setCell _ _ _).from _), rfl, _, by rw [List.map_append, augL_app, HSt.out]; show augL _ _ _ _ _ [x.1] st = _; simp only [augL]; rw [if_neg CN.out, HOw.out], HA9.out.1, HX8.out.answer true, HA9.out.2⟩
        | some j =>
          have HOw := Aside0.mk ho
          have HJ := Aside0.mk (HM.out.held x.1 j ho)
          by_cases c5 : j = but
          · have k5 : (j == but) = true := beq_iff_eq.mpr c5
            have C5 := Aside0.mk c5
            clear c5
            gi_wp2_with (gi_at_lookup; refine in_mgetok _ rfl _ _ 93 rfl Tryz.underlying3 Tryz.underlying93 zero3 bo st.own rfl HM2.out.own x.1 rfl x.2 ?_; simp only [ho, Option.getD_some, Option.isSome_some])
            refine ⟨trivial, ?_⟩
            gi_wp2
            exact ⟨HK2.out.keepsFrom rfl (fun k e => Nat.lt_of_lt_of_le (HSz.out k e) HZ0.out.2), HK2.out.mono HM.out.size, _, by rw [List.map_append, augL_app, HSt.out]; show augL _ _ _ _ _ [x.1] st = _; simp only [augL]; rw [if_neg CN.out, HOw.out]; show (if j = but then _ else _) = _; rw [if_pos C5.out], HM2.out, HX2.out, HKp.out.trans (HK2.out.mono (Nat.le_trans HZ0.out.2 HM.out.size))⟩
          · have k5 : (j == but) = false := beq_eq_false_iff_ne.mpr c5
            have C5 := Aside0.mk c5
            clear c5
            have hkeep := augL_keep (fun j s s2 h hh => aug_keep h hh) (pre.map (·.1)) s st HSt.out HH.out
            have hheld := hkeep.1 x.1 j ho (fun h => CN.out (.inl h))
            have HCn := Aside0.mk (Nat.lt_of_lt_of_le (cnt_mark (s := st) (t := t) (v := x.1) (fun h => CN.out (.inr h)) hheld.1 hheld.2.1 hheld.2.2) (Nat.le_trans hkeep.2 HK.out))
            have HHe := Aside0.mk (show Held but out { st with met := upd st.met x.1 (some t) } from hkeep.1)
            clear hkeep hheld
            obtain ⟨⟨s2, b⟩, hr⟩ := aug_some (D := D) kf j { st with met := upd st.met x.1 (some t) } HHe.out HCn.out
            have HR := Aside0.mk hr
            clear hr
            cases b with
            | false =>
              gi_wp2_with (first | (gi_at_lookup; refine in_mgetok _ rfl _ _ 93 rfl Tryz.underlying3 Tryz.underlying93 zero3 bo st.own rfl HM2.out.own x.1 rfl x.2 ?_; simp only [ho, Option.getD_some, Option.isSome_some]) | (refine ⟨trivial, ?_⟩; gi_at_call 58; refine (CallsIn.inRound _ (callsIn_wide.2 (IH.out j _ (s2, false) w2 HR.out HHe.out HCn.out HJ.out.1 HJ.out.2 (HM2.out.more HM2.out.size (Nat.le_refl _))))).mono ?_; rintro e w3 ⟨rfl, hm3, hk3⟩; have HM3 := Aside0.mk (hm3.less HM2.out (hk3.mono HM2.out.size)); have HK3 := Aside0.mk (HK2.out.trans (hk3.mono HK2.out.size)); have HX3 := Aside0.mk (HX2.out.keepL hk3 (by have := HZ0.out; have := HM2.out.size; omega) HSz.out); clear hm3 hk3))
              exact ⟨HK3.out.keepsFrom rfl (fun k e => Nat.lt_of_lt_of_le (HSz.out k e) HZ0.out.2), HK3.out.mono HM.out.size, _, by rw [List.map_append, augL_app, HSt.out]; show augL _ _ _ _ _ [x.1] st = _; simp only [augL]; rw [if_neg CN.out, HOw.out]; show (if j = but then _ else _) = _; rw [if_neg C5.out, HR.out], HM3.out, HX3.out, HKp.out.trans (HK3.out.mono (Nat.le_trans HZ0.out.2 HM.out.size))⟩
            | true =>
              gi_wp2_with (first | (gi_at_lookup; refine in_mgetok _ rfl _ _ 93 rfl Tryz.underlying3 Tryz.underlying93 zero3 bo st.own rfl HM2.out.own x.1 rfl x.2 ?_; simp only [ho, Option.getD_some, Option.isSome_some]) | (refine ⟨trivial, ?_⟩; gi_at_call 58; refine (CallsIn.inRound _ (callsIn_wide.2 (IH.out j _ (s2, true) w2 HR.out HHe.out HCn.out HJ.out.1 HJ.out.2 (HM2.out.more HM2.out.size (Nat.le_refl _))))).mono ?_; rintro e w3 ⟨rfl, hm3, hk3⟩; have HM3 := Aside0.mk (hm3.less HM2.out (hk3.mono HM2.out.size)); have HK3 := Aside0.mk (HK2.out.trans (hk3.mono HK2.out.size)); have HX3 := Aside0.mk (HX2.out.keepL hk3 (by have := HZ0.out; have := HM2.out.size; omega) HSz.out); clear hm3 hk3))
              clear ho hq0 hq1 hq2 hq3
              refine startR (n := 7) (S := fun w' => w'.cell? ⟨w.heap.size, 0, none⟩ = some (.pointer (some ⟨G, 0, none⟩)) ∧ w'.cell? ⟨G, 1, none⟩ = some (.map (some bo)) ∧ w'.cell? ⟨w.heap.size + 1, 0, none⟩ = some (.int .i64 i)) (ds := []) #[false, false, false, false, false, false, false] (by kernel_rfl) (by kernel_rfl) rfl rfl ⟨(blk_cell HX3.out.b0 0).trans rfl, (blk_cell HM3.out.blk 1).trans rfl, (blk_cell HX3.out.b1 0).trans rfl⟩ (fun hHeld => ?_)
              refine with_tabW augment.tab7 augment.bits7 (fun HT_ HW_ => ?_)
              refine take_ (i := 0) (N := some 73) (v := ?_) (a' := ?_) #[true, false, false, false, false, false, false] rfl rfl (take_ofW HT_.out HW_.out (by kernel_rfl)) (fun _ _ _ h => h) (Or.inl ⟨by rfl, ?_⟩) hHeld ?_ ?_
              rotate_left
              · rintro w' ⟨s0, s1, s2⟩
                go_simp
                with_reducible rfl
              rotate_left
              · simp only [Act.put, List.setIfInBounds_toArray, List.set_cons_zero, List.set_cons_succ, i64_w, i32_w]
                rfl
              refine pure_ (i := 1) (N := some 74) (v := ?_) (a' := ?_) #[true, true, false, false, false, false, false] rfl rfl (any_of HT_.out (by kernel_rfl)) (fun _ _ _ h => h) (Or.inl ⟨by rfl, ?_⟩) ?_ ?_
              rotate_left
              · intro w'
                go_simp
                with_reducible rfl
              rotate_left
              · simp only [Act.put, List.setIfInBounds_toArray, List.set_cons_zero, List.set_cons_succ, i64_w, i32_w]
                rfl
              refine pure_ (i := 2) (N := some 75) (v := ?_) (a' := ?_) #[true, true, true, false, false, false, false] rfl rfl (any_of HT_.out (by kernel_rfl)) (fun _ _ _ h => h) (Or.inl ⟨by rfl, ?_⟩) ?_ ?_
              rotate_left
              · intro w'
                go_simp
                with_reducible rfl
              rotate_left
              · simp only [Act.put, List.setIfInBounds_toArray, List.set_cons_zero, List.set_cons_succ, i64_w, i32_w]
                rfl
              refine take_ (i := 3) (N := some 76) (v := ?_) (a' := ?_) #[true, true, true, true, false, false, false] rfl rfl (take_ofW HT_.out HW_.out (by kernel_rfl)) (fun _ _ _ h => h) (Or.inl ⟨by rfl, ?_⟩) hHeld ?_ ?_
              rotate_left
              · rintro w' ⟨s0, s1, s2⟩
                go_simp
                with_reducible rfl
              rotate_left
              · simp only [Act.put, List.setIfInBounds_toArray, List.set_cons_zero, List.set_cons_succ, i64_w, i32_w]
                rfl
              refine pure_ (i := 4) (N := some 77) (v := ?_) (a' := ?_) #[true, true, true, true, true, false, false] rfl rfl (any_of HT_.out (by kernel_rfl)) (fun _ _ _ h => h) (Or.inl ⟨by rfl, ?_⟩) ?_ ?_
              rotate_left
              · intro w'
                go_simp
                with_reducible rfl
              rotate_left
              · simp only [Act.put, List.setIfInBounds_toArray, List.set_cons_zero, List.set_cons_succ, i64_w, i32_w]
                rfl
              refine take_ (i := 5) (N := some 78) (v := ?_) (a' := ?_) #[true, true, true, true, true, true, false] rfl rfl (take_ofW HT_.out HW_.out (by kernel_rfl)) (fun _ _ _ h => h) (Or.inl ⟨by rfl, ?_⟩) hHeld ?_ ?_
              rotate_left
              · rintro w' ⟨s0, s1, s2⟩
                go_simp
                with_reducible rfl
              rotate_left
              · simp only [Act.put, List.setIfInBounds_toArray, List.set_cons_zero, List.set_cons_succ, i64_w, i32_w]
                rfl
              refine one_ (i := 6) (N := none) #[true, true, true, true, true, true, true] rfl rfl (one_of HT_.out (by kernel_rfl)) (by decide) (fun K hK => ?_)
              refine put_step (by rfl) (.tmp 76) (.tmp 77) (.tmp 78) 93 rfl Tryz.underlying3 Tryz.underlying93 bo s2.own rfl (HM3.out.own.keep rfl) x.1 i rfl rfl x.2 ⟨by have := H01.out.1; omega, by have h1_ : i < (ld.length : Int) := H01.out.2; have h2_ : ld.length ≤ 1099511627776 := HM0.out.many; omega⟩ ?_
              intro w7 hm7 hg7
              have HD7 := Aside0.mk (below_drew1 (Below.refl w3.heap.size w3))
              have HM7 := Aside0.mk ((HM3.out.below HD7.out).putown H01.out.1 H01.out.2 hm7 hg7)
              have HK7 := Aside0.mk (HK3.out.trans ((KeepL.of_below HD7.out HK3.out.size).trans (keepL_grown (c := (MC.mk G bo bv bm (some ad) cd cv ld)) hg7 (MAt.boS _) HK3.out.size)))
              have HX7 := Aside0.mk (HX.out.keepL HK7.out (by have := HZ0.out; have := HM.out.size; omega) HSz.out)
              clear hm7 hg7
              refine hK.out _ _ ⟨(blk_cell HX7.out.b0 0).trans rfl, (blk_cell HM7.out.blk 1).trans rfl, (blk_cell HX7.out.b1 0).trans rfl⟩ (fun hHeld => ?_)
              clear hK K
              refine done_ (done_of HT_.out (by kernel_rfl)) ?_
              clear HT_ HW_ hHeld
              simp only [NoP, Act.put]
              gi_wp2
              have hq8 : w7.drew.cell? ⟨bv, i.toNat, none⟩ = some (.int .i64 (rd s2.val i)) := ((HM7.out.below (below_drew1 (Below.refl _ _))).vcell i H01.out.1 H01.out.2).1
              have hf8 : w7.drew.frozen? ⟨bv, i.toNat, none⟩ = false := ((HM7.out.below (below_drew1 (Below.refl _ _))).vcell i H01.out.1 H01.out.2).2
              have p01 : (0 ≤ i) = True := eq_true H01.out.1
              have p02 : (i < (ld.length : Int)) = True := eq_true H01.out.2
              refine startR (n := 8) (S := fun w' => w'.cell? ⟨w.heap.size, 0, none⟩ = some (.pointer (some ⟨G, 0, none⟩)) ∧ w'.cell? ⟨G, 2, none⟩ = some (.slice (some ⟨bv, 0, none⟩) ld.length cv) ∧ w'.cell? ⟨w.heap.size + 1, 0, none⟩ = some (.int .i64 i)) (ds := []) #[false, false, false, false, false, false, false, false] (by kernel_rfl) (by kernel_rfl) rfl rfl ⟨(blk_cell HX7.out.b0 0).trans rfl, (blk_cell HM7.out.blk 2).trans rfl, (blk_cell HX7.out.b1 0).trans rfl⟩ (fun hHeld => ?_)
              refine with_tabW augment.tab8 augment.bits8 (fun HT_ HW_ => ?_)
              refine take_ (i := 0) (N := some 79) (v := ?_) (a' := ?_) #[true, false, false, false, false, false, false, false] rfl rfl (take_ofW HT_.out HW_.out (by kernel_rfl)) (fun _ _ _ h => h) (Or.inl ⟨by rfl, ?_⟩) hHeld ?_ ?_
              rotate_left
              · rintro w' ⟨s0, s1, s2⟩
                go_simp
                with_reducible rfl
              rotate_left
              · simp only [Act.put, List.setIfInBounds_toArray, List.set_cons_zero, List.set_cons_succ, i64_w, i32_w]
                rfl
              refine pure_ (i := 1) (N := some 80) (v := ?_) (a' := ?_) #[true, true, false, false, false, false, false, false] rfl rfl (any_of HT_.out (by kernel_rfl)) (fun _ _ _ h => h) (Or.inl ⟨by rfl, ?_⟩) ?_ ?_
              rotate_left
              · intro w'
                go_simp
                with_reducible rfl
              rotate_left
              · simp only [Act.put, List.setIfInBounds_toArray, List.set_cons_zero, List.set_cons_succ, i64_w, i32_w]
                rfl
              refine pure_ (i := 2) (N := some 81) (v := ?_) (a' := ?_) #[true, true, true, false, false, false, false, false] rfl rfl (any_of HT_.out (by kernel_rfl)) (fun _ _ _ h => h) (Or.inl ⟨by rfl, ?_⟩) ?_ ?_
              rotate_left
              · intro w'
                go_simp
                with_reducible rfl
              rotate_left
              · simp only [Act.put, List.setIfInBounds_toArray, List.set_cons_zero, List.set_cons_succ, i64_w, i32_w]
                rfl
              refine take_ (i := 3) (N := some 82) (v := ?_) (a' := ?_) #[true, true, true, true, false, false, false, false] rfl rfl (take_ofW HT_.out HW_.out (by kernel_rfl)) (fun _ _ _ h => h) (Or.inl ⟨by rfl, ?_⟩) hHeld ?_ ?_
              rotate_left
              · rintro w' ⟨s0, s1, s2⟩
                go_simp
                with_reducible rfl
              rotate_left
              · simp only [Act.put, List.setIfInBounds_toArray, List.set_cons_zero, List.set_cons_succ, i64_w, i32_w]
                rfl
              refine take_ (i := 4) (N := some 83) (v := ?_) (a' := ?_) #[true, true, true, true, true, false, false, false] rfl rfl (take_ofW HT_.out HW_.out (by kernel_rfl)) (fun _ _ _ h => h) (Or.inl ⟨by rfl, ?_⟩) hHeld ?_ ?_
              rotate_left
              · rintro w' ⟨s0, s1, s2⟩
                go_simp
                with_reducible rfl
              rotate_left
              · simp only [Act.put, List.setIfInBounds_toArray, List.set_cons_zero, List.set_cons_succ, i64_w, i32_w]
                rfl
              refine pure_ (i := 5) (N := some 84) (v := ?_) (a' := ?_) #[true, true, true, true, true, true, false, false] rfl rfl (any_of HT_.out (by kernel_rfl)) (fun _ _ _ h => h) (Or.inl ⟨by rfl, ?_⟩) ?_ ?_
              rotate_left
              · intro w'
                go_simp
                with_reducible rfl
              rotate_left
              · simp only [Act.put, List.setIfInBounds_toArray, List.set_cons_zero, List.set_cons_succ, i64_w, i32_w]
                rfl
              refine pure_ (i := 6) (N := some 85) (v := ?_) (a' := ?_) #[true, true, true, true, true, true, true, false] rfl rfl (any_of HT_.out (by kernel_rfl)) (fun _ _ _ h => h) (Or.inl ⟨by rfl, ?_⟩) ?_ ?_
              rotate_left
              · intro w'
                go_simp
                with_reducible rfl
              rotate_left
              · simp only [Act.put, List.setIfInBounds_toArray, List.set_cons_zero, List.set_cons_succ, i64_w, i32_w]
                rfl
              refine one_ (i := 7) (N := none) #[true, true, true, true, true, true, true, true] rfl rfl (one_of HT_.out (by kernel_rfl)) (by decide) (fun K hK => ?_)
              refine skip_ (w1 := w7.drew.setCell ⟨bv, i.toNat, none⟩ (.int .i64 x.1)) (by rfl) rfl ?_ ?_
              · first | (go_simp; done) | (go_simp; rfl)
              obtain ⟨w8, hw8⟩ : ∃ w8, w8 = w7.drew.setCell ⟨bv, i.toNat, none⟩ (.int .i64 x.1) := ⟨_, rfl⟩
              rw [← hw8]
              have HD8 := Aside0.mk (below_drew1 (Below.refl w7.heap.size w7))
              have HV8 : Aside0 (MAt (MC.mk G bo bv bm (some ad) cd cv ld) w'.heap.size t { own := upd s2.own x.1 (some i), val := s2.val.set i.toNat x.1, met := s2.met } w8 ∧ w7.drew.grownBy w8 (some bv)) := ⟨by rw [hw8]; exact (HM7.out.below HD8.out).putval i x.1⟩
              clear hw8
              have HK8 := Aside0.mk (HK7.out.trans ((KeepL.of_below HD8.out HK7.out.size).trans (keepL_grown (c := (MC.mk G bo bv bm (some ad) cd cv ld)) HV8.out.2 (MAt.bvS _) HK7.out.size)))
              have HX8 := Aside0.mk (HX.out.keepL HK8.out (by have := HZ0.out; have := HM.out.size; omega) HSz.out)
              refine hK.out _ _ ⟨(blk_cell HX8.out.b0 0).trans rfl, (blk_cell HV8.out.1.blk 2).trans rfl, (blk_cell HX8.out.b1 0).trans rfl⟩ (fun hHeld => ?_)
              clear hK K
              refine done_ (done_of HT_.out (by kernel_rfl)) ?_
              clear HT_ HW_ hHeld
              simp only [NoP, Act.put]
              clear hq8 hf8 p01 p02
              have hc9 : w8.cell? ⟨w.heap.size + 1 + 1 + 1 + 1, 0, none⟩ = some (.bool false) := (blk_cell HX8.out.b4 0).trans rfl
              have hf9 : w8.frozen? ⟨w.heap.size + 1 + 1 + 1 + 1, 0, none⟩ = false := blk_frozen HX8.out.b4 0
              gi_wp2
              have HA9 := Aside0.mk (MAt.answered (n₀ := 0) HV8.out.1 HM0.out (HKp.out.trans (HK8.out.mono (Nat.le_trans HZ0.out.2 HM.out.size))) (z := w.heap.size + 1 + 1 + 1 + 1) (by omega) HV8.out.1.size true HZ0.out.2)
              exact ⟨(HK8.out.keepsFrom rfl (fun k e => Nat.lt_of_lt_of_le (HSz.out k e) HZ0.out.2)).trans ((KeepsOthers.setCell _ _ _).from _), rfl, _, by rw [List.map_append, augL_app, HSt.out]; show augL _ _ _ _ _ [x.1] st = _; simp only [augL]; rw [if_neg CN.out, HOw.out]; show (if j = but then _ else _) = _; rw [if_neg C5.out, HR.out], HA9.out.1, HX8.out.answer true, HA9.out.2⟩

end Go.Proofs.YtckfbfdnlpnllaaGreatDoor.Ad
