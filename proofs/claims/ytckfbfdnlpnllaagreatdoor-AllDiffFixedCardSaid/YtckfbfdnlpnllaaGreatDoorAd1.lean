import Derived.RangeFuncWrites
import Derived.RangeFuncLeaves
import Derived.RangeFuncNested
import Derived.Shelf.Abstract
import Derived.WalkKit
import Derived.OwnWalk
import Derived.OwnWalkIn
import Derived.TacticsInMore
import Derived.LoopNIn
import Derived.LoopIn
import Derived.Sort.LoopGhostIn
import Derived.Maps.OwnIn
import Derived.Maps.OwnOps
import Derived.Maps.OwnSet
import Derived.WideKeyEntry
namespace Go.Proofs.YtckfbfdnlpnllaaGreatDoor.Ad
open Go.RowKit Go.Shelf
set_option linter.unusedVariables false
set_option linter.unusedSimpArgs false
/-! The matching by augmenting ways, as plain functions, and what they find. -/
/-- Whose a value is; which value a variable has; which values were looked at. -/
structure Mt where
  own : Int → Option Int
  val : List Int
  met : Int → Option Int
def upd (f : Int → Option Int) (x : Int) (o : Option Int) : Int → Option Int := fun y => if y = x then o else f y
theorem upd_same (f : Int → Option Int) (x : Int) (o : Option Int) : upd f x o x = o := if_pos rfl
theorem upd_other (f : Int → Option Int) {x y : Int} (o : Option Int) (h : y ≠ x) : upd f x o y = f y := if_neg h
/-- A variable's loop over values. -/
def augL (rec : Int → Mt → Option (Mt × Bool)) (t but out i : Int) : List Int → Mt → Option (Mt × Bool)
  | [], s => some (s, false)
  | v :: vs, s =>
    if (v = out ∧ 0 ≤ but) ∨ (s.met v).getD 0 = t then augL rec t but out i vs s
    else match s.own v with
      | none => some ({ own := upd s.own v (some i), val := s.val.set i.toNat v, met := upd s.met v (some t) }, true)
      | some j =>
        if j = but then augL rec t but out i vs { s with met := upd s.met v (some t) }
        else match rec j { s with met := upd s.met v (some t) } with
          | none => none
          | some (s2, true) => some ({ own := upd s2.own v (some i), val := s2.val.set i.toNat v, met := s2.met }, true)
          | some (s2, false) => augL rec t but out i vs s2
/-- A variable gets a value. -/
def aug (D : Int → List Int) (t but out : Int) : Nat → Int → Mt → Option (Mt × Bool)
  | 0, _, _ => none
  | k + 1, i, s => augL (aug D t but out k) t but out i (D i) s
def vis (t : Int) (s : Mt) (v : Int) : Prop := (s.met v).getD 0 = t
def av (but out v : Int) : Prop := v = out ∧ 0 ≤ but
/-- A way: each variable with the value that it gets; that one's owner is next. -/
def Way (D : Int → List Int) (but out t : Int) (s : Mt) (own : Int → Option Int) : Int → List (Int × Int) → Prop
  | _, [] => False
  | i, (j, v) :: p => j = i ∧ v ∈ D i ∧ ¬ av but out v ∧ ¬ vis t s v ∧ (∀ q ∈ p, q.2 ≠ v) ∧ ((own v = none ∧ p = []) ∨ ∃ k, own v = some k ∧ k ≠ but ∧ Way D but out t s own k p)
def flipO (own : Int → Option Int) : List (Int × Int) → Int → Option Int
  | [] => own
  | (i, v) :: p => upd (flipO own p) v (some i)
def flipV (val : List Int) : List (Int × Int) → List Int
  | [] => val
  | (i, v) :: p => (flipV val p).set i.toNat v
/-- What a search finds. -/
def Found (D : Int → List Int) (t but out i : Int) (s s' : Mt) : Prop :=
  ∃ p, Way D but out t s s.own i p ∧ s'.own = flipO s.own p ∧ s'.val = flipV s.val p ∧ (∀ v, vis t s v → vis t s' v)
/-- What it leaves where it finds nothing: new values were looked at (L), each is some variable's whose other values were all looked at, too. -/
def Lost (D : Int → List Int) (t but out : Int) (vs : List Int) (s s' : Mt) : Prop :=
  s'.own = s.own ∧ s'.val = s.val ∧ ∃ L : List Int, L.Nodup ∧ (∀ v, vis t s' v ↔ vis t s v ∨ v ∈ L) ∧ (∀ v ∈ L, ¬ vis t s v ∧ ¬ av but out v ∧ ∃ k, s.own v = some k ∧ (k = but ∨ ∀ u ∈ D k, av but out u ∨ vis t s' u)) ∧ (∀ u ∈ vs, av but out u ∨ vis t s' u)
theorem vis_upd {t : Int} {s : Mt} {v u : Int} : vis t { s with met := upd s.met v (some t) } u ↔ u = v ∨ vis t s u := by
  unfold vis upd
  by_cases h : u = v <;> simp [h]
theorem Way.weaken {D : Int → List Int} {but out t : Int} {s s' : Mt} {own : Int → Option Int} (h : ∀ v, vis t s v → vis t s' v) : ∀ (p : List (Int × Int)) (i : Int), Way D but out t s' own i p → Way D but out t s own i p
  | [], _, h' => h'
  | (j, v) :: p, i, ⟨a, b, c, d, e, f⟩ => ⟨a, b, c, fun x => d (h v x), e, f.imp id (fun ⟨k, h1, h2, h3⟩ => ⟨k, h1, h2, Way.weaken h p k h3⟩)⟩
theorem Way.unseen {D : Int → List Int} {but out t : Int} {s : Mt} {own : Int → Option Int} : ∀ (p : List (Int × Int)) (i : Int), Way D but out t s own i p → ∀ q ∈ p, ¬ vis t s q.2
  | [], _, h => h.elim
  | (j, v) :: p, i, ⟨a, b, c, d, e, f⟩ => by
    intro q hq
    rcases List.mem_cons.1 hq with rfl | hq
    · exact d
    · rcases f with ⟨_, rfl⟩ | ⟨k, _, _, h3⟩
      · cases hq
      · exact Way.unseen p k h3 q hq
theorem Lost.then {D : Int → List Int} {t but out : Int} {us vs : List Int} {s s1 s2 : Mt} (h : Lost D t but out us s s1) (h' : Lost D t but out vs s1 s2) : Lost D t but out (us ++ vs) s s2 := by
  obtain ⟨a1, a2, L, hn, hv, hL, hu⟩ := h
  obtain ⟨b1, b2, L', hn', hv', hL', hu'⟩ := h'
  refine ⟨b1.trans a1, b2.trans a2, L ++ L', ?_, ?_, ?_, ?_⟩
  · rw [List.nodup_append]
    exact ⟨hn, hn', fun x hx y hy e => (hL' y hy).1 ((hv y).2 (.inr (e ▸ hx)))⟩
  · intro v
    rw [hv', hv, List.mem_append, or_assoc]
  · intro v hm
    rcases List.mem_append.1 hm with hm | hm
    · obtain ⟨x1, x2, k, x3, x4⟩ := hL v hm
      exact ⟨x1, x2, k, x3, x4.imp id fun f u hu => (f u hu).imp id fun g => (hv' u).2 (.inl g)⟩
    · obtain ⟨x1, x2, k, x3, x4⟩ := hL' v hm
      exact ⟨fun g => x1 ((hv v).2 (.inl g)), x2, k, a1 ▸ x3, x4⟩
  · intro u hm
    rcases List.mem_append.1 hm with hm | hm
    · exact (hu u hm).imp id fun g => (hv' u).2 (.inl g)
    · exact hu' u hm
theorem Lost.nil {D : Int → List Int} {t but out : Int} {s : Mt} : Lost D t but out [] s s := ⟨rfl, rfl, [], by simp, by simp, by simp, by simp⟩
/-- A step over a value that is passed over. -/
theorem Lost.pass {D : Int → List Int} {t but out v : Int} {s : Mt} (h : av but out v ∨ vis t s v) : Lost D t but out [v] s s := ⟨rfl, rfl, [], by simp, by simp, by simp, by simpa using h⟩
/-- A value is marked, whose owner's search found nothing. -/
theorem Lost.mark {D : Int → List Int} {t but out v j : Int} {s s2 : Mt} (hv : ¬ vis t s v) (ha : ¬ av but out v) (ho : s.own v = some j) (h : Lost D t but out (if j = but then [] else D j) { s with met := upd s.met v (some t) } s2) : Lost D t but out [v] s s2 := by
  obtain ⟨a1, a2, L, hn, hs, hL, hu⟩ := h
  have e : ∀ u, vis t s2 u ↔ vis t s u ∨ u ∈ v :: L := by
    intro u
    rw [hs, vis_upd, List.mem_cons]
    constructor
    · rintro ((h | h) | h)
      · exact .inr (.inl h)
      · exact .inl h
      · exact .inr (.inr h)
    · rintro (h | h | h)
      · exact .inl (.inr h)
      · exact .inl (.inl h)
      · exact .inr h
  refine ⟨a1, a2, v :: L, ?_, e, ?_, ?_⟩
  · rw [List.nodup_cons]
    exact ⟨fun hm => (hL v hm).1 (vis_upd.2 (.inl rfl)), hn⟩
  · intro u hm
    rcases List.mem_cons.1 hm with rfl | hm
    · refine ⟨hv, ha, j, ho, ?_⟩
      by_cases hb : j = but
      · exact .inl hb
      · rw [if_neg hb] at hu
        exact .inr hu
    · obtain ⟨x1, x2, k, x3, x4⟩ := hL u hm
      exact ⟨fun g => x1 (vis_upd.2 (.inr g)), x2, k, x3, x4⟩
  · intro u hm
    obtain rfl := List.mem_singleton.1 hm
    exact .inr ((e u).2 (.inr (List.mem_cons_self ..)))
/-- The spec of a search that ends. -/
def Ends (D : Int → List Int) (t but out i : Int) (vs : List Int) (s : Mt) (r : Mt × Bool) : Prop :=
  if r.2 = true then (∃ p, Way D but out t s s.own i p ∧ r.1.own = flipO s.own p ∧ r.1.val = flipV s.val p) else Lost D t but out vs s r.1
theorem augL_ends {D : Int → List Int} {t but out i : Int} {rec : Int → Mt → Option (Mt × Bool)} (hrec : ∀ j s r, rec j s = some r → Ends D t but out j (D j) s r) :
    ∀ (vs : List Int) (s : Mt) (r : Mt × Bool), (∀ v ∈ vs, v ∈ D i) → augL rec t but out i vs s = some r → Ends D t but out i vs s r
  | [], s, r, _, h => by
    simp only [augL, Option.some.injEq] at h
    subst h
    exact Lost.nil
  | v :: vs, s, r, hi, h => by
    have ih := fun s r => augL_ends hrec vs s r (fun u hu => hi u (List.mem_cons_of_mem _ hu))
    -- what was lost ahead of the rest
    have go : ∀ s2, Lost D t but out [v] s s2 → augL rec t but out i vs s2 = some r → Ends D t but out i (v :: vs) s r := by
      intro s2 hl hr
      have h2 := ih s2 r hr
      unfold Ends at h2 ⊢
      by_cases hb : r.2 = true
      · rw [if_pos hb] at h2 ⊢
        obtain ⟨p, h3, h4, h5⟩ := h2
        obtain ⟨l1, l2, L, _, lv, _⟩ := hl
        rw [l1] at h3 h4
        rw [l2] at h5
        exact ⟨p, Way.weaken (fun u hu => (lv u).2 (.inl hu)) p i h3, h4, h5⟩
      · rw [if_neg hb] at h2 ⊢
        exact hl.then h2
    simp only [augL] at h
    by_cases c1 : (v = out ∧ 0 ≤ but) ∨ (s.met v).getD 0 = t
    · rw [if_pos c1] at h
      exact go s (Lost.pass c1) h
    · rw [if_neg c1] at h
      have hv : ¬ vis t s v := fun x => c1 (.inr x)
      have ha : ¬ av but out v := fun x => c1 (.inl x)
      cases ho : s.own v with
      | none =>
        rw [ho] at h
        simp only [Option.some.injEq] at h
        subst h
        unfold Ends
        rw [if_pos rfl]
        exact ⟨[(i, v)], ⟨rfl, hi v (List.mem_cons_self ..), ha, hv, by simp, .inl ⟨ho, rfl⟩⟩, rfl, rfl⟩
      | some j =>
        rw [ho] at h
        simp only at h
        by_cases c2 : j = but
        · rw [if_pos c2] at h
          exact go _ (Lost.mark hv ha ho (by rw [if_pos c2]; exact Lost.nil)) h
        · rw [if_neg c2] at h
          cases hr : rec j { s with met := upd s.met v (some t) } with
          | none =>
            rw [hr] at h
            cases h
          | some r2 =>
            rw [hr] at h
            have h2 := hrec _ _ _ hr
            obtain ⟨s2, b⟩ := r2
            cases b with
            | false =>
              exact go s2 (Lost.mark hv ha ho (by rw [if_neg c2]; exact h2)) h
            | true =>
              simp only [Option.some.injEq] at h
              subst h
              unfold Ends at h2 ⊢
              rw [if_pos rfl] at h2 ⊢
              obtain ⟨p, h3, h4, h5⟩ := h2
              refine ⟨(i, v) :: p, ⟨rfl, hi v (List.mem_cons_self ..), ha, hv, ?_, .inr ⟨j, ho, c2, Way.weaken (fun u hu => vis_upd.2 (.inr hu)) p j h3⟩⟩, ?_, ?_⟩
              · intro q hq e
                exact Way.unseen p j h3 q hq (vis_upd.2 (.inl e))
              · show upd s2.own v (some i) = upd (flipO s.own p) v (some i)
                rw [h4]
              · show s2.val.set i.toNat v = (flipV s.val p).set i.toNat v
                rw [h5]
theorem aug_ends {D : Int → List Int} {t but out : Int} : ∀ (k : Nat) (i : Int) (s : Mt) (r : Mt × Bool), aug D t but out k i s = some r → Ends D t but out i (D i) s r
  | 0, _, _, _, h => by cases h
  | k + 1, i, s, r, h => augL_ends (fun j s r => aug_ends k j s r) (D i) s r (fun _ h => h) h
/-- The variables S have values, each its own. -/
def Good (D : Int → List Int) (but out : Int) (S : Int → Prop) (own : Int → Option Int) (val : List Int) : Prop :=
  (∀ i, S i → 0 ≤ i ∧ i < (val.length : Int) ∧ val.getD i.toNat 0 ∈ D i ∧ ¬ av but out (val.getD i.toNat 0) ∧ own (val.getD i.toNat 0) = some i) ∧ (∀ v j, own v = some j → ¬ av but out v → S j ∧ val.getD j.toNat 0 = v)
theorem getD_set {l : List Int} {a b : Int} {v : Int} (ha : 0 ≤ a) (hb : 0 ≤ b) (hl : a < (l.length : Int)) : (l.set a.toNat v).getD b.toNat 0 = if b = a then v else l.getD b.toNat 0 := by
  rw [List.getD_eq_getElem?_getD, List.getElem?_set]
  by_cases h : b = a
  · subst h
    rw [if_pos rfl, if_pos (by omega), if_pos rfl]
    rfl
  · rw [if_neg (by omega), if_neg h, List.getD_eq_getElem?_getD]
theorem flipV_length (val : List Int) : ∀ p : List (Int × Int), (flipV val p).length = val.length
  | [] => rfl
  | (i, v) :: p => by rw [flipV, List.length_set, flipV_length val p]
theorem flipO_other {own : Int → Option Int} {v x : Int} {o : Option Int} (hx : x ≠ v) : ∀ p : List (Int × Int), flipO (upd own v o) p x = flipO own p x
  | [] => upd_other own o hx
  | (i, u) :: p => by
    unfold flipO upd
    by_cases h : x = u
    · rw [if_pos h, if_pos h]
    · rw [if_neg h, if_neg h]
      exact flipO_other hx p
theorem flipO_out {own : Int → Option Int} {x : Int} : ∀ p : List (Int × Int), (∀ q ∈ p, q.2 ≠ x) → flipO own p x = own x
  | [], _ => rfl
  | (i, u) :: p, h => by
    unfold flipO
    rw [upd_other _ _ (fun e => h (i, u) (List.mem_cons_self ..) e.symm)]
    exact flipO_out p fun q hq => h q (List.mem_cons_of_mem _ hq)
theorem Way.congr {D : Int → List Int} {but out t : Int} {s : Mt} {own own' : Int → Option Int} : ∀ (p : List (Int × Int)) (i : Int), (∀ q ∈ p, own' q.2 = own q.2) → Way D but out t s own i p → Way D but out t s own' i p
  | [], _, _, h => h
  | (j, v) :: p, i, hq, ⟨a, b, c, d, e, f⟩ => by
    have h0 := hq (j, v) (List.mem_cons_self ..)
    refine ⟨a, b, c, d, e, ?_⟩
    rcases f with ⟨f1, f2⟩ | ⟨k, h1, h2, h3⟩
    · exact .inl ⟨h0.trans f1, f2⟩
    · exact .inr ⟨k, h0.trans h1, h2, Way.congr p k (fun q hm => hq q (List.mem_cons_of_mem _ hm)) h3⟩
theorem flip_good {D : Int → List Int} {but out t : Int} {s : Mt} {val : List Int} : ∀ (p : List (Int × Int)) (i : Int) (S : Int → Prop) (own : Int → Option Int), Good D but out S own val → ¬ S i → 0 ≤ i → i < (val.length : Int) → Way D but out t s own i p → Good D but out (fun k => S k ∨ k = i) (flipO own p) (flipV val p)
  | [], _, _, _, _, _, _, _, h => h.elim
  | (j, v) :: p, i, S, own, hg, hi, h0, h1, ⟨hj, hv, ha, _, he, hf⟩ => by
    subst hj
    -- the rest of the way, over what is left where v is nobody's
    have rest : ∃ (S1 : Int → Prop), Good D but out S1 (flipO (upd own v none) p) (flipV val p) ∧ ∀ k, S1 k ↔ S k := by
      rcases hf with ⟨f1, rfl⟩ | ⟨k, k1, k2, k3⟩
      · refine ⟨S, ⟨fun i hi => ?_, fun u q hq hu => ?_⟩, fun _ => Iff.rfl⟩
        · obtain ⟨x0, x1, x2, x3, x4⟩ := hg.1 i hi
          refine ⟨x0, x1, x2, x3, ?_⟩
          show upd own v none _ = _
          unfold flipV
          rw [upd_other _ _ (fun e => by rw [e, f1] at x4; cases x4)]
          exact x4
        · have hq' : upd own v none u = some q := hq
          by_cases e : u = v
          · subst e; rw [upd_same] at hq'; cases hq'
          · rw [upd_other _ _ e] at hq'
            exact hg.2 u q hq' hu
      · obtain ⟨g1, g2⟩ := hg.2 v k k1 ha
        obtain ⟨x0, x1, _, _, _⟩ := hg.1 k g1
        have ih := flip_good p k (fun m => S m ∧ m ≠ k) (upd own v none) ⟨fun m hm => ?_, fun u q hq hu => ?_⟩ (fun h => h.2 rfl) x0 x1 (Way.congr p k (fun q hq => upd_other _ _ (he q hq)) k3)
        · refine ⟨_, ih, fun m => ⟨?_, fun h => ?_⟩⟩
          · rintro (h | rfl)
            · exact h.1
            · exact g1
          · by_cases e : m = k
            · exact .inr e
            · exact .inl ⟨h, e⟩
        · obtain ⟨y0, y1, y2, y3, y4⟩ := hg.1 m hm.1
          refine ⟨y0, y1, y2, y3, ?_⟩
          rw [upd_other _ _ (fun e => by rw [e, k1] at y4; exact hm.2 (Option.some.inj y4).symm)]
          exact y4
        · by_cases e : u = v
          · subst e; rw [upd_same] at hq; cases hq
          · rw [upd_other _ _ e] at hq
            obtain ⟨z1, z2⟩ := hg.2 u q hq hu
            exact ⟨⟨z1, fun c => e (by rw [← z2, c, g2])⟩, z2⟩
    obtain ⟨S1, r, hS⟩ := rest
    have hnone : flipO (upd own v none) p v = none := by rw [flipO_out p he, upd_same]
    have hsame : ∀ x, x ≠ v → flipO own p x = flipO (upd own v none) p x := fun x hx => (flipO_other hx p).symm
    have hl : (flipV val p).length = val.length := flipV_length val p
    refine ⟨fun k hk => ?_, fun u q hq hu => ?_⟩
    · show 0 ≤ k ∧ k < (((flipV val p).set j.toNat v).length : Int) ∧ ((flipV val p).set j.toNat v).getD k.toNat 0 ∈ D k ∧ ¬ av but out (((flipV val p).set j.toNat v).getD k.toNat 0) ∧ upd (flipO own p) v (some j) (((flipV val p).set j.toNat v).getD k.toNat 0) = some k
      rw [List.length_set, hl]
      by_cases e : k = j
      · subst e
        rw [getD_set h0 h0 (by omega), if_pos rfl, upd_same]
        exact ⟨h0, h1, hv, ha, rfl⟩
      · have hSk : S k := hk.resolve_right e
        obtain ⟨x0, x1, x2, x3, x4⟩ := r.1 k ((hS k).2 hSk)
        rw [hl] at x1
        rw [getD_set h0 x0 (by omega), if_neg e]
        refine ⟨x0, x1, x2, x3, ?_⟩
        have hne : (flipV val p).getD k.toNat 0 ≠ v := fun c => by rw [c, hnone] at x4; cases x4
        rw [upd_other _ _ hne, hsame _ hne]
        exact x4
    · have hq' : upd (flipO own p) v (some j) u = some q := hq
      show (S q ∨ q = j) ∧ ((flipV val p).set j.toNat v).getD q.toNat 0 = u
      by_cases e : u = v
      · subst e
        rw [upd_same] at hq'
        obtain rfl := Option.some.inj hq'
        rw [getD_set h0 h0 (by omega), if_pos rfl]
        exact ⟨.inr rfl, rfl⟩
      · rw [upd_other _ _ e, hsame u e] at hq'
        obtain ⟨z1, z2⟩ := r.2 u q hq' hu
        have hSq := (hS q).1 z1
        obtain ⟨x0, _, _, _, _⟩ := r.1 q z1
        rw [getD_set h0 x0 (by omega), if_neg (fun c : q = j => hi (c ▸ hSq))]
        exact ⟨.inl hSq, z2⟩
/-- As many unlike things as are among others are no more than those. -/
theorem nodup_le {α : Type} [DecidableEq α] : ∀ {l m : List α}, l.Nodup → (∀ x ∈ l, x ∈ m) → l.length ≤ m.length
  | [], _, _, _ => Nat.zero_le _
  | x :: l, m, hn, hs => by
    rw [List.nodup_cons] at hn
    have hx := hs x (List.mem_cons_self ..)
    have h := nodup_le (l := l) (m := m.erase x) hn.2 (fun y hy => (List.mem_erase_of_ne (fun e : y = x => hn.1 (e ▸ hy))).2 (hs y (List.mem_cons_of_mem _ hy)))
    rw [List.length_erase_of_mem hx] at h
    have := List.length_pos_of_mem hx
    rw [List.length_cons]
    omega
theorem nodup_map {α β : Type} {f : α → β} : ∀ {l : List α}, l.Nodup → (∀ x ∈ l, ∀ y ∈ l, f x = f y → x = y) → (l.map f).Nodup
  | [], _, _ => by simp
  | x :: l, hn, hf => by
    rw [List.nodup_cons] at hn
    rw [List.map_cons, List.nodup_cons]
    refine ⟨fun h => ?_, nodup_map hn.2 fun a ha b hb => hf a (List.mem_cons_of_mem _ ha) b (List.mem_cons_of_mem _ hb)⟩
    obtain ⟨y, hy, e⟩ := List.mem_map.1 h
    exact hn.1 (hf x (List.mem_cons_self ..) y (List.mem_cons_of_mem _ hy) e.symm ▸ hy)
/-- Where a search finds nothing, there is nothing. -/
theorem lost_none {D : Int → List Int} {t but out i : Int} {S : Int → Prop} {s s' : Mt} (hg : Good D but out S s.own s.val) (hi : ¬ S i) (hb : ¬ S but) (hf : ∀ v, ¬ vis t s v) (h : Lost D t but out (D i) s s')
    (a : Int → Int) (ha : ∀ k, S k ∨ k = i → a k ∈ D k ∧ ¬ av but out (a k)) (hinj : ∀ k m, (S k ∨ k = i) → (S m ∨ m = i) → a k = a m → k = m) : False := by
  obtain ⟨_, _, L, hn, hv, hL, hu⟩ := h
  have own : ∀ v ∈ L, ∃ k, s.own v = some k ∧ S k ∧ s.val.getD k.toNat 0 = v ∧ ∀ u ∈ D k, av but out u ∨ vis t s' u := by
    intro v hm
    obtain ⟨_, x2, k, x3, x4⟩ := hL v hm
    obtain ⟨y1, y2⟩ := hg.2 v k x3 x2
    exact ⟨k, x3, y1, y2, x4.resolve_left (fun e => hb (e ▸ y1))⟩
  have inL : ∀ u, vis t s' u → u ∈ L := fun u hs => ((hv u).1 hs).resolve_left (hf u)
  let f : Int → Int := fun v => (s.own v).getD 0
  have hfk : ∀ v ∈ L, S (f v) ∧ s.val.getD (f v).toNat 0 = v ∧ ∀ u ∈ D (f v), av but out u ∨ vis t s' u := by
    intro v hm
    obtain ⟨k, x1, x2, x3, x4⟩ := own v hm
    have e : f v = k := by show (s.own v).getD 0 = k; rw [x1]; rfl
    rw [e]
    exact ⟨x2, x3, x4⟩
  have hR : (i :: L.map f).Nodup := by
    rw [List.nodup_cons]
    refine ⟨fun hm => ?_, nodup_map hn fun x hx y hy e => ?_⟩
    · obtain ⟨v, hv', e⟩ := List.mem_map.1 hm
      exact hi (e ▸ (hfk v hv').1)
    · rw [← (hfk x hx).2.1, ← (hfk y hy).2.1, e]
  have hRS : ∀ k ∈ i :: L.map f, (S k ∨ k = i) ∧ a k ∈ L := by
    intro k hk
    rcases List.mem_cons.1 hk with rfl | hk
    · have h1 := ha k (.inr rfl)
      exact ⟨.inr rfl, inL _ ((hu _ h1.1).resolve_left h1.2)⟩
    · obtain ⟨v, hv', rfl⟩ := List.mem_map.1 hk
      obtain ⟨y1, _, y3⟩ := hfk v hv'
      have h1 := ha (f v) (.inl y1)
      exact ⟨.inl y1, inL _ ((y3 _ h1.1).resolve_left h1.2)⟩
  have hm : ((i :: L.map f).map a).Nodup := nodup_map hR fun x hx y hy e => hinj x y (hRS x hx).1 (hRS y hy).1 e
  have hle := nodup_le (m := L) hm fun x hx => by
    obtain ⟨k, hk, rfl⟩ := List.mem_map.1 hx
    exact (hRS k hk).2
  rw [List.length_map, List.length_cons, List.length_map] at hle
  omega
instance visDec (t : Int) (s : Mt) (v : Int) : Decidable (vis t s v) := inferInstanceAs (Decidable ((s.met v).getD 0 = t))
/-- How many variables have values that were not looked at. -/
def cnt (t : Int) (s : Mt) : Nat := (List.range s.val.length).countP fun j => decide (¬ vis t s (s.val.getD j 0))
theorem countP_le' {α : Type} {p q : α → Bool} : ∀ {l : List α}, (∀ x ∈ l, p x = true → q x = true) → l.countP p ≤ l.countP q
  | [], _ => Nat.le_refl _
  | x :: l, h => by
    have ih := countP_le' (l := l) (p := p) (q := q) fun y hy => h y (List.mem_cons_of_mem _ hy)
    rw [List.countP_cons, List.countP_cons]
    by_cases hp : p x = true
    · rw [if_pos hp, if_pos (h x (List.mem_cons_self ..) hp)]; omega
    · rw [if_neg hp]; omega
theorem countP_lt' {α : Type} {p q : α → Bool} : ∀ {l : List α}, (∀ x ∈ l, p x = true → q x = true) → (∃ x ∈ l, p x = false ∧ q x = true) → l.countP p < l.countP q
  | [], _, ⟨_, h, _⟩ => by cases h
  | x :: l, h, ⟨y, hy, h1, h2⟩ => by
    have le := countP_le' (l := l) (p := p) (q := q) fun y hy => h y (List.mem_cons_of_mem _ hy)
    rw [List.countP_cons, List.countP_cons]
    rcases List.mem_cons.1 hy with rfl | hy
    · rw [if_neg (by simp [h1]), if_pos h2]; omega
    · have ih := countP_lt' (l := l) (p := p) (q := q) (fun y hy => h y (List.mem_cons_of_mem _ hy)) ⟨y, hy, h1, h2⟩
      by_cases hp : p x = true
      · rw [if_pos hp, if_pos (h x (List.mem_cons_self ..) hp)]; omega
      · rw [if_neg hp]; omega
/-- Each value's owner has it (those that are left out aside). -/
def Held (but out : Int) (s : Mt) : Prop := ∀ v j, s.own v = some j → ¬ av but out v → 0 ≤ j ∧ j < (s.val.length : Int) ∧ s.val.getD j.toNat 0 = v
theorem Lost.held {D : Int → List Int} {t but out : Int} {vs : List Int} {s s' : Mt} (h : Lost D t but out vs s s') (hh : Held but out s) : Held but out s' ∧ cnt t s' ≤ cnt t s := by
  obtain ⟨a1, a2, L, _, hv, _⟩ := h
  refine ⟨fun v j => by rw [a1, a2]; exact hh v j, ?_⟩
  unfold cnt
  rw [a2]
  refine countP_le' fun j _ hj => ?_
  simp only [decide_eq_true_eq] at hj ⊢
  exact fun h => hj ((hv _).2 (.inl h))
theorem augL_some {D : Int → List Int} {t but out i : Int} {k : Nat} {rec : Int → Mt → Option (Mt × Bool)} (hends : ∀ j s r, rec j s = some r → Ends D t but out j (D j) s r) (hrec : ∀ j s, Held but out s → cnt t s < k → ∃ r, rec j s = some r) :
    ∀ (vs : List Int) (s : Mt), Held but out s → cnt t s ≤ k → ∃ r, augL rec t but out i vs s = some r
  | [], s, _, _ => ⟨_, rfl⟩
  | v :: vs, s, hh, hk => by
    have ih := augL_some (i := i) hends hrec vs
    simp only [augL]
    by_cases c1 : (v = out ∧ 0 ≤ but) ∨ (s.met v).getD 0 = t
    · rw [if_pos c1]
      exact ih s hh hk
    rw [if_neg c1]
    have hv : ¬ vis t s v := fun x => c1 (.inr x)
    have ha : ¬ av but out v := fun x => c1 (.inl x)
    cases ho : s.own v with
    | none => exact ⟨_, rfl⟩
    | some j =>
      obtain ⟨j0, j1, jv⟩ := hh v j ho ha
      have hh1 : Held but out { s with met := upd s.met v (some t) } := hh
      have hlt : cnt t { s with met := upd s.met v (some t) } < cnt t s := by
        unfold cnt
        refine countP_lt' (fun m _ hm => ?_) ⟨j.toNat, List.mem_range.2 (show j.toNat < s.val.length by omega), ?_, ?_⟩
        · simp only [decide_eq_true_eq] at hm ⊢
          exact fun h => hm (vis_upd.2 (.inr h))
        · show decide (¬ vis t _ (s.val.getD j.toNat 0)) = false
          rw [jv]
          exact decide_eq_false fun h => h (vis_upd.2 (.inl rfl))
        · show decide (¬ vis t _ (s.val.getD j.toNat 0)) = true
          rw [jv]
          exact decide_eq_true hv
      by_cases c2 : j = but
      · simp only [if_pos c2]
        exact ih _ hh1 (by omega)
      · simp only [if_neg c2]
        obtain ⟨⟨s2, b⟩, hr⟩ := hrec j _ hh1 (by omega)
        rw [hr]
        cases b with
        | true => exact ⟨_, rfl⟩
        | false =>
          have hl := hends _ _ _ hr
          unfold Ends at hl
          rw [if_neg (by simp)] at hl
          obtain ⟨h1, h2⟩ := hl.held hh1
          exact ih s2 h1 (Nat.le_trans h2 (Nat.le_trans (Nat.le_of_lt hlt) hk))
theorem aug_some {D : Int → List Int} {t but out : Int} : ∀ (k : Nat) (i : Int) (s : Mt), Held but out s → cnt t s < k → ∃ r, aug D t but out k i s = some r
  | 0, _, _, _, h => absurd h (Nat.not_lt_zero _)
  | k + 1, i, s, hh, hk => augL_some (k := k) (fun j s r => aug_ends k j s r) (fun j s h1 h2 => aug_some k j s h1 h2) (D i) s hh (by omega)
theorem cnt_le (t : Int) (s : Mt) : cnt t s ≤ s.val.length := by
  unfold cnt
  exact Nat.le_trans List.countP_le_length (by simp)
theorem Good.held {D : Int → List Int} {but out : Int} {S : Int → Prop} {s : Mt} (h : Good D but out S s.own s.val) : Held but out s := fun v j h1 h2 => by
  obtain ⟨x1, x2⟩ := h.2 v j h1 h2
  obtain ⟨y0, y1, _⟩ := h.1 j x1
  exact ⟨y0, y1, x2⟩
/-- What was looked at was so at elder times. -/
def Elder (t : Int) (s : Mt) : Prop := 0 ≤ t ∧ ∀ v, (s.met v).getD 0 ≤ t
theorem Elder.fresh {t : Int} {s : Mt} (h : Elder t s) (v : Int) : ¬ vis (t + 1) s v := fun e => by
  have h1 := h.2 v
  unfold vis at e
  omega
theorem augL_elder {t but out i : Int} {rec : Int → Mt → Option (Mt × Bool)} (hrec : ∀ j s r, Elder t s → rec j s = some r → Elder t r.1) : ∀ (vs : List Int) (s : Mt) (r : Mt × Bool), Elder t s → augL rec t but out i vs s = some r → Elder t r.1
  | [], s, r, he, h => by
    simp only [augL, Option.some.injEq] at h
    subst h
    exact he
  | v :: vs, s, r, he, h => by
    have ih := augL_elder (but := but) (out := out) (i := i) hrec vs
    have he1 : ∀ (o : Int → Option Int) (l : List Int), Elder t { own := o, val := l, met := upd s.met v (some t) } := fun o l => ⟨he.1, fun u => by
      show (upd s.met v (some t) u).getD 0 ≤ t
      by_cases e : u = v
      · subst e; rw [upd_same]; exact Int.le_refl _
      · rw [upd_other _ _ e]; exact he.2 u⟩
    simp only [augL] at h
    by_cases c1 : (v = out ∧ 0 ≤ but) ∨ (s.met v).getD 0 = t
    · rw [if_pos c1] at h
      exact ih s r he h
    rw [if_neg c1] at h
    cases ho : s.own v with
    | none =>
      rw [ho] at h
      simp only [Option.some.injEq] at h
      subst h
      exact he1 _ _
    | some j =>
      rw [ho] at h
      simp only at h
      by_cases c2 : j = but
      · rw [if_pos c2] at h
        exact ih _ r (he1 _ _) h
      · rw [if_neg c2] at h
        cases hr : rec j { s with met := upd s.met v (some t) } with
        | none => rw [hr] at h; cases h
        | some r2 =>
          rw [hr] at h
          have h2 := hrec _ _ _ (he1 _ _) hr
          obtain ⟨s2, b⟩ := r2
          cases b with
          | false => exact ih s2 r h2 h
          | true =>
            simp only [Option.some.injEq] at h
            subst h
            exact ⟨he.1, h2.2⟩
theorem aug_elder {D : Int → List Int} {t but out : Int} : ∀ (k : Nat) (i : Int) (s : Mt) (r : Mt × Bool), Elder t s → aug D t but out k i s = some r → Elder t r.1
  | 0, _, _, _, _, h => by cases h
  | k + 1, i, s, r, he, h => augL_elder (fun j s r he h => aug_elder k j s r he h) (D i) s r he h
theorem Elder.next {t : Int} {s : Mt} (h : Elder t s) : Elder (t + 1) s := ⟨by have := h.1; omega, fun v => by have := h.2 v; omega⟩
/-- One search, from a matching of S, for a variable that has none. -/
theorem search {D : Int → List Int} {t but out i : Int} {S : Int → Prop} {s : Mt} {k : Nat} (he : Elder t s) (hg : Good D but out S s.own s.val) (hi : ¬ S i) (h0 : 0 ≤ i) (h1 : i < (s.val.length : Int)) (hb : ¬ S but) (hk : s.val.length < k) :
    ∃ s' b, aug D (t + 1) but out k i s = some (s', b) ∧ Elder (t + 1) s' ∧ s'.val.length = s.val.length ∧
      (b = true → Good D but out (fun m => S m ∨ m = i) s'.own s'.val ∧ (∀ v, av but out v → s'.own v = s.own v)) ∧
      (b = false → s'.own = s.own ∧ s'.val = s.val ∧ ∀ a : Int → Int, (∀ m, S m ∨ m = i → a m ∈ D m ∧ ¬ av but out (a m)) → (∀ m q, (S m ∨ m = i) → (S q ∨ q = i) → a m = a q → m = q) → False) := by
  obtain ⟨⟨s', b⟩, hr⟩ := aug_some (D := D) (t := t + 1) k i s hg.held (Nat.lt_of_le_of_lt (cnt_le _ _) hk)
  have h2 := aug_ends k i s _ hr
  have h3 := aug_elder k i s _ he.next hr
  refine ⟨s', b, hr, h3, ?_, ?_, ?_⟩
  · unfold Ends at h2
    by_cases hb' : b = true
    · rw [if_pos hb'] at h2
      obtain ⟨p, _, _, e⟩ := h2
      show s'.val.length = _
      rw [show s'.val = _ from e, flipV_length]
    · rw [if_neg hb'] at h2
      rw [show s'.val = _ from h2.2.1]
  · intro hb'
    unfold Ends at h2
    rw [if_pos hb'] at h2
    obtain ⟨p, hw, e1, e2⟩ := h2
    have e1' : s'.own = _ := e1
    have e2' : s'.val = _ := e2
    rw [e1', e2']
    refine ⟨flip_good p i S s.own hg hi h0 h1 hw, fun v hv => flipO_out p fun q hq e => ?_⟩
    -- no value of a way is left out
    have : ∀ (p : List (Int × Int)) (i : Int), Way D but out (t + 1) s s.own i p → ∀ q ∈ p, ¬ av but out q.2 := by
      intro p
      induction p with
      | nil => intro i h; exact h.elim
      | cons x p ih =>
        obtain ⟨j, u⟩ := x
        rintro i ⟨_, _, c, _, _, f⟩ q hq
        rcases List.mem_cons.1 hq with rfl | hq
        · exact c
        · rcases f with ⟨_, rfl⟩ | ⟨m, _, _, h3⟩
          · cases hq
          · exact ih m h3 q hq
    exact this p i hw q hq (e ▸ hv)
  · intro hb'
    unfold Ends at h2
    rw [if_neg (by simp [hb'])] at h2
    exact ⟨h2.1, h2.2.1, fun a ha hinj => lost_none hg hi hb he.fresh h2 a ha hinj⟩
/-- All variables get values. -/
def matchF (D : Int → List Int) (k : Nat) : Nat → Int → Mt → Int → Option (Mt × Int × Bool)
  | 0, _, s, t => some (s, t, true)
  | m + 1, i, s, t =>
    if t < 1099511627776 then
      match aug D (t + 1) (-1) 0 k i s with
      | none => none
      | some (s2, true) => matchF D k m (i + 1) s2 (t + 1)
      | some (s2, false) => some (s2, t + 1, false)
    else none
/-- Can a variable have a value that is another one's? -/
def movedF (D : Int → List Int) (k : Nat) (i v : Int) (s : Mt) (t : Int) : Option (Mt × Int × Bool) :=
  if t < 1099511627776 then
    match aug D (t + 1) i v k ((s.own v).getD 0) { s with own := upd s.own (s.val.getD i.toNat 0) none } with
    | none => none
    | some (s2, true) => some ({ own := upd s2.own v (some i), val := s2.val.set i.toNat v, met := s2.met }, t + 1, true)
    | some (s2, false) => some ({ s2 with own := upd s2.own (s.val.getD i.toNat 0) (some i) }, t + 1, false)
  else none
def canF (D : Int → List Int) (k : Nat) (i v : Int) (s : Mt) (t : Int) : Option (Mt × Int × Bool) :=
  if s.val.getD i.toNat 0 = v then some (s, t, true)
  else match s.own v with
    | none => some (s, t, true)
    | some _ => movedF D k i v s t
/-- The values that a variable can have. -/
def canL (D : Int → List Int) (k : Nat) (i : Int) : List Int → List Int → Mt → Int → Option (List Int × Mt × Int)
  | [], l, s, t => some (l, s, t)
  | v :: vs, l, s, t =>
    match canF D k i v s t with
    | none => none
    | some (s2, t2, true) => canL D k i vs (l ++ [v]) s2 t2
    | some (s2, t2, false) => canL D k i vs l s2 t2
def filtL (D : Int → List Int) (k : Nat) : Nat → Int → List (List Int) → Mt → Int → Option (List (List Int))
  | 0, _, out, _, _ => some out
  | m + 1, i, out, s, t =>
    match canL D k i (D i) [] s t with
    | none => none
    | some (l, s2, t2) => filtL D k m (i + 1) (out ++ [l]) s2 t2
def mt0 (n : Nat) : Mt := { own := fun _ => none, val := List.replicate n 0, met := fun _ => none }
/-- Values for n variables, each out of its list, all unlike. -/
def Sol (D : Int → List Int) (n : Nat) (a : Int → Int) : Prop :=
  (∀ i : Int, 0 ≤ i → i < n → a i ∈ D i) ∧ ∀ i j : Int, 0 ≤ i → i < n → 0 ≤ j → j < n → a i = a j → i = j
theorem av_no {v : Int} : ¬ av (-1) 0 v := fun h => absurd h.2 (by omega)
theorem match_ok {D : Int → List Int} {k n : Nat} (hk : n < k) : ∀ (m : Nat) (i : Int) (s : Mt) (t : Int), 0 ≤ i → i + m = n → s.val.length = n → Elder t s → Good D (-1) 0 (fun j => 0 ≤ j ∧ j < i) s.own s.val → t + m < 1099511627776 →
    ∃ s' t' b, matchF D k m i s t = some (s', t', b) ∧ t' ≤ t + m ∧ t ≤ t' ∧
      (b = true → s'.val.length = n ∧ Elder t' s' ∧ Good D (-1) 0 (fun j => 0 ≤ j ∧ j < n) s'.own s'.val) ∧ (b = false → ∀ a, ¬ Sol D n a)
  | 0, i, s, t, h0, hm, hl, he, hg, ht => by
    refine ⟨s, t, true, rfl, by omega, by omega, fun _ => ⟨hl, he, ?_⟩, fun h => absurd h (by simp)⟩
    have e : i = (n : Int) := by omega
    rw [e] at hg
    exact hg
  | m + 1, i, s, t, h0, hm, hl, he, hg, ht => by
    obtain ⟨s2, b, h1, h2, h3, h4, h5⟩ := search (D := D) (but := -1) (out := 0) (i := i) (k := k) he hg (by omega) h0 (by omega) (by omega) (by omega)
    simp only [matchF]
    rw [if_pos (by omega), h1]
    cases b with
    | true =>
      have hg2 : Good D (-1) 0 (fun j => 0 ≤ j ∧ j < i + 1) s2.own s2.val := by
        have e : (fun j : Int => (0 ≤ j ∧ j < i) ∨ j = i) = fun j => 0 ≤ j ∧ j < i + 1 := by
          funext j
          exact propext ⟨fun h => by omega, fun h => by omega⟩
        rw [← e]
        exact (h4 rfl).1
      obtain ⟨s', t', b', x1, x2, x3, x4, x5⟩ := match_ok hk m (i + 1) s2 (t + 1) (by omega) (by omega) (by omega) h2 hg2 (by omega)
      exact ⟨s', t', b', x1, by omega, by omega, x4, x5⟩
    | false =>
      refine ⟨s2, t + 1, false, rfl, by omega, by omega, fun h => absurd h (by simp), fun _ a ⟨ha, hi⟩ => ?_⟩
      refine (h5 rfl).2.2 a (fun q hq => ⟨ha q (by omega) (by omega), av_no⟩) (fun p q hp hq e => hi p q (by omega) (by omega) (by omega) (by omega) e)
theorem can_ok {D : Int → List Int} {k n : Nat} (hk : n < k) {i v : Int} {s : Mt} {t : Int} (h0 : 0 ≤ i) (h1 : i < n) (hv : v ∈ D i) (hl : s.val.length = n) (he : Elder t s) (hg : Good D (-1) 0 (fun j => 0 ≤ j ∧ j < n) s.own s.val) (ht : t < 1099511627776) :
    ∃ s' t' b, canF D k i v s t = some (s', t', b) ∧ t' ≤ t + 1 ∧ t ≤ t' ∧ s'.val.length = n ∧ Elder t' s' ∧ Good D (-1) 0 (fun j => 0 ≤ j ∧ j < n) s'.own s'.val ∧ (b = true ↔ ∃ a, Sol D n a ∧ a i = v) := by
  obtain ⟨i0, i1, i2, _, i4⟩ := hg.1 i ⟨h0, h1⟩
  have inj : ∀ p q : Int, 0 ≤ p → p < n → 0 ≤ q → q < n → s.val.getD p.toNat 0 = s.val.getD q.toNat 0 → p = q := by
    intro p q p0 p1 q0 q1 e
    have x1 := (hg.1 p ⟨p0, p1⟩).2.2.2.2
    have x2 := (hg.1 q ⟨q0, q1⟩).2.2.2.2
    rw [e, x2] at x1
    exact (Option.some.inj x1).symm
  unfold canF
  by_cases c1 : s.val.getD i.toNat 0 = v
  · rw [if_pos c1]
    refine ⟨s, t, true, rfl, by omega, by omega, hl, he, hg, fun _ => ⟨fun p => s.val.getD p.toNat 0, ⟨fun p p0 p1 => (hg.1 p ⟨p0, p1⟩).2.2.1, inj⟩, c1⟩, fun _ => rfl⟩
  rw [if_neg c1]
  cases ho : s.own v with
  | none =>
    have hne : ∀ p : Int, 0 ≤ p → p < n → s.val.getD p.toNat 0 ≠ v := fun p p0 p1 e => by
      have x := (hg.1 p ⟨p0, p1⟩).2.2.2.2
      rw [e, ho] at x
      cases x
    refine ⟨s, t, true, rfl, by omega, by omega, hl, he, hg, fun _ => ⟨fun p => if p = i then v else s.val.getD p.toNat 0, ⟨fun p p0 p1 => ?_, fun p q p0 p1 q0 q1 e => ?_⟩, if_pos rfl⟩, fun _ => rfl⟩
    · show (if p = i then v else s.val.getD p.toNat 0) ∈ D p
      by_cases e : p = i
      · subst e; rw [if_pos rfl]; exact hv
      · rw [if_neg e]; exact (hg.1 p ⟨p0, p1⟩).2.2.1
    · have e' : (if p = i then v else s.val.getD p.toNat 0) = if q = i then v else s.val.getD q.toNat 0 := e
      by_cases c : p = i
      · by_cases d : q = i
        · omega
        · rw [if_pos c, if_neg d] at e'
          exact absurd e'.symm (hne q q0 q1)
      · by_cases d : q = i
        · rw [if_neg c, if_pos d] at e'
          exact absurd e' (hne p p0 p1)
        · rw [if_neg c, if_neg d] at e'
          exact inj p q p0 p1 q0 q1 e'
  | some j =>
    obtain ⟨⟨j0, j1⟩, jv⟩ := hg.2 v j ho av_no
    have hji : j ≠ i := fun e => c1 (e ▸ jv)
    have avv : ∀ u, av i v u ↔ u = v := fun u => ⟨fun h => h.1, fun h => ⟨h, h0⟩⟩
    -- the others' matching, where i's value is nobody's
    have hg1 : Good D i v (fun m => (0 ≤ m ∧ m < n) ∧ m ≠ i ∧ m ≠ j) (upd s.own (s.val.getD i.toNat 0) none) s.val := by
      refine ⟨fun m hm => ?_, fun u q hq hu => ?_⟩
      · obtain ⟨m0, m1, m2, _, m4⟩ := hg.1 m hm.1
        have hmv : s.val.getD m.toNat 0 ≠ v := fun e => by
          rw [e, ho] at m4
          exact hm.2.2 (Option.some.inj m4).symm
        refine ⟨m0, m1, m2, fun h => hmv ((avv _).1 h), ?_⟩
        rw [upd_other _ _ (fun e => hm.2.1 (inj m i hm.1.1 hm.1.2 h0 h1 e))]
        exact m4
      · have huv : u ≠ v := fun e => hu ((avv u).2 e)
        by_cases e : u = s.val.getD i.toNat 0
        · rw [e, upd_same] at hq; cases hq
        · rw [upd_other _ _ e] at hq
          obtain ⟨x1, x2⟩ := hg.2 u q hq av_no
          exact ⟨⟨x1, fun c => e (by rw [← x2, c]), fun c => huv (by rw [← x2, c, jv])⟩, x2⟩
    have he1 : Elder t { s with own := upd s.own (s.val.getD i.toNat 0) none } := ⟨he.1, he.2⟩
    obtain ⟨s2, b, y1, y2, y3, y4, y5⟩ := search (D := D) (but := i) (out := v) (i := j) (k := k) (s := { s with own := upd s.own (s.val.getD i.toNat 0) none }) he1 hg1 (by omega) j0 (by show j < (s.val.length : Int); omega) (by omega) (by show s.val.length < k; omega)
    have hset : ∀ m : Int, ((0 ≤ m ∧ m < (n : Int)) ∧ m ≠ i ∧ m ≠ j) ∨ m = j ↔ (0 ≤ m ∧ m < (n : Int)) ∧ m ≠ i := fun m => by omega
    have hl2 : s2.val.length = n := y3.trans hl
    simp only [movedF]
    rw [if_pos ht, ho]
    simp only [Option.getD_some]
    rw [y1]
    cases b with
    | true =>
      obtain ⟨g2, _⟩ := y4 rfl
      have val2 : ∀ m : Int, 0 ≤ m → m < n → m ≠ i → s2.val.getD m.toNat 0 ∈ D m ∧ s2.val.getD m.toNat 0 ≠ v ∧ s2.own (s2.val.getD m.toNat 0) = some m := fun m m0 m1 mi => by
        obtain ⟨_, _, z2, z3, z4⟩ := g2.1 m ((hset m).2 ⟨⟨m0, m1⟩, mi⟩)
        exact ⟨z2, fun e => z3 ((avv _).2 e), z4⟩
      have g3 : Good D (-1) 0 (fun j => 0 ≤ j ∧ j < n) (upd s2.own v (some i)) (s2.val.set i.toNat v) := by
        refine ⟨fun m hm => ?_, fun u q hq _ => ?_⟩
        · rw [List.length_set, hl2, getD_set h0 hm.1 (by omega)]
          by_cases e : m = i
          · subst e
            rw [if_pos rfl, upd_same]
            exact ⟨hm.1, hm.2, hv, av_no, rfl⟩
          · obtain ⟨z1, z2, z3⟩ := val2 m hm.1 hm.2 e
            rw [if_neg e, upd_other _ _ z2]
            exact ⟨hm.1, hm.2, z1, av_no, z3⟩
        · by_cases e : u = v
          · subst e
            rw [upd_same] at hq
            obtain rfl := Option.some.inj hq
            exact ⟨⟨h0, h1⟩, by rw [getD_set h0 h0 (by omega), if_pos rfl]⟩
          · rw [upd_other _ _ e] at hq
            obtain ⟨z1, z2⟩ := g2.2 u q hq (fun h => e ((avv u).1 h))
            have z3 := (hset q).1 z1
            exact ⟨z3.1, by rw [getD_set h0 z3.1.1 (by omega), if_neg z3.2]; exact z2⟩
      refine ⟨_, _, true, rfl, by omega, by omega, by show (s2.val.set i.toNat v).length = n; rw [List.length_set, hl2], ⟨y2.1, y2.2⟩, g3, fun _ => ?_, fun _ => rfl⟩
      refine ⟨fun p => (s2.val.set i.toNat v).getD p.toNat 0, ⟨fun p p0 p1 => (g3.1 p ⟨p0, p1⟩).2.2.1, fun p q p0 p1 q0 q1 e => ?_⟩, ?_⟩
      · have x1 := (g3.1 p ⟨p0, p1⟩).2.2.2.2
        have x2 := (g3.1 q ⟨q0, q1⟩).2.2.2.2
        have e' : (s2.val.set i.toNat v).getD p.toNat 0 = (s2.val.set i.toNat v).getD q.toNat 0 := e
        rw [e', x2] at x1
        exact (Option.some.inj x1).symm
      · show (s2.val.set i.toNat v).getD i.toNat 0 = v
        rw [getD_set h0 h0 (by omega), if_pos rfl]
    | false =>
      obtain ⟨z1, z2, z3⟩ := y5 rfl
      have eo : upd s2.own (s.val.getD i.toNat 0) (some i) = s.own := by
        funext u
        rw [z1]
        by_cases e : u = s.val.getD i.toNat 0
        · rw [e, upd_same]; exact i4.symm
        · rw [upd_other _ _ e]
          exact upd_other _ _ e
      refine ⟨_, _, false, rfl, by omega, by omega, hl2, ⟨y2.1, y2.2⟩, ?_, fun h => absurd h (by simp), fun ⟨a, ⟨ha, hi⟩, e⟩ => ?_⟩
      · show Good D (-1) 0 _ (upd s2.own (s.val.getD i.toNat 0) (some i)) s2.val
        rw [eo, z2]
        exact hg
      · refine (z3 a (fun m hm => ?_) (fun p q hp hq e => ?_)).elim
        · have hm' := (hset m).1 hm
          refine ⟨ha m hm'.1.1 hm'.1.2, fun c => hm'.2 (hi m i hm'.1.1 hm'.1.2 h0 h1 ?_)⟩
          rw [e]
          exact (avv _).1 c
        · have hp' := (hset p).1 hp
          have hq' := (hset q).1 hq
          exact hi p q hp'.1.1 hp'.1.2 hq'.1.1 hq'.1.2 e
open Classical in
theorem canL_ok {D : Int → List Int} {k n : Nat} (hk : n < k) {i : Int} (h0 : 0 ≤ i) (h1 : i < n) : ∀ (vs l : List Int) (s : Mt) (t : Int), (∀ v ∈ vs, v ∈ D i) → s.val.length = n → Elder t s → Good D (-1) 0 (fun j => 0 ≤ j ∧ j < n) s.own s.val → t + vs.length ≤ 1099511627776 →
    ∃ s' t', canL D k i vs l s t = some (l ++ vs.filter (fun v => decide (∃ a, Sol D n a ∧ a i = v)), s', t') ∧ t' ≤ t + vs.length ∧ s'.val.length = n ∧ Elder t' s' ∧ Good D (-1) 0 (fun j => 0 ≤ j ∧ j < n) s'.own s'.val
  | [], l, s, t, _, hl, he, hg, _ => ⟨s, t, by simp [canL], by simp, hl, he, hg⟩
  | v :: vs, l, s, t, hv, hl, he, hg, ht => by
    rw [List.length_cons] at ht
    obtain ⟨s2, t2, b, x1, x2, x3, x4, x5, x6, x7⟩ := can_ok hk h0 h1 (hv v (List.mem_cons_self ..)) hl he hg (by omega)
    have rest := fun l => canL_ok hk h0 h1 vs l s2 t2 (fun u hu => hv u (List.mem_cons_of_mem _ hu)) x4 x5 x6 (by omega)
    simp only [canL]
    rw [x1]
    cases b with
    | true =>
      obtain ⟨s', t', y1, y2, y3⟩ := rest (l ++ [v])
      refine ⟨s', t', ?_, by rw [List.length_cons]; omega, y3⟩
      show canL D k i vs (l ++ [v]) s2 t2 = _
      rw [y1, List.filter_cons, if_pos (decide_eq_true (x7.1 rfl)), List.append_assoc]
      rfl
    | false =>
      obtain ⟨s', t', y1, y2, y3⟩ := rest l
      refine ⟨s', t', ?_, by rw [List.length_cons]; omega, y3⟩
      show canL D k i vs l s2 t2 = _
      rw [y1, List.filter_cons, if_neg (by rw [decide_eq_true_eq]; exact fun h => by simpa using x7.2 h)]
open Classical in
/-- What is left of a list: the values that are in a solution. -/
noncomputable def left (D : Int → List Int) (n : Nat) (i : Int) : List Int := (D i).filter fun v => decide (∃ a, Sol D n a ∧ a i = v)
theorem filtL_ok {D : Int → List Int} {k n c : Nat} (hk : n < k) (hc : ∀ i : Int, 0 ≤ i → i < n → (D i).length ≤ c) : ∀ (m : Nat) (i : Int) (out : List (List Int)) (s : Mt) (t : Int), 0 ≤ i → i + m = n → s.val.length = n → Elder t s → Good D (-1) 0 (fun j => 0 ≤ j ∧ j < n) s.own s.val → t + (m : Int) * c ≤ 1099511627776 →
    filtL D k m i out s t = some (out ++ (List.range m).map fun j : Nat => left D n (i + j))
  | 0, i, out, s, t, _, _, _, _, _, _ => by simp [filtL]
  | m + 1, i, out, s, t, h0, hm, hl, he, hg, ht => by
    have hci := hc i h0 (by omega)
    have e1 : ((m + 1 : Nat) : Int) * c = (m : Int) * c + c := by rw [Int.natCast_succ, Int.add_mul, Int.one_mul]
    have p1 : 0 ≤ (m : Int) * (c : Int) := Int.mul_nonneg (by omega) (by omega)
    obtain ⟨s', t', x1, x2, x3, x4, x5⟩ := canL_ok hk h0 (by omega) (D i) [] s t (fun _ h => h) hl he hg (by omega)
    simp only [filtL]
    rw [x1]
    show filtL D k m (i + 1) (out ++ [[] ++ _]) s' t' = _
    rw [filtL_ok hk hc m (i + 1) _ s' t' (by omega) (by omega) x3 x4 x5 (by omega), List.nil_append, List.range_succ_eq_map, List.map_cons, List.map_map, List.append_assoc]
    have e2 : ((fun j : Nat => left D n (i + j)) ∘ Nat.succ) = fun j : Nat => left D n (i + 1 + j) := by
      funext j
      show left D n (i + ((j + 1 : Nat) : Int)) = _
      rw [show i + ((j + 1 : Nat) : Int) = i + 1 + j by omega]
    rw [e2, show i + ((0 : Nat) : Int) = i by omega]
    rfl
/-- The whole: where there is a solution, the values in solutions; else nothing. -/
theorem whole {D : Int → List Int} {k n c : Nat} (hk : n < k) (hc : ∀ i : Int, 0 ≤ i → i < n → (D i).length ≤ c) (hs : (n : Int) + n * c ≤ 1099511627775) :
    ∃ s t b, matchF D k n 0 (mt0 n) 0 = some (s, t, b) ∧ (b = false → ∀ a, ¬ Sol D n a) ∧
      (b = true → (∃ a, Sol D n a) ∧ filtL D k n 0 [] s t = some ((List.range n).map fun j : Nat => left D n (j : Int))) := by
  have p1 : 0 ≤ (n : Int) * (c : Int) := Int.mul_nonneg (by omega) (by omega)
  obtain ⟨s, t, b, x1, x2, x3, x4, x5⟩ := match_ok hk n 0 (mt0 n) 0 (by omega) (by omega) (by simp [mt0]) ⟨by omega, fun _ => by simp [mt0]⟩ ⟨fun i hi => absurd hi (by omega), fun v j h => by simp [mt0] at h⟩ (by omega)
  refine ⟨s, t, b, x1, x5, fun hb => ?_⟩
  obtain ⟨y1, y2, y3⟩ := x4 hb
  refine ⟨⟨fun p => s.val.getD p.toNat 0, fun p p0 p1 => (y3.1 p ⟨p0, p1⟩).2.2.1, fun p q p0 p1 q0 q1 e => ?_⟩, ?_⟩
  · have x1 := (y3.1 p ⟨p0, p1⟩).2.2.2.2
    have x2 := (y3.1 q ⟨q0, q1⟩).2.2.2.2
    have e' : s.val.getD p.toNat 0 = s.val.getD q.toNat 0 := e
    rw [e', x2] at x1
    exact (Option.some.inj x1).symm
  · rw [filtL_ok hk hc n 0 [] s t (by omega) (by omega) y1 y2 y3 (by omega)]
    simp
/-- The variables below i have their values. -/
def GoodAt (D : Int → List Int) (n : Nat) (t i : Int) (s : Mt) : Prop := s.val.length = n ∧ Elder t s ∧ Good D (-1) 0 (fun j => 0 ≤ j ∧ j < i) s.own s.val
theorem GoodAt.held {D : Int → List Int} {n : Nat} {t i : Int} {s : Mt} (h : GoodAt D n t i s) : Held (-1) 0 s := h.2.2.held
theorem GoodAt.step {D : Int → List Int} {k n : Nat} (hk : n < k) {i t : Int} {s s2 : Mt} (h0 : 0 ≤ i) (h1 : i < n) (h : GoodAt D n t i s) (ha : aug D (t + 1) (-1) 0 k i s = some (s2, true)) : GoodAt D n (t + 1) (i + 1) s2 := by
  obtain ⟨hl, he, hg⟩ := h
  obtain ⟨s3, b, r1, r2, r3, r4, _⟩ := search (D := D) (but := -1) (out := 0) (i := i) (k := k) he hg (by omega) h0 (by omega) (by omega) (by omega)
  rw [ha] at r1
  simp only [Option.some.injEq, Prod.mk.injEq] at r1
  obtain ⟨rfl, rfl⟩ := r1
  refine ⟨r3.trans hl, r2, ?_⟩
  have e : (fun j : Int => (0 ≤ j ∧ j < i) ∨ j = i) = fun j => 0 ≤ j ∧ j < i + 1 := by
    funext j
    exact propext ⟨fun h => by omega, fun h => by omega⟩
  rw [← e]
  exact (r4 rfl).1
theorem GoodAt.start (D : Int → List Int) (n : Nat) : GoodAt D n 0 0 (mt0 n) := by
  refine ⟨by simp [mt0], ⟨Int.le_refl _, fun v => by simp [mt0]⟩, fun i h => by omega, fun v j h => by simp [mt0] at h⟩
theorem GoodAt.val {D : Int → List Int} {n : Nat} {t i : Int} {s : Mt} (h : GoodAt D n t n s) (h0 : 0 ≤ i) (h1 : i < n) : s.val.getD i.toNat 0 ∈ D i := (h.2.2.1 i ⟨h0, h1⟩).2.2.1
theorem GoodAt.less {D : Int → List Int} {n : Nat} {t i : Int} {s : Mt} (h : GoodAt D n t n s) (v : Int) : Held i v { s with own := upd s.own (s.val.getD i.toNat 0) none } := by
  intro u j hu _
  have hu' : upd s.own (s.val.getD i.toNat 0) none u = some j := hu
  by_cases e : u = s.val.getD i.toNat 0
  · rw [e, upd_same] at hu'; cases hu'
  · rw [upd_other _ _ e] at hu'
    obtain ⟨⟨j0, j1⟩, x⟩ := h.2.2.2 u j hu' av_no
    exact ⟨j0, by show j < (s.val.length : Int); rw [h.1]; exact j1, x⟩
theorem GoodAt.can {D : Int → List Int} {k n : Nat} (hk : n < k) {i v t : Int} {s : Mt} {r : Mt × Int × Bool} (h0 : 0 ≤ i) (h1 : i < n) (hv : v ∈ D i) (h : GoodAt D n t n s) (hc : canF D k i v s t = some r) : GoodAt D n r.2.1 n r.1 := by
  obtain ⟨hl, he, hg⟩ := h
  by_cases ht : t < 1099511627776
  · obtain ⟨s', t', b, r1, _, _, r2, r3, r4, _⟩ := can_ok hk h0 h1 hv hl he hg ht
    rw [hc] at r1
    obtain rfl := Option.some.inj r1
    exact ⟨r2, r3, r4⟩
  · unfold canF at hc
    split at hc
    · obtain rfl := Option.some.inj hc
      exact ⟨hl, he, hg⟩
    · split at hc
      · obtain rfl := Option.some.inj hc
        exact ⟨hl, he, hg⟩
      · unfold movedF at hc
        rw [if_neg ht] at hc
        cases hc
theorem GoodAt.all {D : Int → List Int} {k n : Nat} (hk : n < k) : ∀ (m : Nat) (i t : Int) (s s' : Mt) (t' : Int), 0 ≤ i → i + m = n → GoodAt D n t i s → matchF D k m i s t = some (s', t', true) → GoodAt D n t' n s'
  | 0, i, t, s, s', t', h0, hm, h, hf => by
    simp only [matchF, Option.some.injEq, Prod.mk.injEq] at hf
    obtain ⟨rfl, rfl, _⟩ := hf
    have e : i = (n : Int) := by omega
    rw [e] at h
    exact h
  | m + 1, i, t, s, s', t', h0, hm, h, hf => by
    simp only [matchF] at hf
    by_cases ct : t < 1099511627776
    · rw [if_pos ct] at hf
      cases ha : aug D (t + 1) (-1) 0 k i s with
      | none => rw [ha] at hf; cases hf
      | some sb =>
        obtain ⟨s2, b⟩ := sb
        rw [ha] at hf
        cases b with
        | false => simp at hf
        | true => exact GoodAt.all hk m (i + 1) (t + 1) s2 s' t' (by omega) (by omega) (h.step hk h0 (by omega) ha) hf
    · rw [if_neg ct] at hf
      cases hf
/-! A map of whole numbers that the call owns, as a function; the laws at its operations, inside a fence and outside. -/
/-- Block b is a map from numbers to numbers; what it holds is f; its keys are no great ones. -/
def IMap (P : Program) (w : World) (b : Nat) (f : Int → Option Int) : Prop :=
  ∃ (D : DataW Unit) (L : List Int), w.ownsMap P 3 (plainElem P 3) b L.length D ∧ Maps.size D = L.length ∧ L.Nodup ∧ (∀ x ∈ L, -2147483648 ≤ x ∧ x ≤ 2147483647) ∧
    ∀ x, (f x ≠ none ↔ x ∈ L) ∧ Maps.has D (.int .i64 x) = (f x).isSome ∧ D.atKey (.int .i64 x) (.lit (.int .i64 0)) = .lit (.int .i64 ((f x).getD 0))
theorem own_tight {P : Program} {w : World} {k : TypeId} {R : Value → Option (DataW Unit × List MemPlace)} {b n : Nat} {D : DataW Unit} (h : w.ownsMap P k R b n D) : w.ownsMap P k R b (Maps.size D) D := by
  obtain ⟨es, clock, hb, F, hs, rfl⟩ := h
  refine ⟨es, clock, hb, F, ?_, rfl⟩
  rw [Maps.size_eq, length_sorted]
  simp
theorem IMap.lt {P : Program} {w : World} {b : Nat} {f : Int → Option Int} (h : IMap P w b f) : b < w.heap.size := by
  obtain ⟨_, _, h, _⟩ := h
  exact h.lt
theorem IMap.keep {P : Program} {w w' : World} {b : Nat} {f : Int → Option Int} (h : IMap P w b f) (e : w'.heap[b]? = w.heap[b]?) : IMap P w' b f := by
  obtain ⟨D, L, ⟨es, clock, hb, F, hs, hD⟩, r⟩ := h
  exact ⟨D, L, ⟨es, clock, e.trans hb, F, hs, hD⟩, r⟩
theorem IMap.made (P : Program) (w : World) : IMap P (w.alloc (.map #[] 0)) w.heap.size (fun _ => none) :=
  ⟨.map [], [], World.ownsMap_made _ _ _ _, rfl, by simp, by simp, fun x => ⟨by simp, rfl, rfl⟩⟩
/-- There are no more than so many small numbers. -/
theorem small_many {L : List Int} (hn : L.Nodup) (h : ∀ x ∈ L, -2147483648 ≤ x ∧ x ≤ 2147483647) : L.length < maxLen := by
  have h1 := nodup_le (l := L) (m := (List.range 4294967296).map fun i : Nat => (i : Int) - 2147483648) hn fun x hx => by
    have := h x hx
    exact List.mem_map.2 ⟨(x + 2147483648).toNat, List.mem_range.2 (by omega), by omega⟩
  rw [List.length_map, List.length_range] at h1
  unfold maxLen
  omega
theorem IMap.put {P : Program} {w w1 : World} {b n : Nat} {f : Int → Option Int} {D : DataW Unit} {L : List Int} {x v : Int} (he : P.underlying 3 = some (.int .i64)) (hx : -2147483648 ≤ x ∧ x ≤ 2147483647)
    (h : w.ownsMap P 3 (plainElem P 3) b L.length D ∧ Maps.size D = L.length ∧ L.Nodup ∧ (∀ x ∈ L, -2147483648 ≤ x ∧ x ≤ 2147483647) ∧ ∀ x, (f x ≠ none ↔ x ∈ L) ∧ Maps.has D (.int .i64 x) = (f x).isSome ∧ D.atKey (.int .i64 x) (.lit (.int .i64 0)) = .lit (.int .i64 ((f x).getD 0)))
    (h1 : w1.ownsMap P 3 (plainElem P 3) b n (D.put (.int .i64 x) (.lit (.int .i64 v)))) : IMap P w1 b (upd f x (some v)) := by
  obtain ⟨ho, hs, hn, hL, hf⟩ := h
  have T := ho.tidy (Maps.int_keyed he)
  have hsz := Maps.size_put (k := .int .i64 x) T (.lit (.int .i64 v))
  rw [(hf x).2.1] at hsz
  have views : ∀ y, Maps.has (D.put (.int .i64 x) (.lit (.int .i64 v))) (.int .i64 y) = (upd f x (some v) y).isSome ∧ (D.put (.int .i64 x) (.lit (.int .i64 v))).atKey (.int .i64 y) (.lit (.int .i64 0)) = .lit (.int .i64 ((upd f x (some v) y).getD 0)) := by
    intro y
    by_cases e : y = x
    · subst e
      rw [upd_same, Maps.has_put_same T.isMap (show WideAt.IsKeyLit (.int .i64 y) from trivial), Maps.atKey_put_same T.isMap (show WideAt.IsKeyLit (.int .i64 y) from trivial)]
      exact ⟨rfl, rfl⟩
    · have e' : (Lit.int .i64 y) ≠ .int .i64 x := fun c => e (by injection c)
      rw [upd_other _ _ e, Maps.has_put_other e', Maps.atKey_put_other e']
      exact (hf y).2
  by_cases hm : x ∈ L
  · have h2 : (f x).isSome = true := by
      have := (hf x).1.2 hm
      cases h : f x with
      | none => exact absurd h this
      | some _ => rfl
    rw [if_pos h2] at hsz
    have h3 := own_tight h1
    rw [hsz, hs] at h3
    refine ⟨_, L, h3, by rw [hsz, hs], hn, hL, fun y => ⟨?_, views y⟩⟩
    by_cases e : y = x
    · subst e; rw [upd_same]; simp [hm]
    · rw [upd_other _ _ e]; exact (hf y).1
  · have h2 : f x = none := by
      cases h : f x with
      | none => rfl
      | some _ => exact absurd ((hf x).1.1 (by rw [h]; simp)) hm
    rw [h2] at hsz
    simp only [Option.isSome_none, Bool.false_eq_true, if_false] at hsz
    have h3 := own_tight h1
    rw [hsz, hs] at h3
    refine ⟨_, x :: L, by rw [List.length_cons]; exact h3, by rw [hsz, hs, List.length_cons], by rw [List.nodup_cons]; exact ⟨hm, hn⟩, fun y hy => (List.mem_cons.1 hy).elim (fun e => e ▸ hx) (hL y), fun y => ⟨?_, views y⟩⟩
    by_cases e : y = x
    · subst e; rw [upd_same]; simp
    · rw [upd_other _ _ e, List.mem_cons]
      exact (hf y).1.trans ⟨.inr, fun h => h.resolve_left e⟩
theorem IMap.del {P : Program} {w w1 : World} {b n : Nat} {f : Int → Option Int} {D : DataW Unit} {L : List Int} {x : Int} (he : P.underlying 3 = some (.int .i64))
    (h : w.ownsMap P 3 (plainElem P 3) b L.length D ∧ Maps.size D = L.length ∧ L.Nodup ∧ (∀ x ∈ L, -2147483648 ≤ x ∧ x ≤ 2147483647) ∧ ∀ x, (f x ≠ none ↔ x ∈ L) ∧ Maps.has D (.int .i64 x) = (f x).isSome ∧ D.atKey (.int .i64 x) (.lit (.int .i64 0)) = .lit (.int .i64 ((f x).getD 0)))
    (h1 : w1.ownsMap P 3 (plainElem P 3) b n (D.del (.int .i64 x))) : IMap P w1 b (upd f x none) := by
  obtain ⟨ho, hs, hn, hL, hf⟩ := h
  have T := ho.tidy (Maps.int_keyed he)
  have hsz := Maps.size_del (k := .int .i64 x) T
  rw [(hf x).2.1] at hsz
  have views : ∀ y, Maps.has (D.del (.int .i64 x)) (.int .i64 y) = (upd f x none y).isSome ∧ (D.del (.int .i64 x)).atKey (.int .i64 y) (.lit (.int .i64 0)) = .lit (.int .i64 ((upd f x none y).getD 0)) := by
    intro y
    by_cases e : y = x
    · subst e
      rw [upd_same, Maps.has_del_same, Maps.atKey_del_same]
      exact ⟨rfl, rfl⟩
    · have e' : (Lit.int .i64 y) ≠ .int .i64 x := fun c => e (by injection c)
      rw [upd_other _ _ e, Maps.has_del_other e', Maps.atKey_del_other e']
      exact (hf y).2
  by_cases hm : x ∈ L
  · have h2 : (f x).isSome = true := by
      have := (hf x).1.2 hm
      cases h : f x with
      | none => exact absurd h this
      | some _ => rfl
    rw [if_pos h2] at hsz
    have hl : (L.erase x).length = L.length - 1 := List.length_erase_of_mem hm
    have h3 := own_tight h1
    have h4 : Maps.size (D.del (.int .i64 x)) = (L.erase x).length := by rw [hl]; omega
    rw [h4] at h3
    refine ⟨_, L.erase x, h3, h4, hn.erase x, fun y hy => hL y (List.mem_of_mem_erase hy), fun y => ⟨?_, views y⟩⟩
    by_cases e : y = x
    · subst e; rw [upd_same]; simp [hn.mem_erase_iff]
    · rw [upd_other _ _ e, List.mem_erase_of_ne e]; exact (hf y).1
  · have h2 : f x = none := by
      cases h : f x with
      | none => rfl
      | some _ => exact absurd ((hf x).1.1 (by rw [h]; simp)) hm
    rw [h2] at hsz
    simp only [Option.isSome_none, Bool.false_eq_true, if_false, Nat.add_zero] at hsz
    have h3 := own_tight h1
    rw [hsz, hs] at h3
    refine ⟨_, L, h3, by rw [hsz, hs], hn, hL, fun y => ⟨?_, views y⟩⟩
    by_cases e : y = x
    · subst e; rw [upd_same]; simp [hm]
    · rw [upd_other _ _ e]; exact (hf y).1
section
variable {P : Program} {F : Fence} {nF : Nat} (w : World) {ops : Array Oper} {rest : List Oper} {o : Oper} {a : Act} {Q : Exit → Act → World → Prop}
theorem in_mput (hg : o.guard = none) (m x v : Operand) (t : TypeId) (hop : o.op = Op.mapUpdate t m x v) (he : P.underlying 3 = some (.int .i64)) (ht : P.underlying t = some (.map 3 3)) (b : Nat) (f : Int → Option Int)
    (hm : a.eval m = .map (some b)) (h : IMap P w b f) (kx kv : Int) (hx : a.eval x = .int .i64 kx) (hv : a.eval v = .int .i64 kv) (hk : -2147483648 ≤ kx ∧ kx ≤ 2147483647) (hw : -2147483648 ≤ kv ∧ kv ≤ 1099511627776)
    (hK : ∀ w', IMap P w' b (upd f kx (some kv)) → w.grownBy w' (some b) → wpListIn F nF P ops Q rest (a.put o.dst undef) w') : wpListIn F nF P ops Q (o :: rest) a w := by
  obtain ⟨D, L, h⟩ := h
  exact wpListIn_mapUpdate_own (H := Unit) w hg m x v t hop 3 3 (Maps.int_keyed he) ht _ b L.length D hm h.1 (small_many h.2.2.1 h.2.2.2.1) _ _ (.int .i64 kx) hx hv (Maps.keyOf_int_mk he (WalkArith.wf_i64 (by omega))) _ [] (plainElem_int he (WalkArith.wf_i64 (by omega)))
    fun w' h1 h2 => hK w' (IMap.put he hk h h1) h2
theorem in_mget (hg : o.guard = none) (m x : Operand) (t : TypeId) (hop : o.op = Op.lookup t m x false) (he : P.underlying 3 = some (.int .i64)) (ht : P.underlying t = some (.map 3 3)) (hz : ∀ w, (zeroValue 3).run P w = .ok (.int .i64 0) w) (b : Nat) (f : Int → Option Int)
    (hm : a.eval m = .map (some b)) (h : IMap P w b f) (kx : Int) (hx : a.eval x = .int .i64 kx) (hk : -2147483648 ≤ kx ∧ kx ≤ 2147483647)
    (hK : wpListIn F nF P ops Q rest (a.put o.dst (.int .i64 ((f kx).getD 0))) w) : wpListIn F nF P ops Q (o :: rest) a w := by
  obtain ⟨D, L, h⟩ := h
  refine wpListIn_lookup_own_int (H := Unit) w hg m x t hop 3 3 .i64 (Maps.int_keyed he) ht he (hz w) b L.length D hm h.1 _ (.int .i64 kx) hx (Maps.keyOf_int_mk he (WalkArith.wf_i64 (by omega))) fun c hc _ => ?_
  rw [(h.2.2.2.2 kx).2.2] at hc
  injection hc with hc
  injection hc with _ hc
  exact hc ▸ hK
theorem in_mgetok (hg : o.guard = none) (m x : Operand) (t : TypeId) (hop : o.op = Op.lookup t m x true) (he : P.underlying 3 = some (.int .i64)) (ht : P.underlying t = some (.map 3 3)) (hz : ∀ w, (zeroValue 3).run P w = .ok (.int .i64 0) w) (b : Nat) (f : Int → Option Int)
    (hm : a.eval m = .map (some b)) (h : IMap P w b f) (kx : Int) (hx : a.eval x = .int .i64 kx) (hk : -2147483648 ≤ kx ∧ kx ≤ 2147483647)
    (hK : wpListIn F nF P ops Q rest (a.put o.dst (.tuple #[.int .i64 ((f kx).getD 0), .bool (f kx).isSome])) w) : wpListIn F nF P ops Q (o :: rest) a w := by
  obtain ⟨D, L, h⟩ := h
  refine wpListIn_lookup_own_ok_int (H := Unit) w hg m x t hop 3 3 .i64 (Maps.int_keyed he) ht he (hz w) b L.length D hm h.1 _ (.int .i64 kx) hx (Maps.keyOf_int_mk he (WalkArith.wf_i64 (by omega))) fun c hc _ => ?_
  rw [(h.2.2.2.2 kx).2.2] at hc
  injection hc with hc
  injection hc with _ hc
  rw [(h.2.2.2.2 kx).2.1]
  exact hc ▸ hK
theorem out_mput (hg : o.guard = none) (m x v : Operand) (t : TypeId) (hop : o.op = Op.mapUpdate t m x v) (he : P.underlying 3 = some (.int .i64)) (ht : P.underlying t = some (.map 3 3)) (b : Nat) (f : Int → Option Int)
    (hm : a.eval m = .map (some b)) (h : IMap P w b f) (kx kv : Int) (hx : a.eval x = .int .i64 kx) (hv : a.eval v = .int .i64 kv) (hk : -2147483648 ≤ kx ∧ kx ≤ 2147483647) (hw : -2147483648 ≤ kv ∧ kv ≤ 1099511627776)
    (hK : ∀ w', IMap P w' b (upd f kx (some kv)) → w.grownBy w' (some b) → wpList P ops Q rest (a.put o.dst undef) w') : wpList P ops Q (o :: rest) a w := by
  obtain ⟨D, L, h⟩ := h
  exact wpList_mapUpdate_own (H := Unit) w hg m x v t hop 3 3 (Maps.int_keyed he) ht _ b L.length D hm h.1 (small_many h.2.2.1 h.2.2.2.1) _ _ (.int .i64 kx) hx hv (Maps.keyOf_int_mk he (WalkArith.wf_i64 (by omega))) _ [] (plainElem_int he (WalkArith.wf_i64 (by omega)))
    fun w' h1 h2 => hK w' (IMap.put he hk h h1) h2
theorem out_mget (hg : o.guard = none) (m x : Operand) (t : TypeId) (hop : o.op = Op.lookup t m x false) (he : P.underlying 3 = some (.int .i64)) (ht : P.underlying t = some (.map 3 3)) (hz : ∀ w, (zeroValue 3).run P w = .ok (.int .i64 0) w) (b : Nat) (f : Int → Option Int)
    (hm : a.eval m = .map (some b)) (h : IMap P w b f) (kx : Int) (hx : a.eval x = .int .i64 kx) (hk : -2147483648 ≤ kx ∧ kx ≤ 2147483647)
    (hK : wpList P ops Q rest (a.put o.dst (.int .i64 ((f kx).getD 0))) w) : wpList P ops Q (o :: rest) a w := by
  obtain ⟨D, L, h⟩ := h
  refine wpList_lookup_own_int (H := Unit) w hg m x t hop 3 3 .i64 (Maps.int_keyed he) ht he (hz w) b L.length D hm h.1 _ (.int .i64 kx) hx (Maps.keyOf_int_mk he (WalkArith.wf_i64 (by omega))) fun c hc _ => ?_
  rw [(h.2.2.2.2 kx).2.2] at hc
  injection hc with hc
  injection hc with _ hc
  exact hc ▸ hK
theorem out_mgetok (hg : o.guard = none) (m x : Operand) (t : TypeId) (hop : o.op = Op.lookup t m x true) (he : P.underlying 3 = some (.int .i64)) (ht : P.underlying t = some (.map 3 3)) (hz : ∀ w, (zeroValue 3).run P w = .ok (.int .i64 0) w) (b : Nat) (f : Int → Option Int)
    (hm : a.eval m = .map (some b)) (h : IMap P w b f) (kx : Int) (hx : a.eval x = .int .i64 kx) (hk : -2147483648 ≤ kx ∧ kx ≤ 2147483647)
    (hK : wpList P ops Q rest (a.put o.dst (.tuple #[.int .i64 ((f kx).getD 0), .bool (f kx).isSome])) w) : wpList P ops Q (o :: rest) a w := by
  obtain ⟨D, L, h⟩ := h
  refine wpList_lookup_own_ok_int (H := Unit) w hg m x t hop 3 3 .i64 (Maps.int_keyed he) ht he (hz w) b L.length D hm h.1 _ (.int .i64 kx) hx (Maps.keyOf_int_mk he (WalkArith.wf_i64 (by omega))) fun c hc _ => ?_
  rw [(h.2.2.2.2 kx).2.2] at hc
  injection hc with hc
  injection hc with _ hc
  rw [(h.2.2.2.2 kx).2.1]
  exact hc ▸ hK
theorem out_mdel (hg : o.guard = none) (m x : Operand) (t : TypeId) (hop : o.op = Op.call { callee := Callee.builtin Builtin.delete, args := #[m, x], argTypes := #[t, 3] }) (he : P.underlying 3 = some (.int .i64)) (ht : P.underlying t = some (.map 3 3)) (b : Nat) (f : Int → Option Int)
    (hm : a.eval m = .map (some b)) (h : IMap P w b f) (kx : Int) (hx : a.eval x = .int .i64 kx) (hk : -2147483648 ≤ kx ∧ kx ≤ 2147483647)
    (hK : ∀ w', IMap P w' b (upd f kx none) → w.grownBy w' (some b) → wpList P ops Q rest (a.put o.dst (.tuple #[])) w') : wpList P ops Q (o :: rest) a w := by
  obtain ⟨D, L, h⟩ := h
  exact wpList_delete_own (H := Unit) w hg m x t 3 hop 3 (Maps.int_keyed he) ht _ b L.length D hm h.1 _ (.int .i64 kx) hx (Maps.keyOf_int_mk he (WalkArith.wf_i64 (by omega)))
    fun w' h1 h2 => hK w' (IMap.del he h h1) h2.grown
end
theorem IMap.run_get {P : Program} {w : World} {b : Nat} {f : Int → Option Int} (h : IMap P w b f) (t : TypeId) (he : P.underlying 3 = some (.int .i64)) (ht : P.underlying t = some (.map 3 3)) (hz : ∀ w, (zeroValue 3).run P w = .ok (.int .i64 0) w) (kx : Int) (hk : -2147483648 ≤ kx ∧ kx ≤ 2147483647) :
    (Instr.lookup t (.map (some b)) (.int .i64 kx) false).run P w = .ok (.int .i64 ((f kx).getD 0)) w := by
  obtain ⟨D, L, h⟩ := h
  obtain ⟨c, hrun, hc, _⟩ := h.1.lookup_int (Maps.int_keyed he) ht he (hz w) (Maps.keyOf_int_mk (a := kx) he (WalkArith.wf_i64 (by omega)))
  rw [(h.2.2.2.2 kx).2.2] at hc
  injection hc with hc
  injection hc with _ hc
  rw [hc]
  exact hrun
theorem put_step {P : Program} {ops : Array Oper} {o : Oper} {a : Act} {W : World} {Kc : Act → World → Prop} {Q : Exit → Act → World → Prop} (hwn : Region.wanted o (yielded ops a.tmps) = true) (m x v : Operand) (t : TypeId) (hop : o.op = Op.mapUpdate t m x v) (he : P.underlying 3 = some (.int .i64)) (ht : P.underlying t = some (.map 3 3)) (b : Nat) (f : Int → Option Int)
    (hm : a.eval m = .map (some b)) (h : IMap P W b f) (kx kv : Int) (hx : a.eval x = .int .i64 kx) (hv : a.eval v = .int .i64 kv) (hk : -2147483648 ≤ kx ∧ kx ≤ 2147483647) (hw : -2147483648 ≤ kv ∧ kv ≤ 1099511627776)
    (hK : ∀ w', IMap P w' b (upd f kx (some kv)) → W.grownBy w' (some b) → Kc (a.put o.dst undef) w') : if Region.wanted o (yielded ops a.tmps) = true then Oper.wp P o a W Kc Q else Kc (a.put o.dst undef) W := by
  rw [if_pos hwn]
  obtain ⟨D, L, h⟩ := h
  obtain ⟨w', hrun, r1, r2⟩ := h.1.update (Maps.int_keyed he) ht (small_many h.2.2.1 h.2.2.2.1) (val := .int .i64 kv) (Maps.keyOf_int_mk (a := kx) he (WalkArith.wf_i64 (by omega))) (plainElem_int he (WalkArith.wf_i64 (by omega)))
  unfold Oper.wp
  simp [execOp, hop, hm, hx, hv, hrun, Result.andThen]
  exact hK _ (IMap.put he hk h r1) r2

end Go.Proofs.YtckfbfdnlpnllaaGreatDoor.Ad
