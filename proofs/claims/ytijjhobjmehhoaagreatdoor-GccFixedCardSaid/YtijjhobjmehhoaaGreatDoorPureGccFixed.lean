/- The plain law of GccFixed: what the walk computes answers true, for every input. -/
import Derived.Test.YtijjhobjmehhoaaGreatDoorXGFxx22
namespace Go.Proofs.YtijjhobjmehhoaaGreatDoor.Pure
open Go.RowKit Go.Proofs.YtijjhobjmehhoaaGreatDoor.XGccFixed Go.Proofs.YtijjhobjmehhoaaGreatDoorW.PrintWords Go.Proofs.YtijjhobjmehhoaaGreatDoorW.PrintLast Go.Proofs.YtijjhobjmehhoaaGreatDoorW.PrintMore
set_option linter.unusedVariables false
theorem wrap_id {n : Int} (h : -9223372036854775808 ≤ n) (h2 : n ≤ 9223372036854775807) : wrap64 n = n := by unfold wrap64; omega
theorem wrap_succ {j : Nat} (h : j ≤ 1000) : wrap64 ((j : Int) + 1) = ((j + 1 : Nat) : Int) := by rw [wrap_id (by omega) (by omega)]; omega
theorem ind_ {c : Prop} [Decidable c] {α : Type} {a b : α} (h : ¬ c := by decide) : (if c then a else b) = b := if_neg h
theorem obs_ {α β : Type} (a : α) (f : α → Option β) : (some a).bind f = f a := rfl
theorem ino_ {c : Prop} [Decidable c] {α : Type} {a b : α} (h : ¬ c := by omega) : (if c then a else b) = b := if_neg h
theorem ipo_ {c : Prop} [Decidable c] {α : Type} {a b : α} (h : c := by omega) : (if c then a else b) = a := if_pos h
theorem wsu_ {j : Nat} (h : j ≤ 1000 := by omega) : wrap64 ((j : Int) + 1) = ((j + 1 : Nat) : Int) := wrap_succ h
theorem up {α : Type} {f : Nat → Option α} (hm : ∀ k, LeO (f k) (f (k + 1))) {k : Nat} {r : α} (h : f k = some r) : ∀ {k'}, k ≤ k' → f k' = some r := by
 intro k' hk
 induction hk with
 | refl => exact h
 | step _ ih => exact hm _ _ ih
def Small (v : Int) : Prop := -128 ≤ v ∧ v ≤ 127
def offv (v : Int) : Int := Go.bits .andNot .i64 v 63
def bitv (v : Int) : Int := shl .u64 1 (v - offv v)
def D (v : Int) : S58 := ⟨offv v, [bitv v], v, v, 1⟩
theorem by_fin {P : Int → Prop} (h : ∀ i : Fin 256, P ((i.val : Int) - 128)) {v : Int} (hv : Small v) : P v := by
 unfold Small at hv
 have := h ⟨(v + 128).toNat, by omega⟩
 simp only [] at this
 rwa [show (((v + 128).toNat : Nat) : Int) - 128 = v by omega] at this
instance dq3 : DecidableEq (Int × Int × Int) := inferInstance
instance dq4 : DecidableEq (Int × Int × Int × Int) := fun a b => instDecidableEqProd a b
instance dq5 : DecidableEq (List Int × Int × Int × Int × Int) := fun a b => instDecidableEqProd a b
instance dq6 : DecidableEq (Int × List Int × Int × Int × Int × Int) := fun a b => instDecidableEqProd a b
theorem of_all : ∀ i : Fin 256, dom_Of.f 10 [(i.val : Int) - 128] = some (offv ((i.val : Int) - 128), [bitv ((i.val : Int) - 128)], (i.val : Int) - 128, (i.val : Int) - 128, 1, 0) := by decide +kernel
theorem list_all : ∀ i : Fin 256, dom_Dom_List.f 10 (offv ((i.val : Int) - 128)) [bitv ((i.val : Int) - 128)] ((i.val : Int) - 128) ((i.val : Int) - 128) 1 = some [(i.val : Int) - 128] := by decide +kernel
theorem has_all : ∀ i : Fin 256, ∀ j : Fin 257, dom_Dom_Has.f (offv ((i.val : Int) - 128)) [bitv ((i.val : Int) - 128)] ((i.val : Int) - 128) ((i.val : Int) - 128) 1 ((j.val : Int) - 128) = some (decide ((i.val : Int) - 128 = (j.val : Int) - 128)) := by decide +kernel
theorem of_one {v : Int} (hv : Small v) {k : Nat} (hk : 10 ≤ k) : dom_Of.f k [v] = some (offv v, [bitv v], v, v, 1, 0) :=
 up (f := fun k => dom_Of.f k [v]) (dom_Of.mono [v]) (by_fin (P := fun v => dom_Of.f 10 [v] = some (offv v, [bitv v], v, v, 1, 0)) of_all hv) hk
theorem list_one {v : Int} (hv : Small v) {k : Nat} (hk : 10 ≤ k) : dom_Dom_List.f k (offv v) [bitv v] v v 1 = some [v] :=
 up (f := fun k => dom_Dom_List.f k (offv v) [bitv v] v v 1) (dom_Dom_List.mono _ _ _ _ _) (by_fin (P := fun v => dom_Dom_List.f 10 (offv v) [bitv v] v v 1 = some [v]) list_all hv) hk
theorem has_one {v u : Int} (hv : Small v) (hu : -128 ≤ u ∧ u ≤ 128) : dom_Dom_Has.f (offv v) [bitv v] v v 1 u = some (decide (v = u)) := by
 have h := by_fin (P := fun v => ∀ j : Fin 257, dom_Dom_Has.f (offv v) [bitv v] v v 1 ((j.val : Int) - 128) = some (decide (v = (j.val : Int) - 128))) has_all hv ⟨(u + 128).toNat, by omega⟩
 simp only [] at h
 rwa [show (((u + 128).toNat : Nat) : Int) - 128 = u by omega] at h
theorem wakes_true {k : Nat} (hk : 100 ≤ k) : jigsawlaw20_wakes.f k = some true :=
 up (f := fun k => jigsawlaw20_wakes.f k) jigsawlaw20_wakes.mono (by decide +kernel) hk
theorem rd_at (l : List Int) (j : Nat) : rd l (j : Int) = l.getD j 0 := rfl
theorem rdL_at (l : List (List Int)) (j : Nat) : rd_L7 l (j : Int) = l.getD j [] := rfl
theorem rdD_at (l : List S58) (j : Nat) : rd_T58 l (j : Int) = l.getD j z58 := rfl
theorem getD_lt {α : Type} (l : List α) (z : α) {j : Nat} (h : j < l.length) : l.getD j z = l[j] := by
 rw [List.getD_eq_getElem?_getD, List.getElem?_eq_getElem h]; rfl
theorem getD_map {α β : Type} (f : α → β) (l : List α) (z : α) (y : β) {j : Nat} (h : j < l.length) : (l.map f).getD j y = f (l.getD j z) := by
 rw [getD_lt _ _ (by simpa using h), getD_lt _ _ h]; simp
theorem take_step {α : Type} (l : List α) (z : α) {j : Nat} (h : j < l.length) : l.take j ++ [l.getD j z] = l.take (j + 1) := by
 rw [getD_lt _ _ h]; simp
theorem nlt {a b : Nat} (h : a < b) : (a : Int) < (b : Int) := by omega
theorem nge {a b : Nat} (h : ¬ a < b) : ¬ (a : Int) < (b : Int) := by omega
def Places (n : Nat) (r : List Int) : Prop := r.length = n ∧ ∀ x ∈ r, 0 ≤ x ∧ x ≤ 3
theorem places_l0 (l : List Int) (hl : ∀ x ∈ l, 0 ≤ x ∧ x ≤ 255) (n : Nat) (hn : n ≤ 4) : ∀ (m j k : Nat) (acc : List Int), n = j + m → m < k → Places j acc → ∃ r, jigsawref06_places.l0 k l (n : Int) 4 acc (j : Int) = some r ∧ Places n r
 | 0, j, k + 1, acc, e, _, ha => by
  obtain rfl : n = j := by omega
  refine ⟨acc, ?_, ha⟩
  rw [jigsawref06_places.l0, ino_]
 | m + 1, j, k + 1, acc, e, hk, ha => by
  have hj : j < n := by omega
  obtain ⟨h1, h2⟩ := ha
  have hlen : acc.length < 17592186044416 := by omega
  by_cases hx : j < l.length
  ·
   have hm := hl (l.getD j 0) (by rw [getD_lt _ _ hx]; exact List.getElem_mem _)
   obtain ⟨r, hr, hp⟩ := places_l0 l hl n hn m (j + 1) k (acc ++ [Int.tmod (wrap64 (rd l (j : Int))) 4]) (by omega) (by omega) ⟨by simp [h1], fun x hx => by
    rcases List.mem_append.1 hx with h | h
    ·
     exact h2 x h
    ·
     rw [List.mem_singleton] at h
     rw [h, rd_at, wrap_id (by omega) (by omega), Int.tmod_eq_emod_of_nonneg (by omega)]
     omega⟩
   refine ⟨r, ?_, hp⟩
   rw [jigsawref06_places.l0, if_pos (nlt hj), if_pos (nlt hx), ipo_, ind_, if_pos hlen, wsu_]
   exact hr
  ·
   obtain ⟨r, hr, hp⟩ := places_l0 l hl n hn m (j + 1) k (acc ++ [Int.tmod (j : Int) 4]) (by omega) (by omega) ⟨by simp [h1], fun x hx => by
    rcases List.mem_append.1 hx with h | h
    ·
     exact h2 x h
    ·
     rw [List.mem_singleton] at h
     rw [h, Int.tmod_eq_emod_of_nonneg (by omega)]
     omega⟩
   refine ⟨r, ?_, hp⟩
   rw [jigsawref06_places.l0, if_pos (nlt hj), if_neg (nge hx), ind_, if_pos hlen, wsu_]
   exact hr
theorem places_f (l : List Int) (hl : ∀ x ∈ l, 0 ≤ x ∧ x ≤ 255) (n : Nat) (hn : n ≤ 4) {k : Nat} (hk : 5 ≤ k) : ∃ r, jigsawref06_places.f k l (n : Int) 4 = some r ∧ Places n r :=
 places_l0 l hl n hn n 0 k [] (by omega) (by omega) ⟨rfl, fun x hx => by simp at hx⟩
theorem has_f {s : ByteArray} {c r : Int} (h : jigsawref06_has.f 6 s c = some r) {k : Nat} (hk : 6 ≤ k) : jigsawref06_has.f k s c = some r :=
 up (f := fun k => jigsawref06_has.f k s c) (jigsawref06_has.mono _ _) h hk
theorem getD_mem {α : Type} (l : List α) (z : α) {j : Nat} (h : j < l.length) : l.getD j z ∈ l := by
 rw [getD_lt _ _ h]; exact List.getElem_mem _
theorem mid {α : Type} (A B : List α) (a z : α) : (A ++ a :: B).getD A.length z = a := by
 rw [List.getD_eq_getElem?_getD, List.getElem?_append_right (Nat.le_refl _), Nat.sub_self]; rfl
abbrev Cs (T : List (Int × Int × Int)) : List Int := T.map fun t => t.1
abbrev Ds (T : List (Int × Int × Int)) : List Int := T.map fun t => t.2.1
abbrev Es (T : List (Int × Int × Int)) : List Int := T.map fun t => t.2.2
abbrev Tr := Int × Int × Int
def TOk (T : List Tr) : Prop := T ≠ [] ∧ T.length ≤ 3 ∧ (∀ t ∈ T, -5 ≤ t.1 ∧ t.1 ≤ 5 ∧ 0 ≤ t.2.1 ∧ t.2.1 ≤ t.2.2 ∧ t.2.2 ≤ 5) ∧ (Cs T).Pairwise (· < ·)
theorem numbers_ok (l : List Int) (n : Nat) (hn : n ≤ 50) (lo b : Int) (hb : 1 ≤ b ∧ b ≤ 5) : ∀ (m j k : Nat) (acc : List Int), n = j + m → m < k → acc.length = j → (lo = 0 → ∀ x ∈ acc, 0 ≤ x ∧ x ≤ b) →
  ∃ r, jigsawref06_numbers.l0 k l 0 (n : Int) lo b acc (j : Int) = some r ∧ r.length = n ∧ (lo = 0 → ∀ x ∈ r, 0 ≤ x ∧ x ≤ b)
 | 0, j, k + 1, acc, e, _, h1, h2 => ⟨acc, by rw [jigsawref06_numbers.l0, ino_], by omega, h2⟩
 | m + 1, j, k + 1, acc, e, hk, h1, h2 => by
  have hj : j < n := by omega
  have hlen : acc.length < 17592186044416 := by omega
  have ew : wrap64 ((0 : Int) + (j : Int)) = (j : Int) := by rw [wrap_id (by omega) (by omega)]; omega
  have step : ∀ v : Int, (lo = 0 → 0 ≤ v ∧ v ≤ b) → ∃ r, jigsawref06_numbers.l0 k l 0 (n : Int) lo b (acc ++ [v]) (((j + 1 : Nat)) : Int) = some r ∧ r.length = n ∧ (lo = 0 → ∀ x ∈ r, 0 ≤ x ∧ x ≤ b) := fun v hv =>
   numbers_ok l n hn lo b hb m (j + 1) k (acc ++ [v]) (by omega) (by omega) (by simp [h1]) (fun h0 x hx => by
    rcases List.mem_append.1 hx with h | h
    ·
     exact h2 h0 x h
    ·
     rw [List.mem_singleton] at h; rw [h]; exact hv h0)
  have tm : ∀ x : Int, -b < Int.tmod x b ∧ Int.tmod x b < b := fun x => by
   have a := Int.tmod_lt_of_pos x (show 0 < b by omega)
   have c := Int.lt_tmod_of_pos x (show 0 < b by omega)
   exact ⟨c, a⟩
  rw [jigsawref06_numbers.l0, if_pos (nlt hj), ew, wsu_]
  by_cases hx : (j : Int) < (l.length : Int)
  ·
   rw [if_pos hx, ipo_, ino_]
   have := tm (wrap64 (rd l (j : Int)))
   by_cases hz : Int.tmod (wrap64 (rd l (j : Int))) b < 0
   ·
    rw [if_pos hz]
    by_cases h0 : lo ≥ 0
    ·
     rw [if_pos h0, if_pos hlen]
     exact step _ fun _ => by rw [wrap_id (by omega) (by omega)]; omega
    ·
     rw [if_neg h0, if_pos hlen]
     exact step _ fun h => by omega
   ·
    rw [if_neg hz, if_pos hlen]
    exact step _ fun _ => by omega
  ·
   have e1 : (0 : Int) ≤ (1 : Int) % b ∧ (1 : Int) % b < b := ⟨Int.emod_nonneg _ (by omega), Int.emod_lt_of_pos _ (by omega)⟩
   rw [if_neg hx, ino_, ino_, if_pos hlen]
   exact step _ fun _ => by omega
theorem shr_all : ∀ a : Fin 256, ∀ i : Fin 4, 0 ≤ Int.tmod (shr .i64 ((a.val : Nat) : Int) (i.val : Int)) 3 ∧ Int.tmod (shr .i64 ((a.val : Nat) : Int) (i.val : Int)) 3 ≤ 2 := by decide +kernel
theorem shr_3 {a5 : Int} (h : 0 ≤ a5 ∧ a5 ≤ 255) {i : Nat} (hi : i < 4) : 0 ≤ Int.tmod (shr .i64 (wrap64 a5) (i : Int)) 3 ∧ Int.tmod (shr .i64 (wrap64 a5) (i : Int)) 3 ≤ 2 := by
 have := shr_all ⟨a5.toNat, by omega⟩ ⟨i, hi⟩
 rw [wrap_id (by omega) (by omega)]
 rwa [show (((⟨a5.toNat, by omega⟩ : Fin 256).val : Nat) : Int) = a5 from by show ((a5.toNat : Nat) : Int) = a5; omega] at this
theorem getD_app1 (A B : List Int) (z : Int) {i : Nat} (h : i < A.length) : (A ++ B).getD i z = A.getD i z := by
 rw [List.getD_eq_getElem?_getD, List.getD_eq_getElem?_getD, List.getElem?_append_left h]
theorem mk_l1 (N : Nat) (hN : N ≤ 3) (c : Int) (D : List Int) (hD : D.length = N) (hD2 : ∀ x ∈ D, 0 ≤ x ∧ x ≤ 2) (a0 a4 a5 : Int) (h5 : 0 ≤ a5 ∧ a5 ≤ 255) (l1 l2 l3 p C : List Int) (k6 : Int) : ∀ (m j k : Nat) (E : List Int), N = j + m → m < k → E.length = j → (∀ i, i < j → D.getD i 0 ≤ E.getD i 0 ∧ E.getD i 0 ≤ 4) →
  ∃ E', jigsawref06_Make.l1 k (N : Int) (j : Int) a0 l1 l2 l3 a4 a5 21 p C D E k6 = some (21, p, [], C, D, E', k6, []) ∧ E'.length = N ∧ (∀ i, i < N → D.getD i 0 ≤ E'.getD i 0 ∧ E'.getD i 0 ≤ 4)
 | 0, j, k + 1, E, e, _, h1, h2 => ⟨E, by rw [jigsawref06_Make.l1, ino_, ind_], by omega, fun i hi => h2 i (by omega)⟩
 | m + 1, j, k + 1, E, e, hk, h1, h2 => by
  have hj : j < N := by omega
  have hs := shr_3 h5 (i := j) (by omega)
  have hd := hD2 (D.getD j 0) (by rw [getD_lt _ _ (by omega)]; exact List.getElem_mem _)
  rw [jigsawref06_Make.l1, if_pos (nlt hj), ipo_, if_pos (by rw [hD]; exact nlt hj), ipo_, wsu_, rd_at, wrap_id (by omega) (by omega)]
  refine mk_l1 N hN c D hD hD2 a0 a4 a5 h5 l1 l2 l3 p C k6 m (j + 1) k _ (by omega) (by omega) (by simp [h1]) fun i hi => ?_
  by_cases hij : i < j
  ·
   have := h2 i hij
   rw [getD_app1 _ _ _ (by omega)]; exact this
  ·
   obtain rfl : i = j := by omega
   have e2 : (E ++ [D.getD i 0 + Int.tmod (shr .i64 (wrap64 a5) (i : Int)) 3]).getD i 0 = D.getD i 0 + Int.tmod (shr .i64 (wrap64 a5) (i : Int)) 3 := by
    rw [← h1]; exact mid E [] _ 0
   rw [e2]
   omega
theorem mk_l0 (N : Nat) (hN : N ≤ 3) (a0 a4 a5 : Int) (h5 : 0 ≤ a5 ∧ a5 ≤ 255) (h4 : -32768 ≤ a4 ∧ a4 ≤ 32767) (l1 l2 l3 p : List Int) (k6 : Int) : ∀ (m j k : Nat), N = j + m → m + 60 < k →
  ∃ D E : List Int, D.length = N ∧ E.length = N ∧ (∀ i, i < N → 0 ≤ D.getD i 0 ∧ D.getD i 0 ≤ E.getD i 0 ∧ E.getD i 0 ≤ 4) ∧
   jigsawref06_Make.l0 k (N : Int) (j : Int) a0 l1 l2 l3 a4 a5 21 p ((List.range j).map fun i : Nat => Int.tmod a4 3 + (i : Int)) k6 = some (21, p, [], (List.range N).map fun i : Nat => Int.tmod a4 3 + (i : Int), D, E, k6, [])
 | 0, j, k + 1, e, hk => by
  obtain rfl : N = j := by omega
  obtain ⟨D, d1, d2, d3⟩ := numbers_ok l3 N (by omega) 0 2 (by decide) N 0 k [] (by omega) (by omega) rfl (fun _ x hx => by simp at hx)
  have d1' : jigsawref06_numbers.f k l3 0 (N : Int) 0 2 = some D := d1
  obtain ⟨E, e1, e2, e3⟩ := mk_l1 N hN 0 D d2 (d3 rfl) a0 a4 a5 h5 l1 l2 l3 p ((List.range N).map fun i : Nat => Int.tmod a4 3 + (i : Int)) k6 N 0 k [] (by omega) (by omega) rfl (fun i hi => absurd hi (Nat.not_lt_zero i))
  refine ⟨D, E, d2, e2, fun i hi => ⟨(d3 rfl _ (by rw [getD_lt _ _ (by omega)]; exact List.getElem_mem _)).1, e3 i hi⟩, ?_⟩
  rw [jigsawref06_Make.l0, ino_, d1', obs_]
  exact e1
 | m + 1, j, k + 1, e, hk => by
  have hj : j < N := by omega
  obtain ⟨D, E, h1, h2, h3, h4'⟩ := mk_l0 N hN a0 a4 a5 h5 h4 l1 l2 l3 p k6 m (j + 1) k (by omega) (by omega)
  refine ⟨D, E, h1, h2, h3, ?_⟩
  have tm : -3 < Int.tmod a4 3 ∧ Int.tmod a4 3 < 3 := ⟨Int.lt_tmod_of_pos a4 (by decide), Int.tmod_lt_of_pos a4 (by decide)⟩
  rw [jigsawref06_Make.l0, if_pos (nlt hj), if_pos (by simp; omega), wsu_, wrap_id (n := a4) (by omega) (by omega), wrap_id (n := Int.tmod a4 3 + (j : Int)) (by omega) (by omega)]
  rw [List.range_succ, List.map_append] at h4'
  exact h4'
theorem triples (N : Nat) (h1 : 1 ≤ N) (hN : N ≤ 3) (c : Int) (hc : -3 < c ∧ c < 3) (D E : List Int) (hD : D.length = N) (hE : E.length = N) (h : ∀ i, i < N → 0 ≤ D.getD i 0 ∧ D.getD i 0 ≤ E.getD i 0 ∧ E.getD i 0 ≤ 4) :
  ∃ T : List Tr, TOk T ∧ Cs T = (List.range N).map (fun i : Nat => c + (i : Int)) ∧ Ds T = D ∧ Es T = E := by
 refine ⟨(List.range N).map fun i : Nat => (c + (i : Int), D.getD i 0, E.getD i 0), ⟨?_, ?_, ?_, ?_⟩, ?_, ?_, ?_⟩
 ·
  intro h0
  have := congrArg List.length h0
  simp at this; omega
 ·
  simpa using hN
 ·
  intro t ht
  obtain ⟨i, hi, rfl⟩ := List.mem_map.1 ht
  have hi := List.mem_range.1 hi
  have := h i hi
  refine ⟨?_, ?_, ?_, ?_, ?_⟩ <;> simp only [] <;> omega
 ·
  unfold Cs
  rw [List.map_map, List.pairwise_map]
  refine List.pairwise_lt_range.imp fun {a b} hab => ?_
  show c + (a : Int) < c + (b : Int)
  omega
 ·
  unfold Cs; rw [List.map_map]; rfl
 ·
  unfold Ds; rw [List.map_map]
  apply List.ext_getElem
  ·
   simp [hD]
  ·
   intro i h1 h2
   have := getD_lt D 0 h2
   rw [← this]; simp [List.getD_eq_getElem?_getD]
 ·
  unfold Es; rw [List.map_map]
  apply List.ext_getElem
  ·
   simp [hE]
  ·
   intro i h1 h2
   have := getD_lt E 0 h2
   rw [← this]; simp [List.getD_eq_getElem?_getD]
theorem make_f (l1 l2 l3 : List Int) (a4 a5 : Int) (h1 : ∀ x ∈ l1, 0 ≤ x ∧ x ≤ 255) (h4 : -32768 ≤ a4 ∧ a4 ≤ 32767) (h5 : 0 ≤ a5 ∧ a5 ≤ 255) {k : Nat} (hk : 100 ≤ k) :
  ∃ (n : Nat) (p : List Int) (T : List Tr), 1 ≤ n ∧ n ≤ 4 ∧ Places n p ∧ TOk T ∧ jigsawref06_Make.f k 20 l1 l2 l3 a4 a5 4 = some (21, p, [], Cs T, Ds T, Es T, 0, []) := by
 have hw : wrap64 (1 + Int.tmod (wrap64 20) 23) = 21 := by decide +kernel
 have hs : jigsawref06_Shapes.f = some ((jigsawref06_Shapes.f).getD []) := by rfl
 have hlen : ((jigsawref06_Shapes.f).getD []).length = 24 := by decide +kernel
 have hvw : rdOf ByteArray.empty ((jigsawref06_Shapes.f).getD []) 21 = (⟨#[86, 99, 100, 101]⟩ : ByteArray) := by rfl
 obtain ⟨N, n1, n2, en⟩ : ∃ N : Nat, 1 ≤ N ∧ N ≤ 3 ∧ 1 + ((l3.length : Int) % 3) = (N : Int) := ⟨1 + l3.length % 3, by omega, by omega, by omega⟩
 have key : ∀ n : Nat, n ≤ 4 → ∀ k, 80 ≤ k → ∃ p T, Places n p ∧ TOk T ∧ jigsawref06_Make.j1 k 4 (⟨#[86, 99, 100, 101]⟩ : ByteArray) (n : Int) 20 l1 l2 l3 a4 a5 21 0 = some (21, p, [], Cs T, Ds T, Es T, 0, []) := by
  intro n hn k hk
  obtain ⟨k, rfl⟩ : ∃ k', k = k' + 1 := ⟨k - 1, by omega⟩
  obtain ⟨p, hp, hpp⟩ := places_f l1 h1 n hn (k := k) (by omega)
  obtain ⟨r, hr, _, _⟩ := numbers_ok l3 n (by omega) (-1) 5 (by decide) n 0 k [] (by omega) (by omega) rfl (fun h => absurd h (by decide))
  have hr' : jigsawref06_numbers.f k l3 0 (n : Int) (-1) 5 = some r := hr
  obtain ⟨D, E, d1, d2, d3, d4⟩ := mk_l0 N n2 20 a4 a5 h5 h4 l1 l2 l3 p 0 N 0 k (by omega) (by omega)
  have tm : -3 < Int.tmod a4 3 ∧ Int.tmod a4 3 < 3 := ⟨Int.lt_tmod_of_pos a4 (by decide), Int.tmod_lt_of_pos a4 (by decide)⟩
  obtain ⟨T, t1, t2, t3, t4⟩ := triples N n1 n2 _ tm D E d1 d2 d3
  refine ⟨p, T, hpp, t1, ?_⟩
  rw [jigsawref06_Make.j1, has_f (r := 0) (by decide +kernel) (by omega), obs_, ind_, hp, obs_, has_f (r := 0) (by decide +kernel) (by omega), obs_, ind_, has_f (r := 0) (by decide +kernel) (by omega), obs_, ind_, has_f (r := 1) (by decide +kernel) (by omega), obs_, if_pos (by decide), hr', obs_, ind_, has_f (r := 0) (by decide +kernel) (by omega), obs_, ind_, ind_, if_pos rfl, en, t2, t3, t4]
  exact d4
 have key0 : ∀ n : Nat, 1 ≤ n → ∃ (m : Nat) (p : List Int) (T : List Tr), 1 ≤ m ∧ m ≤ 4 ∧ Places m p ∧ TOk T ∧ jigsawref06_Make.j0 k 4 (⟨#[86, 99, 100, 101]⟩ : ByteArray) (n : Int) 20 l1 l2 l3 a4 a5 21 0 = some (21, p, [], Cs T, Ds T, Es T, 0, []) := by
  intro n hn
  obtain ⟨k, rfl⟩ : ∃ k', k = k' + 1 := ⟨k - 1, by omega⟩
  by_cases h4 : n ≤ 4
  ·
   obtain ⟨p, T, hp, hq, e⟩ := key n h4 k (by omega)
   exact ⟨n, p, T, hn, h4, hp, hq, by rw [jigsawref06_Make.j0, ino_]; exact e⟩
  ·
   obtain ⟨p, T, hp, hq, e⟩ := key 4 (by decide) k (by omega)
   exact ⟨4, p, T, by decide, by decide, hp, hq, by rw [jigsawref06_Make.j0, ipo_]; exact e⟩
 unfold jigsawref06_Make.f
 rw [hs, obs_, hw, hlen, if_pos (by decide), if_pos (by decide), hvw]
 by_cases h0 : l1.length < 1
 ·
  rw [ipo_]
  exact key0 1 (by decide)
 ·
  rw [ino_]
  exact key0 l1.length (by omega)
def iota (a n : Nat) : List Int := (List.range n).map fun i => ((a + i : Nat) : Int)
theorem iota_len (a n : Nat) : (iota a n).length = n := by simp [iota]
theorem iota_at (a n j : Nat) (h : j < n) : (iota a n).getD j 0 = ((a + j : Nat) : Int) := by
 rw [getD_lt _ _ (by rw [iota_len]; exact h)]; simp [iota]
theorem iota_succ (a n : Nat) : iota a n ++ [((a + n : Nat) : Int)] = iota a (n + 1) := by simp [iota, List.range_succ]
theorem mem_getD {α : Type} {l : List α} (z : α) {x : α} (h : x ∈ l) : ∃ i, i < l.length ∧ l.getD i z = x := by
 obtain ⟨i, hi, e⟩ := List.getElem_of_mem h
 exact ⟨i, hi, by rw [getD_lt _ _ hi]; exact e⟩
theorem local_l0 (p C D E : List Int) (n : Nat) (hp : p.length = n) (hn : n ≤ 4) : ∀ (m j k : Nat), n = j + m → m + 6 < k →
  jigsawref10_Local.l0 k (j : Int) 21 p [] C D E 0 [] 21 (iota 0 j) C D E 0 [] = some (21, iota 0 n, [], C, D, E, 0, [])
 | 0, j, k + 2, e, _ => by
  obtain rfl : n = j := by omega
  rw [jigsawref10_Local.l0, hp, ino_, jigsawref10_Local.l1, ind_]
 | m + 1, j, k + 1, e, hk => by
  have h := iota_succ 0 j
  rw [Nat.zero_add] at h
  rw [jigsawref10_Local.l0, hp, ipo_, if_pos (by rw [iota_len]; omega), wsu_, h]
  exact local_l0 p C D E n hp hn m (j + 1) k (by omega) (by omega)
theorem local_f (p C D E : List Int) (n : Nat) (hp : p.length = n) (hn : n ≤ 4) {k : Nat} (hk : 11 ≤ k) :
  jigsawref10_Local.f k 21 p [] C D E 0 [] = some (21, iota 0 n, [], C, D, E, 0, []) :=
 local_l0 p C D E n hp hn n 0 k (by omega) (by omega)
theorem doms_l0 (vs : List Int) (hs : ∀ v ∈ vs, Small v) (hl : vs.length ≤ 100) : ∀ (m j k : Nat), vs.length = j + m → m + 11 < k →
  jigsawlaw20_doms.l0 k ((vs.take j).map D) (vs.map fun v => [v]) (vs.length : Int) (j : Int) = some (vs.map D)
 | 0, j, k + 1, e, _ => by
  rw [jigsawlaw20_doms.l0, ino_, List.take_of_length_le (by omega)]
 | m + 1, j, k + 1, e, hk => by
  have hj : j < vs.length := by omega
  have hv := hs (vs.getD j 0) (by rw [getD_lt _ _ hj]; exact List.getElem_mem _)
  rw [jigsawlaw20_doms.l0, if_pos (nlt hj), ipo_, if_pos (by rw [List.length_map]; exact nlt hj), rdL_at, getD_map (fun v => [v]) vs 0 [] hj, of_one hv (by omega), obs_, if_pos (by simp; omega), wsu_]
  have h := doms_l0 vs hs hl m (j + 1) k (by omega) (by omega)
  rw [← take_step vs 0 hj, List.map_append] at h
  exact h
theorem doms_f (vs : List Int) (hs : ∀ v ∈ vs, Small v) (hl : vs.length ≤ 100) {k : Nat} (hk : 200 ≤ k) : jigsawlaw20_doms.f k (vs.map fun v => [v]) = some (vs.map D) := by
 have h := doms_l0 vs hs hl vs.length 0 k (by omega) (by omega)
 unfold jigsawlaw20_doms.f
 rw [List.length_map]
 exact h
theorem lists_l0 (vs : List Int) (hs : ∀ v ∈ vs, Small v) (hl : vs.length ≤ 100) : ∀ (m j k : Nat), vs.length = j + m → m + 11 < k →
  jigsawlaw20_lists.l0 k ((vs.take j).map fun v => [v]) (vs.map D) (vs.length : Int) (j : Int) = some (vs.map fun v => [v])
 | 0, j, k + 1, e, _ => by
  rw [jigsawlaw20_lists.l0, ino_, List.take_of_length_le (by omega)]
 | m + 1, j, k + 1, e, hk => by
  have hj : j < vs.length := by omega
  have hv := hs (vs.getD j 0) (by rw [getD_lt _ _ hj]; exact List.getElem_mem _)
  rw [jigsawlaw20_lists.l0, if_pos (nlt hj), ipo_, if_pos (by rw [List.length_map]; exact nlt hj), rdD_at, getD_map D vs 0 z58 hj]
  show (dom_Dom_List.f k (offv (vs.getD j 0)) [bitv (vs.getD j 0)] (vs.getD j 0) (vs.getD j 0) 1).bind _ = _
  rw [list_one hv (by omega), obs_, if_pos (by simp; omega), wsu_]
  have h := lists_l0 vs hs hl m (j + 1) k (by omega) (by omega)
  rw [← take_step vs 0 hj, List.map_append] at h
  exact h
theorem lists_f (vs : List Int) (hs : ∀ v ∈ vs, Small v) (hl : vs.length ≤ 100) {k : Nat} (hk : 200 ≤ k) : jigsawlaw20_lists.f k (vs.map D) = some (vs.map fun v => [v]) := by
 have h := lists_l0 vs hs hl vs.length 0 k (by omega) (by omega)
 unfold jigsawlaw20_lists.f
 rw [List.length_map]
 exact h
theorem same_l0 (vs : List Int) (hl : vs.length ≤ 100) : ∀ (m j k : Nat), vs.length = j + m → 3 * m < k →
  jigsawref10_Same.l0 k (vs.map fun v => [v]) (vs.map fun v => [v]) (j : Int) = some true
 | 0, j, k + 1, e, _ => by
  rw [jigsawref10_Same.l0, List.length_map, ino_]
 | m + 1, j, k + 1, e, hk => by
  have hj : j < vs.length := by omega
  obtain ⟨k, rfl⟩ : ∃ k', k = k' + 2 := ⟨k - 2, by omega⟩
  have hr : rd_L7 (vs.map fun v => [v]) (j : Int) = [vs.getD j 0] := by rw [rdL_at, getD_map (fun v => [v]) vs 0 [] hj]
  rw [jigsawref10_Same.l0, List.length_map, if_pos (nlt hj), ipo_, if_pos rfl]
  rw [jigsawref10_Same.l1, ipo_, List.length_map, if_pos (nlt hj), hr, if_pos (show (0 : Int) < (([vs.getD j 0] : List Int).length : Int) by simp), if_pos (show (0 : Int) ≤ 0 by decide), if_pos (nlt hj), if_pos (show (0 : Int) < (([vs.getD j 0] : List Int).length : Int) by simp), if_pos rfl]
  rw [jigsawref10_Same.l1, ipo_, List.length_map, if_pos (nlt hj), hr, if_neg (show ¬ wrap64 (0 + 1) < (([vs.getD j 0] : List Int).length : Int) by simp [wrap64]), wsu_]
  exact same_l0 vs hl m (j + 1) k (by omega) (by omega)
theorem same_f (vs : List Int) (hl : vs.length ≤ 100) {k : Nat} (hk : 400 ≤ k) : jigsawref10_Same.f k (vs.map fun v => [v]) (vs.map fun v => [v]) = some true := by
 unfold jigsawref10_Same.f
 rw [if_pos rfl]
 exact same_l0 vs hl vs.length 0 k (by omega) (by omega)
def cnt (v : Int) (rs : List Int) : Nat := rs.countP fun x => decide (x = v)
def Sol (T : List (Int × Int × Int)) (rs : List Int) : Prop := ∀ t ∈ T, t.2.1 ≤ (cnt t.1 rs : Int) ∧ (cnt t.1 rs : Int) ≤ t.2.2
theorem cnt_snoc (v : Int) (a : List Int) (x : Int) : cnt v (a ++ [x]) = cnt v a + (if x = v then 1 else 0) := by
 unfold cnt; rw [List.countP_append, List.countP_cons, List.countP_nil, Nat.zero_add]; simp only [decide_eq_true_eq]
theorem cnt_le (v : Int) (a : List Int) : cnt v a ≤ a.length := List.countP_le_length
theorem idx_fits (vs : List Int) (hl : vs.length ≤ 100) : ∀ (m j k : Nat), vs.length = j + m → m < k → dom_Dom_75_at_prop_Fits_1.l0 k (vs.map D) (vs.length : Int) (j : Int) = some (-1)
 | 0, j, k + 1, e, _ => by rw [dom_Dom_75_at_prop_Fits_1.l0, ino_]
 | m + 1, j, k + 1, e, hk => by
  have hj : j < vs.length := by omega
  rw [dom_Dom_75_at_prop_Fits_1.l0, if_pos (nlt hj), ipo_, List.length_map, if_pos (nlt hj), rdD_at, getD_map D vs 0 z58 hj]
  show (prop_Fits_1.f (offv (vs.getD j 0)) [bitv (vs.getD j 0)] (vs.getD j 0) (vs.getD j 0) 1).bind _ = _
  rw [show prop_Fits_1.f (offv (vs.getD j 0)) [bitv (vs.getD j 0)] (vs.getD j 0) (vs.getD j 0) 1 = some false from rfl, obs_, ind_, wsu_]
  exact idx_fits vs hl m (j + 1) k (by omega) (by omega)
theorem idx_right (l : List Int) (hp : ∀ x ∈ l, 0 ≤ x ∧ x ≤ 3) (hl : l.length ≤ 100) : ∀ (m j k : Nat), l.length = j + m → m < k → slices_IndexFunc_int_int_87_at_model_Right_1.l0 k l (l.length : Int) (j : Int) 256 = some (-1)
 | 0, j, k + 1, e, _ => by rw [slices_IndexFunc_int_int_87_at_model_Right_1.l0, ino_]
 | m + 1, j, k + 1, e, hk => by
  have hj : j < l.length := by omega
  have hv := hp (l.getD j 0) (by rw [getD_lt _ _ hj]; exact List.getElem_mem _)
  rw [slices_IndexFunc_int_int_87_at_model_Right_1.l0, if_pos (nlt hj), ipo_, if_pos (nlt hj), rd_at]
  have hf : model_Right_1.f (l.getD j 0) 256 = some false := by
   unfold model_Right_1.f
   rw [ino_, decide_eq_false (by omega)]
  rw [hf, obs_, ind_, wsu_]
  exact idx_right l hp hl m (j + 1) k (by omega) (by omega)
theorem vars_f (kd : Int) (p : List Int) (n : Nat) (hp : p.length = n) (hn : n ≤ 4) (C D E : List Int) (K : Int) (R : List (List Int)) {k : Nat} (hk : 20 ≤ k) : model_Vars.f k kd p [] C D E K R = some p := by
 obtain ⟨k, rfl⟩ : ∃ k', k = k' + 6 := ⟨k - 6, by omega⟩
 have r0 : rd_L7 [p, []] 0 = p := rfl
 have r1 : rd_L7 [p, []] 1 = ([] : List Int) := rfl
 have e1 : wrap64 (0 + (n : Int)) = (n : Int) := by rw [wrap_id (by omega) (by omega)]; omega
 have e2 : wrap64 ((n : Int) + (([] : List Int).length : Int)) = (n : Int) := by show wrap64 ((n : Int) + 0) = _; rw [wrap_id (by omega) (by omega)]; omega
 have w1 : wrap64 (0 + 1) = 1 := by decide +kernel
 have w2 : wrap64 (1 + 1) = 2 := by decide +kernel
 have hlen : (([p, []] : List (List Int)).length : Int) = 2 := rfl
 unfold model_Vars.f slices_Concat_int_int.f
 rw [hlen, slices_Concat_int_int.l0, if_pos (by decide), if_pos (by decide), hlen, if_pos (by decide), r0, hp, e1, ino_, w1, slices_Concat_int_int.l0, if_pos (by decide), if_pos (by decide), hlen, if_pos (by decide), r1, e2, ino_, w2, slices_Concat_int_int.l0, ind_]
 have hg : slices_GrowNil.f (n : Int) = some [] := by unfold slices_GrowNil.f; rw [if_pos ⟨by omega, by omega⟩]
 rw [hg, obs_, hlen, slices_Concat_int_int.l1, if_pos (by decide), if_pos (by decide), hlen, if_pos (by decide), r0, if_pos (by simp [hp]; omega), w1, slices_Concat_int_int.l1, if_pos (by decide), if_pos (by decide), hlen, if_pos (by decide), r1, if_pos (by simp [hp]; omega), w2, slices_Concat_int_int.l1, ind_, obs_]
 simp
theorem idx_bounded (l : List Int) (lo : Int) (hb : ∀ x ∈ l, lo ≤ x ∧ x ≤ 1000000) (hl : l.length ≤ 100) : ∀ (m j k : Nat), l.length = j + m → m < k → slices_IndexFunc_int_int_87_at_model_bounded_1.l0 k l (l.length : Int) (j : Int) lo = some (-1)
 | 0, j, k + 1, e, _ => by rw [slices_IndexFunc_int_int_87_at_model_bounded_1.l0, ino_]
 | m + 1, j, k + 1, e, hk => by
  have hj : j < l.length := by omega
  have hv := hb (l.getD j 0) (by rw [getD_lt _ _ hj]; exact List.getElem_mem _)
  have hf : model_bounded_1.f (l.getD j 0) lo = some false := by
   unfold model_bounded_1.f
   rw [ino_, decide_eq_false (by omega)]
  rw [slices_IndexFunc_int_int_87_at_model_bounded_1.l0, if_pos (nlt hj), ipo_, if_pos (nlt hj), rd_at, hf, obs_, ind_, wsu_]
  exact idx_bounded l lo hb hl m (j + 1) k (by omega) (by omega)
theorem bounded_f (l : List Int) (lo : Int) (hb : ∀ x ∈ l, lo ≤ x ∧ x ≤ 1000000) (hl : l.length ≤ 100) {k : Nat} (hk : 101 ≤ k) : model_bounded.f k l lo = some true := by
 have h : slices_IndexFunc_int_int_87_at_model_bounded_1.l0 k l (l.length : Int) 0 lo = some (-1) := idx_bounded l lo hb hl l.length 0 k (by omega) (by omega)
 unfold model_bounded.f slices_ContainsFunc_int_int_61_at_model_bounded_1.f slices_IndexFunc_int_int_87_at_model_bounded_1.f
 rw [h, obs_, obs_]
 rfl
theorem insI_lt (a : Int) : ∀ (l : List Int), (∀ x ∈ l, a ≤ x) → Srt.insI a l = a :: l
 | [], _ => rfl
 | b :: l, h => by
  unfold Srt.insI
  rw [if_pos (h b (List.mem_cons_self ..))]
theorem isrt_id : ∀ l : List Int, l.Pairwise (· < ·) → Srt.isrt l = l
 | [], _ => rfl
 | a :: l, h => by
  rw [List.pairwise_cons] at h
  show Srt.insI a (Srt.isrt l) = _
  rw [isrt_id l h.2, insI_lt a l fun x hx => Int.le_of_lt (h.1 x hx)]
theorem inc_ne {l : List Int} (h : l.Pairwise (· < ·)) {i j : Nat} (hij : i < j) (hj : j < l.length) : l.getD i 0 < l.getD j 0 := by
 rw [getD_lt _ _ (by omega), getD_lt _ _ hj]
 exact List.pairwise_iff_getElem.1 h i j (by omega) hj hij
theorem tok_at {T : List Tr} (h : TOk T) {i : Nat} (hi : i < T.length) : -5 ≤ (Cs T).getD i 0 ∧ (Cs T).getD i 0 ≤ 5 ∧ 0 ≤ (Ds T).getD i 0 ∧ (Ds T).getD i 0 ≤ (Es T).getD i 0 ∧ (Es T).getD i 0 ≤ 5 := by
 have e1 : (Cs T).getD i 0 = (T.getD i (0, 0, 0)).1 := getD_map (fun t : Tr => t.1) T (0, 0, 0) 0 hi
 have e2 : (Ds T).getD i 0 = (T.getD i (0, 0, 0)).2.1 := getD_map (fun t : Tr => t.2.1) T (0, 0, 0) 0 hi
 have e3 : (Es T).getD i 0 = (T.getD i (0, 0, 0)).2.2 := getD_map (fun t : Tr => t.2.2) T (0, 0, 0) 0 hi
 rw [e1, e2, e3]
 exact h.2.2.1 _ (getD_mem _ _ hi)
theorem mcounts_l0 (kd : Int) (A B : List Int) (K : Int) (R : List (List Int)) {T : List Tr} (h : TOk T) : ∀ (m j k : Nat), T.length = j + m → m < k → model_counts.l0 k (Cs T) (T.length : Int) (j : Int) kd A B (Cs T) (Ds T) (Es T) K R = some true
 | 0, j, k + 1, e, _ => by rw [model_counts.l0, ino_]
 | m + 1, j, k + 1, e, hk => by
  have hj : j < T.length := by omega
  have h3 := h.2.1
  have ht := tok_at h hj
  have ih := mcounts_l0 kd A B K R h m (j + 1) k (by omega) (by omega)
  rw [model_counts.l0, if_pos (nlt hj), ipo_, if_pos (by rw [List.length_map]; exact nlt hj), if_pos (by rw [List.length_map]; exact nlt hj), rd_at, rd_at, ino_, wsu_]
  by_cases h0 : (j : Int) > 0
  ·
   have ew : wrap64 ((j : Int) - 1) = ((j - 1 : Nat) : Int) := by rw [wrap_id (by omega) (by omega)]; omega
   have hlt := inc_ne h.2.2.2 (i := j - 1) (j := j) (by omega) (by rw [List.length_map]; exact hj)
   rw [if_pos h0, if_pos (by rw [List.length_map]; exact nlt hj), ew, ipo_, if_pos (by rw [List.length_map]; omega), rd_at, rd_at, ino_]
   exact ih
  ·
   rw [if_neg h0]
   exact ih
theorem mcounts_f (A B : List Int) (K : Int) (R : List (List Int)) {T : List Tr} (h : TOk T) {k : Nat} (hk : 10 ≤ k) : model_counts.f k 21 A B (Cs T) (Ds T) (Es T) K R = some true := by
 have h3 := h.2.1
 have h1 : 1 ≤ T.length := List.length_pos_iff.2 h.1
 have hs : slices_Sorted.f (Cs T) = some (Cs T) := by
  unfold slices_Sorted.f
  rw [if_pos ⟨by rw [List.length_map]; exact h1, by rw [List.length_map]; omega⟩, isrt_id _ h.2.2.2]
 unfold model_counts.f
 rw [if_pos rfl, hs, obs_, List.length_map]
 exact mcounts_l0 21 A B K R h T.length 0 k (by omega) (by omega)
theorem right_f (p : List Int) (n : Nat) (h1 : 1 ≤ n) (hn : n ≤ 4) (hp : Places n p) {T : List Tr} (hT : TOk T) {k : Nat} (hk : 200 ≤ k) : model_Right.f k 21 p [] (Cs T) (Ds T) (Es T) 0 [] 256 = some 0 := by
 have hs : model_Shape.f 21 = some (⟨#[86, 99, 100, 101]⟩ : ByteArray) := by decide +kernel
 have h3 := hT.2.1
 have t1 : 1 ≤ T.length := List.length_pos_iff.2 hT.1
 have nm : ∀ (m : Nat) (c d : UInt8), 1 ≤ m → m ≤ 64 → 0 ≤ Lib.indexByte (⟨#[86, 99, 100, 101]⟩ : ByteArray).data.toList d → model_named.f (m : Int) (⟨#[86, 99, 100, 101]⟩ : ByteArray) ⟨#[c]⟩ ⟨#[d]⟩ = some true := by
  intro m c d g1 g2 g3
  unfold model_named.f model_within.f
  rw [show strings_Contains.f (⟨#[86, 99, 100, 101]⟩ : ByteArray) ⟨#[d]⟩ = some (decide (0 ≤ Lib.indexByte (⟨#[86, 99, 100, 101]⟩ : ByteArray).data.toList d)) from rfl, obs_, if_pos (by simpa using g3), ipo_, obs_, decide_eq_true (by omega)]
 have nz : ∀ d : UInt8, Lib.indexByte (⟨#[86, 99, 100, 101]⟩ : ByteArray).data.toList d < 0 → model_named.f 0 (⟨#[86, 99, 100, 101]⟩ : ByteArray) ⟨#[119]⟩ ⟨#[d]⟩ = some true := by
  intro d g
  unfold model_named.f
  rw [show strings_Contains.f (⟨#[86, 99, 100, 101]⟩ : ByteArray) ⟨#[d]⟩ = some (decide (0 ≤ Lib.indexByte (⟨#[86, 99, 100, 101]⟩ : ByteArray).data.toList d)) from rfl, obs_, if_neg (by simp; omega)]
  rfl
 have hc : model_counted.f 21 p [] (Cs T) (Ds T) (Es T) 0 [] (⟨#[86, 99, 100, 101]⟩ : ByteArray) = some true := by
  unfold model_counted.f
  rw [ind_, show strings_Contains.f (⟨#[86, 99, 100, 101]⟩ : ByteArray) ⟨#[114]⟩ = some false from by decide +kernel, obs_, ind_, if_pos (by decide), hp.1, List.length_map, List.length_map, List.length_map, nm n 118 86 h1 (by omega) (by decide +kernel), obs_, if_pos rfl, show (([] : List Int).length : Int) = 0 from rfl, nz 87 (by decide +kernel), obs_, if_pos rfl, nm T.length 45 99 t1 (by omega) (by decide +kernel), obs_, if_pos rfl, nm T.length 45 100 t1 (by omega) (by decide +kernel), obs_, if_pos rfl, nm T.length 45 101 t1 (by omega) (by decide +kernel), obs_]
 have ha : model_alike.f 21 p [] (Cs T) (Ds T) (Es T) 0 [] = some true := by
  unfold model_alike.f
  rw [ind_, ind_, ind_, ind_, ind_, if_pos rfl, List.length_map, List.length_map, List.length_map, if_pos rfl, beq_self_eq_true]
 have hi : slices_ContainsFunc_int_int_61_at_model_Right_1.f k p 256 = some false := by
  unfold slices_ContainsFunc_int_int_61_at_model_Right_1.f slices_IndexFunc_int_int_87_at_model_Right_1.f
  have h := idx_right p hp.2 (by rw [hp.1]; omega) p.length 0 k (by omega) (by rw [hp.1]; omega)
  have h' : slices_IndexFunc_int_int_87_at_model_Right_1.l0 k p (p.length : Int) 0 256 = some (-1) := h
  rw [h', obs_]
  rfl
 have hb : model_numbers.f k 21 p [] (Cs T) (Ds T) (Es T) 0 [] = some true := by
  obtain ⟨k, rfl⟩ : ∃ k', k = k' + 1 := ⟨k - 1, by omega⟩
  have b1 : ∀ x ∈ Cs T, (-1000000 : Int) ≤ x ∧ x ≤ 1000000 := fun x hx => by
   obtain ⟨t, ht, rfl⟩ := List.mem_map.1 hx
   have := hT.2.2.1 t ht
   omega
  have b2 : ∀ x ∈ Ds T, (0 : Int) ≤ x ∧ x ≤ 1000000 := fun x hx => by
   obtain ⟨t, ht, rfl⟩ := List.mem_map.1 hx
   have := hT.2.2.1 t ht
   omega
  have b3 : ∀ x ∈ Es T, (0 : Int) ≤ x ∧ x ≤ 1000000 := fun x hx => by
   obtain ⟨t, ht, rfl⟩ := List.mem_map.1 hx
   have := hT.2.2.1 t ht
   omega
  unfold model_numbers.f
  rw [ind_, if_pos rfl, model_numbers.l0, ind_, bounded_f _ _ b1 (by rw [List.length_map]; omega) (by omega), obs_, if_pos rfl, bounded_f _ _ b2 (by rw [List.length_map]; omega) (by omega), obs_, if_pos rfl, bounded_f _ _ b3 (by rw [List.length_map]; omega) (by omega), obs_, if_pos rfl, if_pos (by decide)]
  rfl
 unfold model_Right.f
 rw [hs, obs_, if_neg (by decide +kernel), hc, obs_, if_pos rfl, ha, obs_, if_pos rfl, if_pos rfl, vars_f 21 p n hp.1 hn _ _ _ _ _ (by omega), obs_, hi, obs_, ind_, hb, obs_, if_pos rfl, mcounts_f _ _ _ _ hT (by omega), obs_, if_pos rfl]
theorem fits_f (p : List Int) (vs : List Int) (n : Nat) (h1 : 1 ≤ n) (hn : n ≤ 4) (hp : Places n p) {T : List Tr} (hT : TOk T) (hv : vs.length = n) {k : Nat} (hk : 200 ≤ k) : prop_Fits.f k 21 p [] (Cs T) (Ds T) (Es T) 0 [] (vs.map D) 21 21 = some true := by
 have hi : dom_Dom_55_at_prop_Fits_1.f k (vs.map D) = some false := by
  unfold dom_Dom_55_at_prop_Fits_1.f dom_Dom_75_at_prop_Fits_1.f
  have h' : dom_Dom_75_at_prop_Fits_1.l0 k (vs.map D) (((vs.map D).length : Nat) : Int) 0 = some (-1) := by
   rw [List.length_map]
   exact idx_fits vs (by omega) vs.length 0 k (by omega) (by omega)
  rw [h', obs_]
  rfl
 have hw : wrap64 ((n : Int) + (([] : List Int).length : Int)) = (n : Int) := by show wrap64 ((n : Int) + 0) = _; rw [wrap_id (by omega) (by omega)]; omega
 unfold prop_Fits.f
 rw [hi, obs_, if_pos (by decide), if_pos (by decide), right_f p n h1 hn hp hT hk, obs_, if_pos rfl, hp.1, hw, List.length_map, ipo_]
 rfl
theorem gcc_l1 (vs : List Int) (n : Nat) (hv : vs.length = n) (hn : n ≤ 4) {T : List Tr} (hT : TOk T) (i : Nat) (hi : i < T.length) : ∀ (m j k : Nat), n = j + m → m < k →
  ∃ k', k' + m + 1 = k ∧ jigsawref09_gcc.l1 k vs (i : Int) ((cnt ((Cs T).getD i 0) (vs.take j) : Nat) : Int) (j : Int) 21 (iota 0 n) [] (Cs T) (Ds T) (Es T) 0 [] =
   if (cnt ((Cs T).getD i 0) vs : Int) < (Ds T).getD i 0 then some false else if (cnt ((Cs T).getD i 0) vs : Int) > (Es T).getD i 0 then some false else jigsawref09_gcc.l0 k' vs (((i + 1 : Nat)) : Int) 21 (iota 0 n) [] (Cs T) (Ds T) (Es T) 0 []
 | 0, j, k + 1, e, hk => by
  have h3 := hT.2.1
  obtain rfl : n = j := by omega
  refine ⟨k, rfl, ?_⟩
  rw [jigsawref09_gcc.l1, iota_len, ino_, ipo_, if_pos (by rw [List.length_map]; exact nlt hi), rd_at, List.take_of_length_le (by omega)]
  by_cases c1 : (cnt ((Cs T).getD i 0) vs : Int) < (Ds T).getD i 0
  ·
   rw [if_pos c1, if_pos c1]
  ·
   rw [if_neg c1, if_neg c1, if_pos (by rw [List.length_map]; exact nlt hi), rd_at, wsu_]
 | m + 1, j, k + 1, e, hk => by
  have h3 := hT.2.1
  have hj : j < n := by omega
  have r1 : rd (iota 0 n) (j : Int) = ((j : Nat) : Int) := by rw [rd_at, iota_at 0 n j hj, Nat.zero_add]
  obtain ⟨k', h1, h2⟩ := gcc_l1 vs n hv hn hT i hi m (j + 1) k (by omega) (by omega)
  refine ⟨k', by omega, ?_⟩
  have ht := take_step vs 0 (j := j) (by omega)
  have hc := cnt_le ((Cs T).getD i 0) (vs.take j)
  rw [List.length_take] at hc
  rw [← ht, cnt_snoc] at h2
  rw [jigsawref09_gcc.l1, iota_len, if_pos (nlt hj), ipo_, r1, ipo_, ipo_, ipo_, if_pos (by rw [List.length_map]; exact nlt hi), rd_at, rd_at, wsu_, wsu_]
  by_cases c : vs.getD j 0 = (Cs T).getD i 0
  ·
   rw [if_pos c]
   rw [if_pos c] at h2
   exact h2
  ·
   rw [if_neg c]
   rw [if_neg c, Nat.add_zero] at h2
   exact h2
theorem gcc_l0 (vs : List Int) (n : Nat) (hv : vs.length = n) (hn : n ≤ 4) {T : List Tr} (hT : TOk T) : ∀ (m i k : Nat), T.length = i + m → 8 * m < k →
  ∃ b : Bool, (b = true ↔ ∀ a, i ≤ a → a < T.length → (Ds T).getD a 0 ≤ (cnt ((Cs T).getD a 0) vs : Int) ∧ (cnt ((Cs T).getD a 0) vs : Int) ≤ (Es T).getD a 0) ∧ jigsawref09_gcc.l0 k vs (i : Int) 21 (iota 0 n) [] (Cs T) (Ds T) (Es T) 0 [] = some b
 | 0, i, k + 1, e, hk => ⟨true, ⟨fun _ a h1 h2 => by omega, fun _ => rfl⟩, by rw [jigsawref09_gcc.l0, if_neg (by rw [List.length_map]; exact nge (by omega))]⟩
 | m + 1, i, k + 1, e, hk => by
  have h3 := hT.2.1
  have hi : i < T.length := by omega
  obtain ⟨k', h1, h2⟩ := gcc_l1 vs n hv hn hT i hi n 0 k (by omega) (by omega)
  have h2' : jigsawref09_gcc.l1 k vs (i : Int) 0 0 21 (iota 0 n) [] (Cs T) (Ds T) (Es T) 0 [] = _ := h2
  rw [jigsawref09_gcc.l0, if_pos (by rw [List.length_map]; exact nlt hi), h2']
  by_cases c1 : (cnt ((Cs T).getD i 0) vs : Int) < (Ds T).getD i 0
  ·
   rw [if_pos c1]
   exact ⟨false, ⟨fun g => (by cases g), fun g => by have := (g i (Nat.le_refl _) hi).1; omega⟩, rfl⟩
  rw [if_neg c1]
  by_cases c2 : (cnt ((Cs T).getD i 0) vs : Int) > (Es T).getD i 0
  ·
   rw [if_pos c2]
   exact ⟨false, ⟨fun g => (by cases g), fun g => by have := (g i (Nat.le_refl _) hi).2; omega⟩, rfl⟩
  rw [if_neg c2]
  obtain ⟨b, hb, e2⟩ := gcc_l0 vs n hv hn hT m (i + 1) k' (by omega) (by omega)
  refine ⟨b, ⟨fun g a g1 g2 => ?_, fun g => hb.2 fun a g1 g2 => g a (by omega) g2⟩, e2⟩
  by_cases ea : a = i
  ·
   rw [ea]; exact ⟨by omega, by omega⟩
  ·
   exact hb.1 g a (by omega) g2
theorem sol_at {T : List Tr} {vs : List Int} : (∀ a, 0 ≤ a → a < T.length → (Ds T).getD a 0 ≤ (cnt ((Cs T).getD a 0) vs : Int) ∧ (cnt ((Cs T).getD a 0) vs : Int) ≤ (Es T).getD a 0) ↔ Sol T vs := by
 have e1 : ∀ i, i < T.length → (Cs T).getD i 0 = (T.getD i (0, 0, 0)).1 := fun i hi => getD_map (fun t : Tr => t.1) T (0, 0, 0) 0 hi
 have e2 : ∀ i, i < T.length → (Ds T).getD i 0 = (T.getD i (0, 0, 0)).2.1 := fun i hi => getD_map (fun t : Tr => t.2.1) T (0, 0, 0) 0 hi
 have e3 : ∀ i, i < T.length → (Es T).getD i 0 = (T.getD i (0, 0, 0)).2.2 := fun i hi => getD_map (fun t : Tr => t.2.2) T (0, 0, 0) 0 hi
 constructor
 ·
  intro h t ht
  obtain ⟨i, hi, rfl⟩ := mem_getD (0, 0, 0) ht
  have := h i (Nat.zero_le _) hi
  rwa [e1 i hi, e2 i hi, e3 i hi] at this
 ·
  intro h a _ ha
  rw [e1 a ha, e2 a ha, e3 a ha]
  exact h _ (getD_mem _ _ ha)
theorem holds_f (vs : List Int) (n : Nat) (hv : vs.length = n) (hn : n ≤ 4) {T : List Tr} (hT : TOk T) {k : Nat} (hk : 60 ≤ k) :
  ∃ b : Bool, (b = true ↔ Sol T vs) ∧ jigsawref09_Holds.f k 21 (iota 0 n) [] (Cs T) (Ds T) (Es T) 0 [] vs = some b := by
 have h3 := hT.2.1
 obtain ⟨b, hb, e⟩ := gcc_l0 vs n hv hn hT T.length 0 k (by omega) (by omega)
 refine ⟨b, hb.trans sol_at, ?_⟩
 have e' : jigsawref09_gcc.l0 k vs 0 21 (iota 0 n) [] (Cs T) (Ds T) (Es T) 0 [] = some b := e
 unfold jigsawref09_Holds.f jigsawref09_gcc.f
 rw [ind_, ind_, ind_, ind_, ind_, ind_, ind_, if_pos rfl, e', obs_]
theorem mid_s (A B : List Int) (a : Int) : ((A ++ a :: B).map D).getD A.length z58 = D a := by
 rw [List.map_append, List.map_cons]
 have := mid (A.map D) (B.map D) (D a) z58
 rwa [List.length_map] at this
theorem cnt_cons (v x : Int) (l : List Int) : cnt v (x :: l) = cnt v l + (if x = v then 1 else 0) := by
 unfold cnt; rw [List.countP_cons]; simp only [decide_eq_true_eq]
theorem counts_s {v : Int} (hv : -128 ≤ v ∧ v ≤ 128) : ∀ (suf pre : List Int) (k a b : Nat), (∀ x ∈ suf, Small x) → (pre ++ suf).length ≤ 100 → a + suf.length ≤ 1000 → b + suf.length ≤ 1000 → suf.length < k →
  gcc_counts.l0 k v (a : Int) (b : Int) ((pre ++ suf).map D) ((pre ++ suf).length : Int) (pre.length : Int) = some (((a + cnt v suf : Nat) : Int), ((b + cnt v suf : Nat) : Int))
 | [], pre, k + 1, a, b, _, hl, _, _, _ => by
  rw [gcc_counts.l0, if_neg (by simp)]
  rfl
 | x :: suf, pre, k + 1, a, b, hg, hl, ha, hb, hk => by
  have hx := hg x List.mem_cons_self
  have hlen : pre.length < (pre ++ x :: suf).length := by simp
  have e1 : pre ++ x :: suf = (pre ++ [x]) ++ suf := by simp
  have hl' : ((pre ++ [x]) ++ suf).length ≤ 100 := by rw [← e1]; exact hl
  have e2 : ((pre ++ [x]).length : Int) = wrap64 ((pre.length : Int) + 1) := by rw [wsu_]; simp
  rw [List.length_cons] at ha hb hk
  have step : ∀ a' b' : Nat, a' + suf.length ≤ 1000 → b' + suf.length ≤ 1000 → gcc_counts.l0 k v (a' : Int) (b' : Int) ((pre ++ x :: suf).map D) ((pre ++ x :: suf).length : Int) (wrap64 ((pre.length : Int) + 1)) = some (((a' + cnt v suf : Nat) : Int), ((b' + cnt v suf : Nat) : Int)) := by
   intro a' b' h1 h2
   have h := counts_s hv suf (pre ++ [x]) k a' b' (fun y hy => hg y (List.mem_cons_of_mem _ hy)) hl' h1 h2 (by omega)
   rw [← e1, e2] at h
   exact h
  rw [gcc_counts.l0, if_pos (nlt hlen), ipo_, List.length_map, if_pos (nlt hlen), rdD_at, mid_s, cnt_cons]
  show (dom_Dom_Has.f (offv x) [bitv x] x x 1 v).bind _ = _
  rw [has_one hx hv, obs_]
  by_cases c : x = v
  ·
   rw [if_pos (decide_eq_true c), if_pos c]
   have hz : dom_Dom_Size.f (D x).f0 (D x).f1 (D x).f2 (D x).f3 (D x).f4 = some 1 := rfl
   rw [hz, obs_, if_pos rfl, wrap_succ (j := a) (by omega), wrap_succ (j := b) (by omega), step (a + 1) (b + 1) (by omega) (by omega)]
   congr 3 <;> omega
  ·
   rw [if_neg (by simpa using c), if_neg c, Nat.add_zero]
   exact step a b (by omega) (by omega)
theorem counts_sf {v : Int} (hv : -128 ≤ v ∧ v ≤ 128) (vs : List Int) (hs : ∀ x ∈ vs, Small x) (hl : vs.length ≤ 100) {k : Nat} (hk : 200 ≤ k) : gcc_counts.f k (vs.map D) v = some ((cnt v vs : Int), (cnt v vs : Int)) := by
 have h := counts_s hv vs [] k 0 0 hs (by simpa using hl) (by omega) (by omega) (by omega)
 unfold gcc_counts.f
 rw [List.length_map]
 simpa using h
theorem ones_l1 {v : Int} (hv : -128 ≤ v ∧ v ≤ 128) (lo' c : Int) (vs : List Int) (hs : ∀ x ∈ vs, Small x) (hl : vs.length ≤ 100) : ∀ (m j k : Nat), vs.length = j + m → m < k →
  gcc_one.l1 k v lo' c false (vs.length : Int) (j : Int) (vs.map D) = some (vs.map D, false, c == lo')
 | 0, j, k + 1, e, _ => by rw [gcc_one.l1, ino_]
 | m + 1, j, k + 1, e, hk => by
  have hj : j < vs.length := by omega
  have hx := hs _ (getD_mem vs 0 hj)
  have ih := ones_l1 hv lo' c vs hs hl m (j + 1) k (by omega) (by omega)
  rw [gcc_one.l1, if_pos (nlt hj), ipo_, List.length_map, if_pos (nlt hj), rdD_at, getD_map D vs 0 z58 hj]
  show (dom_Dom_Has.f (offv (vs.getD j 0)) [bitv (vs.getD j 0)] (vs.getD j 0) (vs.getD j 0) 1 v).bind _ = _
  rw [has_one hx hv, obs_, wsu_]
  by_cases c : vs.getD j 0 = v
  ·
   rw [if_pos (decide_eq_true c)]
   have hz : dom_Dom_Size.f (D (vs.getD j 0)).f0 (D (vs.getD j 0)).f1 (D (vs.getD j 0)).f2 (D (vs.getD j 0)).f3 (D (vs.getD j 0)).f4 = some 1 := rfl
   rw [hz, obs_, ind_]
   exact ih
  ·
   rw [if_neg (by simpa using c)]
   exact ih
theorem ones_l0 {v : Int} (hv : -128 ≤ v ∧ v ≤ 128) (lo' hi' s : Int) (vs : List Int) (hs : ∀ x ∈ vs, Small x) (hl : vs.length ≤ 100) : ∀ (m j k : Nat), vs.length = j + m → m + 300 < k →
  gcc_one.l0 k v lo' hi' s false (vs.length : Int) (j : Int) (vs.map D) = some (vs.map D, false, decide ((cnt v vs : Int) ≥ lo'))
 | 0, j, k + 1, e, hk => by
  rw [gcc_one.l0, ino_, counts_sf hv vs hs hl (by omega), obs_]
  by_cases c : (cnt v vs : Int) > lo'
  ·
   rw [if_pos c, decide_eq_true (by omega)]
  ·
   have h := ones_l1 hv lo' (cnt v vs : Int) vs hs hl vs.length 0 k (by omega) (by omega)
   have h' : gcc_one.l1 k v lo' (cnt v vs : Int) false (vs.length : Int) 0 (vs.map D) = _ := h
   rw [if_neg c, List.length_map, h']
   congr 3
   by_cases d : (cnt v vs : Int) = lo'
   ·
    rw [d, beq_self_eq_true, decide_eq_true (Int.le_refl _)]
   ·
    rw [beq_eq_false_iff_ne.2 d, decide_eq_false (by omega)]
 | m + 1, j, k + 1, e, hk => by
  have hj : j < vs.length := by omega
  have hx := hs _ (getD_mem vs 0 hj)
  have ih := ones_l0 hv lo' hi' s vs hs hl m (j + 1) k (by omega) (by omega)
  rw [gcc_one.l0, if_pos (nlt hj), ipo_, List.length_map, if_pos (nlt hj), rdD_at, getD_map D vs 0 z58 hj, wsu_]
  by_cases cs : s = hi'
  ·
   rw [if_pos cs]
   show (dom_Dom_Has.f (offv (vs.getD j 0)) [bitv (vs.getD j 0)] (vs.getD j 0) (vs.getD j 0) 1 v).bind _ = _
   rw [has_one hx hv, obs_]
   by_cases c : vs.getD j 0 = v
   ·
    rw [if_pos (decide_eq_true c)]
    have hz : dom_Dom_Size.f (D (vs.getD j 0)).f0 (D (vs.getD j 0)).f1 (D (vs.getD j 0)).f2 (D (vs.getD j 0)).f3 (D (vs.getD j 0)).f4 = some 1 := rfl
    rw [hz, obs_, ind_]
    exact ih
   ·
    rw [if_neg (by simpa using c)]
    exact ih
  ·
   rw [if_neg cs]
   exact ih
theorem one_s {v : Int} (hv : -128 ≤ v ∧ v ≤ 128) (lo' hi' : Int) (vs : List Int) (hs : ∀ x ∈ vs, Small x) (hl : vs.length ≤ 100) {k : Nat} (hk : 500 ≤ k) :
  gcc_one.f k (vs.map D) v lo' hi' = some (vs.map D, false, decide (lo' ≤ (cnt v vs : Int) ∧ (cnt v vs : Int) ≤ hi')) := by
 obtain ⟨k, rfl⟩ : ∃ k', k = k' + 1 := ⟨k - 1, by omega⟩
 unfold gcc_one.f
 rw [counts_sf hv vs hs hl (by omega), obs_]
 by_cases c1 : (cnt v vs : Int) > hi'
 ·
  rw [if_pos c1, gcc_one.j0, if_pos rfl, decide_eq_false (by omega)]
 ·
  rw [if_neg c1]
  by_cases c2 : (cnt v vs : Int) < lo'
  ·
   rw [decide_eq_true c2, gcc_one.j0, if_pos rfl, decide_eq_false (by omega)]
  ·
   have h := ones_l0 hv lo' hi' (cnt v vs : Int) vs hs hl vs.length 0 k (by omega) (by omega)
   have h' : gcc_one.l0 k v lo' hi' (cnt v vs : Int) false (vs.length : Int) 0 (vs.map D) = _ := h
   rw [decide_eq_false c2, gcc_one.j0, ind_, List.length_map, h', decide_eq_true (by omega), decide_eq_true ⟨by omega, by omega⟩]
theorem fil_l1 (p : List Int) {T : List Tr} (hT : TOk T) (vs : List Int) (hs : ∀ x ∈ vs, Small x) (hl : vs.length ≤ 100) : ∀ (m i k : Nat), T.length = i + m → m + 600 < k →
  ∃ b : Bool, (b = true ↔ ∀ a, i ≤ a → a < T.length → (Ds T).getD a 0 ≤ (cnt ((Cs T).getD a 0) vs : Int) ∧ (cnt ((Cs T).getD a 0) vs : Int) ≤ (Es T).getD a 0) ∧ gcc_Filter.l1 k (vs.map D) false (Cs T) ((Cs T).length : Int) (i : Int) 21 p [] (Cs T) (Ds T) (Es T) 0 [] = some (if b = true then vs.map D else [], b)
 | 0, i, k + 1, e, hk => ⟨true, ⟨fun _ a h1 h2 => by omega, fun _ => rfl⟩, by rw [gcc_Filter.l1, if_neg (by rw [List.length_map]; exact nge (by omega)), ind_, if_pos rfl]⟩
 | m + 1, i, k + 1, e, hk => by
  have h3 := hT.2.1
  have hi : i < T.length := by omega
  have hv := tok_at hT hi
  rw [gcc_Filter.l1, if_pos (by rw [List.length_map]; exact nlt hi), ipo_, if_pos (by rw [List.length_map]; exact nlt hi), if_pos (by rw [List.length_map]; exact nlt hi), if_pos (by rw [List.length_map]; exact nlt hi), rd_at, rd_at, rd_at, one_s (by omega) _ _ vs hs hl (by omega), obs_, wsu_]
  by_cases c : (Ds T).getD i 0 ≤ (cnt ((Cs T).getD i 0) vs : Int) ∧ (cnt ((Cs T).getD i 0) vs : Int) ≤ (Es T).getD i 0
  ·
   obtain ⟨b, hb, e2⟩ := fil_l1 p hT vs hs hl m (i + 1) k (by omega) (by omega)
   rw [decide_eq_true c, if_pos rfl, if_neg (show ¬ (false = true) by decide)]
   refine ⟨b, ⟨fun g a g1 g2 => ?_, fun g => hb.2 fun a g1 g2 => g a (by omega) g2⟩, e2⟩
   by_cases ea : a = i
   ·
    rw [ea]; exact c
   ·
    exact hb.1 g a (by omega) g2
  ·
   rw [decide_eq_false c, if_neg (show ¬ (false = true) by decide)]
   exact ⟨false, ⟨fun g => (by cases g), fun g => absurd (g i (Nat.le_refl _) hi) c⟩, rfl⟩
theorem filter_f (p vs : List Int) (n : Nat) (h1 : 1 ≤ n) (hn : n ≤ 4) (hp : Places n p) {T : List Tr} (hT : TOk T) (hv : vs.length = n) (hs : ∀ x ∈ vs, Small x) {k : Nat} (hk : 1000 ≤ k) :
  ∃ b : Bool, (b = true ↔ Sol T vs) ∧ gcc_Filter.f k 21 p [] (Cs T) (Ds T) (Es T) 0 [] (vs.map D) = some (if b = true then vs.map D else [], b) := by
 have h3 := hT.2.1
 obtain ⟨k, rfl⟩ : ∃ k', k = k' + 1 := ⟨k - 1, by omega⟩
 obtain ⟨b, hb, e⟩ := fil_l1 p hT vs hs (by omega) T.length 0 k (by omega) (by omega)
 refine ⟨b, hb.trans sol_at, ?_⟩
 unfold gcc_Filter.f slices_CloneDom.f
 rw [fits_f p vs n h1 hn hp hT hv (by omega), obs_, if_pos rfl, if_pos (by rw [List.length_map]; omega), obs_, gcc_Filter.l0]
 exact e
theorem law_l0 (p l2 : List Int) (h2 : ∀ x ∈ l2, Small x) (n : Nat) (h1 : 1 ≤ n) (hn : n ≤ 4) (hp : Places n p) {T : List Tr} (hT : TOk T) : ∀ (m j k : Nat) (vs : List Int), n = j + m → m + 1500 < k → vs.length = j → (∀ v ∈ vs, Small v) →
  jigsawlaw20_GccFixed.l0 k l2 (vs.map fun v => [v]) vs (n : Int) (j : Int) 21 p [] (Cs T) (Ds T) (Es T) 0 [] 21 (iota 0 n) [] (Cs T) (Ds T) (Es T) 0 [] = some true
 | 0, j, k + 1, vs, e, hk, hl, hs => by
  obtain ⟨b, hb, hf⟩ := filter_f p vs n h1 hn hp hT (by omega) hs (k := k) (by omega)
  obtain ⟨b', hb', hh⟩ := holds_f vs n (by omega) hn hT (k := k) (by omega)
  have hbb : b' = b := by
   have h := hb'.trans hb.symm
   cases b <;> cases b' <;> simp at h ⊢
  rw [jigsawlaw20_GccFixed.l0, ino_, doms_f vs hs (by omega) (by omega), obs_, hf, obs_, wakes_true (by omega), obs_, if_pos rfl, hh, obs_, hbb]
  cases b with
  | false => rfl
  | true =>
   show (if ((true : Bool) == true) = true then (if (true : Bool) = true then (jigsawlaw20_lists.f k (vs.map D)).bind _ else some true) else none) = some true
   rw [if_pos (show ((true : Bool) == true) = true from rfl), if_pos rfl, lists_f vs hs (by omega) (by omega), obs_, same_f vs (by omega) (by omega), obs_]
 | m + 1, j, k + 1, vs, e, hk, hl, hs => by
  have hj : j < n := by omega
  have step : ∀ v, Small v → jigsawlaw20_GccFixed.l0 k l2 ((vs.map fun v => [v]) ++ [[v]]) (vs ++ [v]) (n : Int) (wrap64 ((j : Int) + 1)) 21 p [] (Cs T) (Ds T) (Es T) 0 [] 21 (iota 0 n) [] (Cs T) (Ds T) (Es T) 0 [] = some true := by
   intro v hv
   have h := law_l0 p l2 h2 n h1 hn hp hT m (j + 1) k (vs ++ [v]) (by omega) (by omega) (by simp [hl]) (fun x hx => by
    rcases List.mem_append.1 hx with h | h
    ·
     exact hs x h
    ·
     rw [List.mem_singleton] at h; rw [h]; exact hv)
   rw [wsu_]
   rw [List.map_append] at h
   exact h
  rw [jigsawlaw20_GccFixed.l0, if_pos (nlt hj)]
  by_cases hx : j < l2.length
  ·
   have hv := h2 (l2.getD j 0) (by rw [getD_lt _ _ hx]; exact List.getElem_mem _)
   have e1 : wrap64 (rd l2 (j : Int)) = l2.getD j 0 := by rw [rd_at]; unfold Small at hv; exact wrap_id (by omega) (by omega)
   rw [if_pos (nlt hx), ipo_, if_pos (by simp; omega), ipo_, e1]
   exact step _ hv
  ·
   have e1 : wrap64 (1 + (j : Int)) = 1 + (j : Int) := wrap_id (by omega) (by omega)
   rw [if_neg (nge hx), if_pos (by simp; omega), ipo_, e1]
   exact step _ ⟨by omega, by omega⟩
theorem wf_u8 {x : Int} (h : (Lit.int .u8 x).wf = true) : 0 ≤ x ∧ x ≤ 255 := by
 simp only [Lit.wf, IntKind.min, IntKind.max, IntKind.signed, IntKind.bits, Bool.and_eq_true] at h
 simp at h
 omega
theorem wf_i8 {x : Int} (h : (Lit.int .i8 x).wf = true) : Small x := by
 simp only [Lit.wf, IntKind.min, IntKind.max, IntKind.signed, IntKind.bits, Bool.and_eq_true] at h
 simp at h
 exact ⟨by omega, by omega⟩
theorem wf_i16 {x : Int} (h : (Lit.int .i16 x).wf = true) : -32768 ≤ x ∧ x ≤ 32767 := by
 simp only [Lit.wf, IntKind.min, IntKind.max, IntKind.signed, IntKind.bits, Bool.and_eq_true] at h
 simp at h
 omega
theorem gccFixed (a0 : Int) (l1 l3 l4 : List Int) (a4 a5 a1 : Int) (l2 : List Int) (_ : (Lit.int .u8 a0).wf = true) (hw1 : ∀ x ∈ l1, (Lit.int .u8 x).wf = true) (_ : ∀ x ∈ l3, (Lit.int .u8 x).wf = true) (_ : ∀ x ∈ l4, (Lit.int .i8 x).wf = true) (hw4 : (Lit.int .i16 a4).wf = true) (hw5 : (Lit.int .u8 a5).wf = true) (_ : (Lit.int .u8 a1).wf = true) (hw2 : ∀ x ∈ l2, (Lit.int .i8 x).wf = true) :
  ∃ k, jigsawlaw20_GccFixed.f k a0 l1 l3 l4 a4 a5 a1 l2 = some true := by
 refine ⟨2000, ?_⟩
 obtain ⟨n, p, T, h1, hn, hp, hT, hm⟩ := make_f l1 l3 l4 a4 a5 (fun x hx => wf_u8 (hw1 x hx)) (wf_i16 hw4) (wf_u8 hw5) (k := 2000) (by decide)
 have hw : (wrap64 ((21 : Int) - 1)) % 256 = 20 := by decide +kernel
 have hs : wrap64 ((n : Int) + (([] : List Int).length : Int)) = (n : Int) := by show wrap64 ((n : Int) + 0) = _; rw [wrap_id (by omega) (by omega)]; omega
 unfold jigsawlaw20_GccFixed.f
 rw [show jigsawlaw20_kind.f a1 = some 21 from rfl, obs_, hw, hm, obs_]
 show (jigsawref10_Local.f 2000 21 p [] (Cs T) (Ds T) (Es T) 0 []).bind _ = _
 rw [local_f p _ _ _ n hp.1 hn (by decide), obs_]
 show jigsawlaw20_GccFixed.l0 2000 l2 [] [] (wrap64 ((p.length : Int) + (([] : List Int).length : Int))) 0 21 p [] (Cs T) (Ds T) (Es T) 0 [] 21 (iota 0 n) [] (Cs T) (Ds T) (Es T) 0 [] = some true
 rw [hp.1, hs]
 exact law_l0 p l2 (fun x hx => wf_i8 (hw2 x hx)) n h1 hn hp hT n 0 2000 [] (by omega) (by omega) rfl (fun v hv => by simp at hv)
end Go.Proofs.YtijjhobjmehhoaaGreatDoor.Pure
