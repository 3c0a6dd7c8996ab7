/- The plain law of ClauseKeeps: what the walk computes answers true, for every input. -/
import Derived.Test.YtmhchlbbfpmdgaaGreatDoorXCKex28
import Derived.Test.YtmhchlbbfpmdgaaGreatDoorKMa
import Derived.Test.YtmhchlbbfpmdgaaGreatDoorKMb
import Derived.Test.YtmhchlbbfpmdgaaGreatDoorKMc
namespace Go.Proofs.YtmhchlbbfpmdgaaGreatDoor.Pure
open Go.RowKit Go.Proofs.YtmhchlbbfpmdgaaGreatDoor.XClauseKeeps Go.Proofs.YtmhchlbbfpmdgaaGreatDoorW.PrintWords Go.Proofs.YtmhchlbbfpmdgaaGreatDoorW.PrintLast Go.Proofs.YtmhchlbbfpmdgaaGreatDoorW.PrintMore
set_option linter.unusedVariables false
theorem wrap_id {n : Int} (h : -9223372036854775808 ≤ n) (h2 : n ≤ 9223372036854775807) : wrap64 n = n := by unfold wrap64; omega
theorem wrap_succ {j : Nat} (h : j ≤ 1000) : wrap64 ((j : Int) + 1) = ((j + 1 : Nat) : Int) := by rw [wrap_id (by omega) (by omega)]; omega
theorem up {α : Type} {f : Nat → Option α} (hm : ∀ k, LeO (f k) (f (k + 1))) {k : Nat} {r : α} (h : f k = some r) : ∀ {k'}, k ≤ k' → f k' = some r := by
  intro k' hk
  induction hk with
  | refl => exact h
  | step _ ih => exact hm _ _ ih
theorem of_one {m : Fin 2048} (hm : m.val ≠ 0) {k : Nat} (hk : 40 ≤ k) : dom_Of.f k (LL m) = some ((D m).f0, (D m).f1, (D m).f2, (D m).f3, (D m).f4, 0) :=
  up (f := fun k => dom_Of.f k (LL m)) (dom_Of.mono _) (of_all m hm) hk
theorem list_one (m : Fin 2048) {k : Nat} (hk : 40 ≤ k) : dom_Dom_List.f k (D m).f0 (D m).f1 (D m).f2 (D m).f3 (D m).f4 = some (LL m) :=
  up (f := fun k => dom_Dom_List.f k _ _ _ _ _) (dom_Dom_List.mono _ _ _ _ _) (list_all m) hk
theorem xlist_one {m : Fin 2048} {b : Bool} (hb : bi b ∈ LL m) {k : Nat} (hk : 40 ≤ k) : dom_Dom_List.f k (XM m b).f0 (XM m b).f1 (XM m b).f2 (XM m b).f3 (XM m b).f4 = some [bi b] :=
  up (f := fun k => dom_Dom_List.f k _ _ _ _ _) (dom_Dom_List.mono _ _ _ _ _) (xlist_all m b hb) hk
theorem has_one (m : Fin 2048) {v : Int} (hv : -5 ≤ v ∧ v ≤ 5) : dom_Dom_Has.f (D m).f0 (D m).f1 (D m).f2 (D m).f3 (D m).f4 v = some (decide (v ∈ LL m)) := by
  have h := has_all m ⟨(v + 5).toNat, by omega⟩
  simp only [] at h
  rwa [show (((v + 5).toNat : Nat) : Int) - 5 = v by omega] at h
theorem only_one {m : Fin 2048} {b : Bool} (hb : bi b ∈ LL m) {k : Nat} (hk : 40 ≤ k) : ∃ e, dom_Dom_Only.f k (D m).f0 (D m).f1 (D m).f2 (D m).f3 (D m).f4 (bi b) = some ((XM m b).f0, (XM m b).f1, (XM m b).f2, (XM m b).f3, (XM m b).f4, e) := by
  have h := only_all m b hb
  obtain ⟨r, hr⟩ := Option.isSome_iff_exists.1 h
  obtain ⟨x0, x1, x2, x3, x4, e⟩ := r
  refine ⟨e, ?_⟩
  have hx : XM m b = ⟨x0, x1, x2, x3, x4⟩ := by unfold XM; rw [hr]
  rw [hx]
  exact up (f := fun k => dom_Dom_Only.f k _ _ _ _ _ _) (dom_Dom_Only.mono _ _ _ _ _ _) hr hk
theorem xonly_one {m : Fin 2048} {b : Bool} (hb : bi b ∈ LL m) {k : Nat} (hk : 40 ≤ k) : dom_Dom_Only.f k (XM m b).f0 (XM m b).f1 (XM m b).f2 (XM m b).f3 (XM m b).f4 (bi b) = some ((XM m b).f0, (XM m b).f1, (XM m b).f2, (XM m b).f3, (XM m b).f4, 0) :=
  up (f := fun k => dom_Dom_Only.f k _ _ _ _ _ _) (dom_Dom_Only.mono _ _ _ _ _ _) (xonly_all m b hb) hk
theorem wakes_true {k : Nat} (hk : 60 ≤ k) : jigsawlaw14_wakes.f k = some true :=
  up (f := fun k => jigsawlaw14_wakes.f k) jigsawlaw14_wakes.mono (by decide +kernel) hk
theorem rd_at (l : List Int) (j : Nat) : rd l (j : Int) = l.getD j 0 := rfl
theorem rdL_at (l : List (List Int)) (j : Nat) : rd_L7 l (j : Int) = l.getD j [] := rfl
theorem rdD_at (l : List S58) (j : Nat) : rd_T58 l (j : Int) = l.getD j z58 := rfl
theorem getD_lt {α : Type} (l : List α) (z : α) {j : Nat} (h : j < l.length) : l.getD j z = l[j] := by
  rw [List.getD_eq_getElem?_getD, List.getElem?_eq_getElem h]; rfl
theorem getD_map {α β : Type} (f : α → β) (l : List α) (z : α) (y : β) {j : Nat} (h : j < l.length) : (l.map f).getD j y = f (l.getD j z) := by
  rw [getD_lt _ _ (by simpa using h), getD_lt _ _ h]; simp
theorem take_step {α : Type} (l : List α) (z : α) {j : Nat} (h : j < l.length) : l.take j ++ [l.getD j z] = l.take (j + 1) := by
  rw [getD_lt _ _ h]; simp
theorem nlt {a b : Nat} (h : a < b) : (a : Int) < (b : Int) := by omega
theorem nge {a b : Nat} (h : ¬ a < b) : ¬ (a : Int) < (b : Int) := by omega
/-- The places: so many, each below 5, none below 0. -/
def Places (n : Nat) (r : List Int) : Prop := r.length = n ∧ ∀ x ∈ r, 0 ≤ x ∧ x ≤ 4
theorem places_l0 (l : List Int) (hl : ∀ x ∈ l, 0 ≤ x ∧ x ≤ 255) (n : Nat) (hn : n ≤ 4) : ∀ (m j k : Nat) (acc : List Int), n = j + m → m < k → Places j acc → ∃ r, jigsawref06_places.l0 k l (n : Int) 5 acc (j : Int) = some r ∧ Places n r
  | 0, j, k + 1, acc, e, _, ha => by
    obtain rfl : n = j := by omega
    refine ⟨acc, ?_, ha⟩
    rw [jigsawref06_places.l0, if_neg (nge (by omega))]
  | m + 1, j, k + 1, acc, e, hk, ha => by
    have hj : j < n := by omega
    obtain ⟨h1, h2⟩ := ha
    have hlen : acc.length < 17592186044416 := by omega
    by_cases hx : j < l.length
    · have hm := hl (l.getD j 0) (by rw [getD_lt _ _ hx]; exact List.getElem_mem _)
      obtain ⟨r, hr, hp⟩ := places_l0 l hl n hn m (j + 1) k (acc ++ [Int.tmod (wrap64 (rd l (j : Int))) 5]) (by omega) (by omega) ⟨by simp [h1], fun x hx => by
        rcases List.mem_append.1 hx with h | h
        · exact h2 x h
        · rw [List.mem_singleton] at h
          rw [h, rd_at, wrap_id (by omega) (by omega), Int.tmod_eq_emod_of_nonneg (by omega)]
          omega⟩
      refine ⟨r, ?_, hp⟩
      rw [jigsawref06_places.l0, if_pos (nlt hj), if_pos (nlt hx), if_pos (by omega), if_neg (by decide), if_pos hlen, wrap_succ (by omega)]
      exact hr
    · obtain ⟨r, hr, hp⟩ := places_l0 l hl n hn m (j + 1) k (acc ++ [Int.tmod (j : Int) 5]) (by omega) (by omega) ⟨by simp [h1], fun x hx => by
        rcases List.mem_append.1 hx with h | h
        · exact h2 x h
        · rw [List.mem_singleton] at h
          rw [h, Int.tmod_eq_emod_of_nonneg (by omega)]
          omega⟩
      refine ⟨r, ?_, hp⟩
      rw [jigsawref06_places.l0, if_pos (nlt hj), if_neg (nge hx), if_neg (by decide), if_pos hlen, wrap_succ (by omega)]
      exact hr
theorem places_f (l : List Int) (hl : ∀ x ∈ l, 0 ≤ x ∧ x ≤ 255) (n : Nat) (hn : n ≤ 4) {k : Nat} (hk : 5 ≤ k) : ∃ r, jigsawref06_places.f k l (n : Int) 5 = some r ∧ Places n r :=
  places_l0 l hl n hn n 0 k [] (by omega) (by omega) ⟨rfl, fun x hx => by simp at hx⟩
theorem has_f {s : ByteArray} {c r : Int} (h : jigsawref06_has.f 6 s c = some r) {k : Nat} (hk : 6 ≤ k) : jigsawref06_has.f k s c = some r :=
  up (f := fun k => jigsawref06_has.f k s c) (jigsawref06_has.mono _ _) h hk
/-- A constraint that is made: a clause, of places. -/
theorem make_f (l1 l2 l3 : List Int) (a4 a5 : Int) (h1 : ∀ x ∈ l1, 0 ≤ x ∧ x ≤ 255) (h2 : ∀ x ∈ l2, 0 ≤ x ∧ x ≤ 255) {k : Nat} (hk : 20 ≤ k) :
    ∃ (n : Nat) (p q : List Int), 1 ≤ n ∧ n ≤ 4 ∧ Places n p ∧ Places n q ∧ jigsawref06_Make.f k 11 l1 l2 l3 a4 a5 5 = some (12, p, q, [], [], [], 0, []) := by
  have hw : wrap64 (1 + Int.tmod (wrap64 11) 23) = 12 := by decide +kernel
  have hs : jigsawref06_Shapes.f = some ((jigsawref06_Shapes.f).getD []) := by rfl
  have hlen : ((jigsawref06_Shapes.f).getD []).length = 24 := by decide +kernel
  have hvw : rdOf ByteArray.empty ((jigsawref06_Shapes.f).getD []) 12 = (⟨#[86, 87]⟩ : ByteArray) := by rfl
  have key : ∀ n : Nat, n ≤ 4 → ∀ k, 10 ≤ k → ∃ p q, Places n p ∧ Places n q ∧ jigsawref06_Make.j1 k 5 (⟨#[86, 87]⟩ : ByteArray) (n : Int) 11 l1 l2 l3 a4 a5 12 0 = some (12, p, q, [], [], [], 0, []) := by
    intro n hn k hk
    obtain ⟨k, rfl⟩ : ∃ k', k = k' + 1 := ⟨k - 1, by omega⟩
    obtain ⟨p, hp, hpp⟩ := places_f l1 h1 n hn (k := k) (by omega)
    obtain ⟨q, hq, hqq⟩ := places_f l2 h2 n hn (k := k) (by omega)
    refine ⟨p, q, hpp, hqq, ?_⟩
    rw [jigsawref06_Make.j1, has_f (r := 0) (by decide +kernel) (by omega), Option.bind_some, if_neg (by decide), hp, Option.bind_some, has_f (r := 0) (by decide +kernel) (by omega), Option.bind_some, if_neg (by decide), has_f (r := 1) (by decide +kernel) (by omega), Option.bind_some, if_pos (by decide), hq, Option.bind_some, has_f (r := 0) (by decide +kernel) (by omega), Option.bind_some, if_neg (by decide), if_neg (by decide), has_f (r := 0) (by decide +kernel) (by omega), Option.bind_some, if_neg (by decide), if_neg (by decide), if_neg (by decide), if_neg (by decide)]
  have key0 : ∀ n : Nat, 1 ≤ n → ∃ (m : Nat) (p q : List Int), 1 ≤ m ∧ m ≤ 4 ∧ Places m p ∧ Places m q ∧ jigsawref06_Make.j0 k 5 (⟨#[86, 87]⟩ : ByteArray) (n : Int) 11 l1 l2 l3 a4 a5 12 0 = some (12, p, q, [], [], [], 0, []) := by
    intro n hn
    obtain ⟨k, rfl⟩ : ∃ k', k = k' + 1 := ⟨k - 1, by omega⟩
    by_cases h4 : n ≤ 4
    · obtain ⟨p, q, hp, hq, e⟩ := key n h4 k (by omega)
      exact ⟨n, p, q, hn, h4, hp, hq, by rw [jigsawref06_Make.j0, if_neg (by omega)]; exact e⟩
    · obtain ⟨p, q, hp, hq, e⟩ := key 4 (by decide) k (by omega)
      exact ⟨4, p, q, by decide, by decide, hp, hq, by rw [jigsawref06_Make.j0, if_pos (by omega)]; exact e⟩
  unfold jigsawref06_Make.f
  rw [hs, Option.bind_some, hw, hlen, if_pos (by decide), if_pos (by decide), hvw]
  by_cases h0 : l1.length < 1
  · rw [if_pos (by omega)]
    exact key0 1 (by decide)
  · rw [if_neg (by omega)]
    exact key0 l1.length (by omega)
/-- So many numbers from a first one on. -/
def iota (a n : Nat) : List Int := (List.range n).map fun i => ((a + i : Nat) : Int)
theorem iota_len (a n : Nat) : (iota a n).length = n := by simp [iota]
theorem iota_at (a n j : Nat) (h : j < n) : (iota a n).getD j 0 = ((a + j : Nat) : Int) := by
  rw [getD_lt _ _ (by rw [iota_len]; exact h)]; simp [iota]
theorem iota_succ (a n : Nat) : iota a n ++ [((a + n : Nat) : Int)] = iota a (n + 1) := by simp [iota, List.range_succ]
theorem local_l1 (p q : List Int) (n : Nat) (hp : p.length = n) (hq : q.length = n) (hn : n ≤ 4) : ∀ (m j k : Nat), n = j + m → m < k →
    jigsawref10_Local.l1 k (j : Int) 12 p q [] [] [] 0 [] 12 (iota 0 n) (iota n j) [] [] [] 0 [] = some (12, iota 0 n, iota n n, [], [], [], 0, [])
  | 0, j, k + 1, e, _ => by
    obtain rfl : n = j := by omega
    rw [jigsawref10_Local.l1, hq, if_neg (nge (by omega))]
  | m + 1, j, k + 1, e, hk => by
    rw [jigsawref10_Local.l1, hq, if_pos (nlt (by omega)), if_pos (by rw [iota_len]; omega), wrap_succ (by omega), hp, wrap_id (by omega) (by omega), show ((n : Int) + (j : Int)) = ((n + j : Nat) : Int) by omega, iota_succ]
    exact local_l1 p q n hp hq hn m (j + 1) k (by omega) (by omega)
theorem local_l0 (p q : List Int) (n : Nat) (hp : p.length = n) (hq : q.length = n) (hn : n ≤ 4) : ∀ (m j k : Nat), n = j + m → m + 6 < k →
    jigsawref10_Local.l0 k (j : Int) 12 p q [] [] [] 0 [] 12 (iota 0 j) [] [] [] 0 [] = some (12, iota 0 n, iota n n, [], [], [], 0, [])
  | 0, j, k + 1, e, _ => by
    obtain rfl : n = j := by omega
    rw [jigsawref10_Local.l0, hp, if_neg (nge (by omega))]
    exact local_l1 p q n hp hq hn n 0 k (by omega) (by omega)
  | m + 1, j, k + 1, e, hk => by
    have h := iota_succ 0 j
    rw [Nat.zero_add] at h
    rw [jigsawref10_Local.l0, hp, if_pos (nlt (by omega)), if_pos (by rw [iota_len]; omega), wrap_succ (by omega), h]
    exact local_l0 p q n hp hq hn m (j + 1) k (by omega) (by omega)
theorem local_f (p q : List Int) (n : Nat) (hp : p.length = n) (hq : q.length = n) (hn : n ≤ 4) {k : Nat} (hk : 11 ≤ k) :
    jigsawref10_Local.f k 12 p q [] [] [] 0 [] = some (12, iota 0 n, iota n n, [], [], [], 0, []) :=
  local_l0 p q n hp hq hn n 0 k (by omega) (by omega)
/-- What makes the clause hold at a place. -/
def want (n i : Nat) : Int := if i < n then 1 else 0
def hit (n : Nat) (vs : List Int) (i : Nat) : Bool := vs.getD i 0 == want n i
theorem hit_lo {n i : Nat} (vs : List Int) (h : i < n) : hit n vs i = true ↔ vs.getD i 0 = 1 := by unfold hit want; rw [if_pos h]; exact beq_iff_eq
theorem hit_hi {n i : Nat} (vs : List Int) (h : ¬ i < n) : hit n vs i = true ↔ vs.getD i 0 = 0 := by unfold hit want; rw [if_neg h]; exact beq_iff_eq
theorem want_f (p q : List Int) (n : Nat) (hp : p.length = n) (j : Nat) : clause_want.f 12 p q [] [] [] 0 [] (j : Int) = some (want n j) := by
  unfold clause_want.f want
  rw [hp]
  by_cases h : j < n
  · rw [if_pos (nlt h), if_pos h]
  · rw [if_neg (nge h), if_neg h]
theorem want_bool (n i : Nat) : want n i = if decide (i < n) then 1 else 0 := by simp [want]
/-- The document's answer, of fixed values. -/
theorem logic_l1 (vs : List Int) (n : Nat) (hv : vs.length = 2 * n) (hn : n ≤ 4) : ∀ (m j k : Nat), n = j + m → m < k → (∀ i, i < n + j → hit n vs i = false) →
    ∃ b : Bool, (b = true ↔ ∃ i, i < vs.length ∧ hit n vs i = true) ∧ jigsawref09_logic.l1 k vs (j : Int) 12 (iota 0 n) (iota n n) [] [] [] 0 [] = some b
  | 0, j, k + 1, e, hk, h => by
    rw [jigsawref09_logic.l1, iota_len, if_neg (nge (by omega))]
    exact ⟨false, ⟨fun h => absurd h (by decide), fun ⟨i, hi, h'⟩ => by rw [h i (by omega)] at h'; exact h'⟩, rfl⟩
  | m + 1, j, k + 1, e, hk, h => by
    have hj : j < n := by omega
    have hr : rd (iota n n) (j : Int) = ((n + j : Nat) : Int) := by rw [rd_at, iota_at n n j hj]
    rw [jigsawref09_logic.l1, iota_len, if_pos (nlt hj), if_pos (by omega), hr, if_pos (by omega), if_pos (nlt (by omega)), rd_at]
    by_cases h1 : vs.getD (n + j) 0 = 0
    · rw [if_pos h1]
      exact ⟨true, ⟨fun _ => ⟨n + j, by omega, (hit_hi vs (by omega)).2 h1⟩, fun _ => rfl⟩, rfl⟩
    · rw [if_neg h1, wrap_succ (by omega)]
      refine logic_l1 vs n hv hn m (j + 1) k (by omega) (by omega) (fun i hi => ?_)
      by_cases hi' : i = n + j
      · rw [hi']; exact Bool.eq_false_iff.2 (fun h => h1 ((hit_hi vs (by omega)).1 h))
      · exact h i (by omega)
theorem logic_l0 (vs : List Int) (n : Nat) (hv : vs.length = 2 * n) (hn : n ≤ 4) : ∀ (m j k : Nat), n = j + m → m + 6 < k → (∀ i, i < j → hit n vs i = false) →
    ∃ b : Bool, (b = true ↔ ∃ i, i < vs.length ∧ hit n vs i = true) ∧ jigsawref09_logic.l0 k vs (j : Int) 12 (iota 0 n) (iota n n) [] [] [] 0 [] = some b
  | 0, j, k + 1, e, hk, h => by
    rw [jigsawref09_logic.l0, iota_len, if_neg (nge (by omega))]
    exact logic_l1 vs n hv hn n 0 k (by omega) (by omega) (fun i hi => h i (by omega))
  | m + 1, j, k + 1, e, hk, h => by
    have hj : j < n := by omega
    have hr : rd (iota 0 n) (j : Int) = ((j : Nat) : Int) := by rw [rd_at, iota_at 0 n j hj, Nat.zero_add]
    rw [jigsawref09_logic.l0, iota_len, if_pos (nlt hj), if_pos (by omega), hr, if_pos (by omega), if_pos (nlt (by omega)), rd_at]
    by_cases h1 : vs.getD j 0 = 1
    · rw [if_pos h1]
      exact ⟨true, ⟨fun _ => ⟨j, by omega, (hit_lo vs hj).2 h1⟩, fun _ => rfl⟩, rfl⟩
    · rw [if_neg h1, wrap_succ (by omega)]
      refine logic_l0 vs n hv hn m (j + 1) k (by omega) (by omega) (fun i hi => ?_)
      by_cases hi' : i = j
      · rw [hi']; exact Bool.eq_false_iff.2 (fun h => h1 ((hit_lo vs hj).1 h))
      · exact h i (by omega)
theorem holds_f (vs : List Int) (n : Nat) (hv : vs.length = 2 * n) (hn : n ≤ 4) {k : Nat} (hk : 20 ≤ k) :
    ∃ b : Bool, (b = true ↔ ∃ i, i < vs.length ∧ hit n vs i = true) ∧ jigsawref09_Holds.f k 12 (iota 0 n) (iota n n) [] [] [] 0 [] vs = some b := by
  obtain ⟨b, hb, e⟩ := logic_l0 vs n hv hn n 0 k (by omega) (by omega) (fun i hi => by omega)
  refine ⟨b, hb, ?_⟩
  have e' : jigsawref09_logic.l0 k vs 0 12 (iota 0 n) (iota n n) [] [] [] 0 [] = some b := e
  unfold jigsawref09_Holds.f jigsawref09_logic.f
  rw [if_neg (by decide), if_neg (by decide), if_pos (by decide), if_pos rfl, e', Option.bind_some]
/-- The document's list of small numbers: some mask's. -/
theorem rhas_l0 (l : List Int) (v : Int) (hl : l.length ≤ 100) : ∀ (m j k : Nat), l.length = j + m → m < k → jigsawref02_Has.l0 k l v (j : Int) = some (decide (v ∈ l.drop j))
  | 0, j, k + 1, e, _ => by
    rw [jigsawref02_Has.l0, if_neg (nge (by omega)), List.drop_eq_nil_of_le (by omega)]; rfl
  | m + 1, j, k + 1, e, hk => by
    have hj : j < l.length := by omega
    have hd : l.drop j = l[j] :: l.drop (j + 1) := List.drop_eq_getElem_cons hj
    rw [jigsawref02_Has.l0, if_pos (nlt hj), if_pos (by omega), rd_at, getD_lt _ _ hj]
    by_cases h : l[j] = v
    · rw [if_pos h, hd]; congr 1; symm; exact decide_eq_true (by rw [h]; exact List.mem_cons_self)
    · rw [if_neg h, wrap_succ (by omega), rhas_l0 l v hl m (j + 1) k (by omega) (by omega), hd]
      congr 1
      rw [decide_eq_decide]
      constructor
      · exact fun h' => List.mem_cons_of_mem _ h'
      · intro h'
        rcases List.mem_cons.1 h' with h2 | h2
        · exact absurd h2.symm h
        · exact h2
theorem rhas_f (l : List Int) (v : Int) (hl : l.length ≤ 100) {k : Nat} (hk : 200 ≤ k) : jigsawref02_Has.f k l v = some (decide (v ∈ l)) := by
  have h := rhas_l0 l v hl l.length 0 k (by omega) (by omega)
  exact h
/-- What is put in, seen from a place on: the number once, ahead of the first greater one. -/
def insR : Bool → Int → List Int → List Int
  | true, _, r => r
  | false, v, r => ins v r
theorem of_l2 (x : List Int) (hx : x.length ≤ 100) (i : Nat) (hi : i < x.length) (l : List Int) (hl : l.length ≤ 100) : ∀ (m j k : Nat) (acc : List Int) (done : Bool), l.length = j + m → acc.length ≤ 2 * j → m < k →
    ∃ k', k' + m + 1 = k ∧ jigsawref02_Of.l2 k x l (i : Int) acc done (j : Int) = jigsawref02_Of.l1 k' x (acc ++ insR done (x.getD i 0) (l.drop j)) (((i + 1 : Nat)) : Int)
  | 0, j, k + 1, acc, done, e, ha, hk => by
    refine ⟨k, rfl, ?_⟩
    rw [jigsawref02_Of.l2, if_neg (nge (by omega)), List.drop_eq_nil_of_le (by omega)]
    cases done with
    | true => rw [if_pos rfl, wrap_succ (by omega)]; simp [insR]
    | false => rw [if_neg (by decide), if_pos (by omega), if_pos (nlt hi), if_pos (by omega), wrap_succ (by omega), rd_at]; rfl
  | m + 1, j, k + 1, acc, done, e, ha, hk => by
    have hj : j < l.length := by omega
    have hd : l.drop j = l.getD j 0 :: l.drop (j + 1) := by rw [getD_lt _ _ hj]; exact List.drop_eq_getElem_cons hj
    rw [jigsawref02_Of.l2, if_pos (nlt hj), if_pos (by omega), if_pos (by omega), if_pos (nlt hi), rd_at, rd_at, wrap_succ (by omega), hd]
    by_cases h : l.getD j 0 > x.getD i 0
    · rw [if_pos h]
      cases done with
      | true =>
        rw [if_pos rfl, if_pos (by omega)]
        obtain ⟨k', hk', h'⟩ := of_l2 x hx i hi l hl m (j + 1) k (acc ++ [l.getD j 0]) true (by omega) (by simp; omega) (by omega)
        refine ⟨k', by omega, ?_⟩
        rw [h']; simp [insR]
      | false =>
        rw [if_neg (by decide), if_pos (by omega), Option.bind_some, if_pos (by simp; omega)]
        obtain ⟨k', hk', h'⟩ := of_l2 x hx i hi l hl m (j + 1) k ((acc ++ [x.getD i 0]) ++ [l.getD j 0]) true (by omega) (by simp; omega) (by omega)
        refine ⟨k', by omega, ?_⟩
        have e1 : insR false (x.getD i 0) (l.getD j 0 :: l.drop (j + 1)) = x.getD i 0 :: l.getD j 0 :: l.drop (j + 1) := by show ins _ _ = _; rw [ins, if_pos h]
        rw [h', e1]; simp [insR]
    · rw [if_neg h, if_pos (by omega)]
      obtain ⟨k', hk', h'⟩ := of_l2 x hx i hi l hl m (j + 1) k (acc ++ [l.getD j 0]) done (by omega) (by simp; omega) (by omega)
      refine ⟨k', by omega, ?_⟩
      rw [h']
      cases done with
      | true => simp [insR]
      | false =>
        have e1 : insR false (x.getD i 0) (l.getD j 0 :: l.drop (j + 1)) = l.getD j 0 :: ins (x.getD i 0) (l.drop (j + 1)) := by show ins _ _ = _; rw [ins, if_neg h]
        rw [e1]; simp [insR]
def Near (x : List Int) : Prop := ∀ v ∈ x, -5 ≤ v ∧ v ≤ 5
theorem of_l1 (x : List Int) (hx : x.length ≤ 6) (hn : Near x) : ∀ (m j k : Nat) (b : Fin 2048), x.length = j + m → 300 * m + 300 < k → (0 < j → b.val ≠ 0) →
    ∃ c : Fin 2048, (0 < x.length → c.val ≠ 0) ∧ jigsawref02_Of.l1 k x (LL b) (j : Int) = some (LL c, 0)
  | 0, j, k + 1, b, e, hk, hb => by
    refine ⟨b, fun h => hb (by omega), ?_⟩
    rw [jigsawref02_Of.l1, if_neg (nge (by omega))]
  | m + 1, j, k + 1, b, e, hk, hb => by
    have hj : j < x.length := by omega
    have hv := hn (x.getD j 0) (by rw [getD_lt _ _ hj]; exact List.getElem_mem _)
    have hl := (len_all b).1
    rw [jigsawref02_Of.l1, if_pos (nlt hj), if_pos (by omega), rd_at, rhas_f (LL b) _ (by omega) (by omega), Option.bind_some]
    by_cases h : x.getD j 0 ∈ LL b
    · rw [if_pos (decide_eq_true h), wrap_succ (by omega)]
      refine of_l1 x hx hn m (j + 1) k b (by omega) (by omega) (fun _ h0 => ?_)
      have : LL b = [] := by unfold LL; rw [h0]; decide +kernel
      rw [this] at h; cases h
    · rw [if_neg (by simpa using h)]
      obtain ⟨k', hk', h'⟩ := of_l2 x (by omega) j hj (LL b) (by omega) (LL b).length 0 k [] false (by omega) (by simp) (by omega)
      have e0 : jigsawref02_Of.l2 k x (LL b) (j : Int) [] false 0 = _ := h'
      rw [e0]
      have hins := ins_all b ⟨(x.getD j 0 + 5).toNat, by omega⟩
      simp only [] at hins
      rw [show (((x.getD j 0 + 5).toNat : Nat) : Int) - 5 = x.getD j 0 by omega] at hins
      obtain ⟨h1, h2⟩ := hins h
      rw [List.nil_append, List.drop_zero, insR, h1]
      exact of_l1 x hx hn m (j + 1) k' _ (by omega) (by omega) (fun _ => h2)
theorem of_l0 (x : List Int) (hx : x.length ≤ 6) (hn : Near x) : ∀ (m j k : Nat) (lo hi : Int), x.length = j + m → m + 3000 < k → -5 ≤ lo → lo ≤ 5 → -5 ≤ hi → hi ≤ 5 →
    ∃ c : Fin 2048, (0 < x.length → c.val ≠ 0) ∧ jigsawref02_Of.l0 k x lo hi (j : Int) = some (LL c, 0)
  | 0, j, k + 1, lo, hi, e, hk, h1, h2, h3, h4 => by
    have ew : wrap64 (hi - lo) = hi - lo := wrap_id (by omega) (by omega)
    rw [jigsawref02_Of.l0, if_neg (nge (by omega)), ew, if_neg (by omega)]
    have h0 : LL 0 = [] := by decide +kernel
    have h := of_l1 x hx hn x.length 0 k 0 (by omega) (by omega) (fun h => absurd h (by decide))
    rw [h0] at h
    exact h
  | m + 1, j, k + 1, lo, hi, e, hk, h1, h2, h3, h4 => by
    have hj : j < x.length := by omega
    have hv := hn (x.getD j 0) (by rw [getD_lt _ _ hj]; exact List.getElem_mem _)
    rw [jigsawref02_Of.l0, if_pos (nlt hj), if_pos (by omega), rd_at, if_neg (by omega), if_neg (by omega), wrap_succ (by omega)]
    split <;> split <;> exact of_l0 x hx hn m (j + 1) k _ _ (by omega) (by omega) (by omega) (by omega) (by omega) (by omega)
theorem of_f (x : List Int) (hx : x.length ≤ 6) (h0 : 0 < x.length) (hn : Near x) {k : Nat} (hk : 4000 ≤ k) : ∃ c : Fin 2048, c.val ≠ 0 ∧ jigsawref02_Of.f k x = some (LL c, 0) := by
  have hv := hn (x.getD 0 0) (by rw [getD_lt _ _ h0]; exact List.getElem_mem _)
  obtain ⟨c, h1, h2⟩ := of_l0 x hx hn x.length 0 k (x.getD 0 0) (x.getD 0 0) (by omega) (by omega) hv.1 hv.2 hv.1 hv.2
  refine ⟨c, h1 h0, ?_⟩
  unfold jigsawref02_Of.f
  rw [if_neg (by omega), if_pos (by omega)]
  exact h2
theorem mod_near (v : Int) : -5 ≤ Int.tmod v 6 ∧ Int.tmod v 6 ≤ 5 := by
  have h1 := Int.tmod_lt_of_pos v (show (0 : Int) < 6 by decide)
  have h2 := Int.lt_tmod_of_pos v (show (0 : Int) < 6 by decide)
  omega
theorem small_l0 (l : List Int) (h0 : 0 < l.length) : ∀ (m j k : Nat) (acc : List Int), 6 = j + m → j ≤ l.length → m + 4100 < k → acc.length = j → Near acc →
    ∃ c : Fin 2048, c.val ≠ 0 ∧ jigsawref02_Small.l0 k l 6 6 acc (j : Int) = some (LL c)
  | m, j, k + 1, acc, e, hjl, hk, ha, hn => by
    have fin : ∀ (hx : 0 < acc.length), ∃ c : Fin 2048, c.val ≠ 0 ∧ ((jigsawref02_Of.f k acc).bind fun bt => some bt.1) = some (LL c) := by
      intro hx
      obtain ⟨c, h1, h2⟩ := of_f acc (by omega) hx hn (k := k) (by omega)
      exact ⟨c, h1, by rw [h2, Option.bind_some]⟩
    rw [jigsawref02_Small.l0]
    by_cases hj : j < l.length
    · rw [if_pos (nlt hj)]
      by_cases h6 : j < 6
      · obtain ⟨m, rfl⟩ : ∃ m', m = m' + 1 := ⟨m - 1, by omega⟩
        rw [if_pos (by omega), if_pos (by omega), if_neg (by decide), if_pos (by omega), wrap_succ (by omega)]
        refine small_l0 l h0 m (j + 1) k _ (by omega) (by omega) (by omega) (by simp [ha]) (fun v hv => ?_)
        rcases List.mem_append.1 hv with h | h
        · exact hn v h
        · rw [List.mem_singleton] at h; rw [h]; exact mod_near _
      · rw [if_neg (by omega)]
        exact fin (by omega)
    · rw [if_neg (nge hj)]
      exact fin (by omega)
theorem small_f (l : List Int) (h0 : 0 < l.length) {k : Nat} (hk : 4200 ≤ k) : ∃ c : Fin 2048, c.val ≠ 0 ∧ jigsawref02_Small.f k l 6 6 = some (LL c) :=
  small_l0 l h0 6 0 k [] rfl (by omega) (by omega) rfl (fun v hv => by simp at hv)
theorem case_l0 (p q : List Int) (n : Nat) (hp : p.length = n) (hq : q.length = n) (hn : n ≤ 4) (a0 a4 a5 : Int) (l1 l2 l3 : List Int) (l6 : List (List Int)) : ∀ (m j k : Nat) (ms : List (Fin 2048)), 2 * n = j + m → m + 4300 < k → ms.length = j → (∀ c ∈ ms, c.val ≠ 0) →
    ∃ ms' : List (Fin 2048), ms'.length = 2 * n ∧ (∀ c ∈ ms', c.val ≠ 0) ∧ jigsawref10_Make.l0 k 6 (ms.map LL) (j : Int) a0 l1 l2 l3 a4 a5 l6 12 p q [] [] [] 0 [] = some (12, p, q, [], [], [], 0, [], ms'.map LL)
  | 0, j, k + 1, ms, e, hk, hl, hs => by
    have hw : wrap64 ((n : Int) + (n : Int)) = ((2 * n : Nat) : Int) := by rw [wrap_id (by omega) (by omega)]; omega
    refine ⟨ms, by omega, hs, ?_⟩
    rw [jigsawref10_Make.l0, hp, hq, hw, if_neg (nge (by omega))]
  | m + 1, j, k + 1, ms, e, hk, hl, hs => by
    have hw : wrap64 ((n : Int) + (n : Int)) = ((2 * n : Nat) : Int) := by rw [wrap_id (by omega) (by omega)]; omega
    have step : ∀ c : Fin 2048, c.val ≠ 0 → ∃ ms' : List (Fin 2048), ms'.length = 2 * n ∧ (∀ c ∈ ms', c.val ≠ 0) ∧ jigsawref10_Make.l0 k 6 ((ms.map LL) ++ [LL c]) (wrap64 ((j : Int) + 1)) a0 l1 l2 l3 a4 a5 l6 12 p q [] [] [] 0 [] = some (12, p, q, [], [], [], 0, [], ms'.map LL) := by
      intro c hc
      have h := case_l0 p q n hp hq hn a0 a4 a5 l1 l2 l3 l6 m (j + 1) k (ms ++ [c]) (by omega) (by omega) (by simp [hl]) (fun x hx => by
        rcases List.mem_append.1 hx with h | h
        · exact hs x h
        · rw [List.mem_singleton] at h; rw [h]; exact hc)
      rw [wrap_succ (by omega)]
      rwa [List.map_append] at h
    have hlm : (ms.map LL).length < 5864062014805 := by simp; omega
    rw [jigsawref10_Make.l0, hp, hq, hw, if_pos (nlt (by omega)), Option.bind_some]
    have dflt : ∃ c : Fin 2048, c.val ≠ 0 ∧ jigsawref02_Small.f k [Int.tmod (j : Int) 3, 1] 6 6 = some (LL c) := small_f _ (by simp) (by omega)
    by_cases hx : j < l6.length
    · rw [if_pos (nlt hx), if_pos (by omega), rdL_at]
      by_cases hz : ((l6.getD j []).length : Int) > 0
      · obtain ⟨c, hc, h⟩ := small_f (l6.getD j []) (by omega) (k := k) (by omega)
        rw [if_pos hz, h, Option.bind_some, if_pos hlm]
        exact step c hc
      · obtain ⟨c, hc, h⟩ := dflt
        rw [if_neg hz, h, Option.bind_some, if_pos hlm]
        exact step c hc
    · obtain ⟨c, hc, h⟩ := dflt
      rw [if_neg (nge hx), h, Option.bind_some, if_pos hlm]
      exact step c hc
/-- A constraint with small domains. -/
theorem case_f (a0 a4 a5 : Int) (l1 l2 l3 : List Int) (l6 : List (List Int)) (h1 : ∀ x ∈ l1, 0 ≤ x ∧ x ≤ 255) (h2 : ∀ x ∈ l2, 0 ≤ x ∧ x ≤ 255) {k : Nat} (hk : 4400 ≤ k) :
    ∃ (n : Nat) (p q : List Int) (ms : List (Fin 2048)), 1 ≤ n ∧ n ≤ 4 ∧ Places n p ∧ Places n q ∧ ms.length = 2 * n ∧ (∀ c ∈ ms, c.val ≠ 0) ∧ jigsawref10_Make.f k a0 l1 l2 l3 a4 a5 l6 12 6 = some (12, p, q, [], [], [], 0, [], ms.map LL) := by
  obtain ⟨n, p, q, e1, e2, e3, e4, e5⟩ := make_f l1 l2 l3 a4 a5 h1 h2 (k := k) (by omega)
  have hw : (wrap64 ((12 : Int) - 1)) % 256 = 11 := by decide +kernel
  obtain ⟨ms, f1, f2, f3⟩ := case_l0 p q n e3.1 e4.1 e2 11 a4 a5 l1 l2 l3 l6 (2 * n) 0 k [] (by omega) (by omega) rfl (fun c hc => by simp at hc)
  refine ⟨n, p, q, ms, e1, e2, e3, e4, f1, f2, ?_⟩
  unfold jigsawref10_Make.f
  rw [hw, e5, Option.bind_some]
  exact f3
theorem wrap_succ' {j : Nat} (h : j ≤ 100000) : wrap64 ((j : Int) + 1) = ((j + 1 : Nat) : Int) := by rw [wrap_id (by omega) (by omega)]; omega
theorem getD_set {α : Type} (l : List α) (z y : α) (c i : Nat) (hi : i < l.length) : (l.set c y).getD i z = if c = i then y else l.getD i z := by
  rw [List.getD_eq_getElem?_getD, List.getElem?_set]
  by_cases h : c = i
  · subst h; rw [if_pos rfl, if_pos hi, if_pos rfl]; rfl
  · rw [if_neg h, if_neg h, ← List.getD_eq_getElem?_getD]
/-- A row of the product: one number of each list. -/
def Row (ls : List (List Int)) (r : List Int) : Prop := r.length = ls.length ∧ ∀ i, i < ls.length → r.getD i 0 ∈ ls.getD i []
def Lists (ls : List (List Int)) : Prop := ls.length ≤ 8 ∧ ∀ l ∈ ls, 0 < l.length ∧ l.length ≤ 11
theorem Lists.at {ls : List (List Int)} (h : Lists ls) {i : Nat} (hi : i < ls.length) : 0 < (ls.getD i []).length ∧ (ls.getD i []).length ≤ 11 :=
  h.2 _ (by rw [getD_lt _ _ hi]; exact List.getElem_mem _)
theorem prod_l2 (ls : List (List Int)) (hls : Lists ls) (N : Int) (out : List (List Int)) (ho : out.length ≤ 5000) (a : Int) : ∀ (m k : Nat) (row : List Int) (r : Int), m ≤ ls.length → m < k → row.length = ls.length → 0 ≤ r → r ≤ 5000 → (∀ i, m ≤ i → i < ls.length → row.getD i 0 ∈ ls.getD i []) →
    ∃ (k' : Nat) (row' : List Int), k' + m + 1 = k ∧ Row ls row' ∧ jigsawref09_Product.l2 k ls N out a row r ((m : Int) - 1) = jigsawref09_Product.l1 k' ls N (out ++ [row']) (wrap64 (a + 1))
  | 0, k + 1, row, r, hm, hk, hl, h0, h1, hr => by
    refine ⟨k, row, rfl, ⟨hl, fun i hi => hr i (by omega) hi⟩, ?_⟩
    rw [jigsawref09_Product.l2, if_neg (by decide), if_pos (by omega)]
  | m + 1, k + 1, row, r, hm, hk, hl, h0, h1, hr => by
    have hi : m < ls.length := by omega
    have hlen := hls.at hi
    have e1 : (((m + 1 : Nat) : Int) - 1) = (m : Int) := by omega
    have hne : ¬ ((ls.getD m []).length : Int) = 0 := by omega
    have e2 : Int.tmod r ((ls.getD m []).length : Int) = r % ((ls.getD m []).length : Int) := Int.tmod_eq_emod_of_nonneg h0
    have e3 : Int.tdiv r ((ls.getD m []).length : Int) = r / ((ls.getD m []).length : Int) := Int.tdiv_eq_ediv_of_nonneg h0
    have m0 := Int.emod_nonneg r hne
    have m1 := Int.emod_lt_of_pos r (show (0 : Int) < ((ls.getD m []).length : Int) by omega)
    have d0 : 0 ≤ r / ((ls.getD m []).length : Int) := Int.ediv_nonneg h0 (by omega)
    have d1 : r / ((ls.getD m []).length : Int) ≤ r := Int.ediv_le_self _ h0
    have e4 : wrap64 (r / ((ls.getD m []).length : Int)) = r / ((ls.getD m []).length : Int) := wrap_id (by omega) (by omega)
    have h8 := hls.1
    have e5 : wrap64 ((m : Int) - 1) = (m : Int) - 1 := wrap_id (by omega) (by omega)
    rw [jigsawref09_Product.l2, e1, if_pos (by omega), if_pos (by omega), if_pos (nlt hi), rdL_at, if_neg hne, e2, if_pos m0, if_pos m1, hl, if_pos (nlt hi), e3, e4, e5, Int.toNat_natCast]
    obtain ⟨t, ht⟩ : ∃ t : Nat, r % ((ls.getD m []).length : Int) = (t : Int) := ⟨(r % ((ls.getD m []).length : Int)).toNat, by omega⟩
    have htl : t < (ls.getD m []).length := by omega
    have hv : rd (ls.getD m []) (r % ((ls.getD m []).length : Int)) ∈ ls.getD m [] := by
      rw [ht, rd_at, getD_lt _ _ htl]; exact List.getElem_mem _
    obtain ⟨k', row', hk', hrow, h'⟩ := prod_l2 ls hls N out ho a m k (row.set m (rd (ls.getD m []) (r % ((ls.getD m []).length : Int)))) (r / ((ls.getD m []).length : Int)) (by omega) (by omega) (by simp [hl]) d0 (by omega) (fun i h2 h3 => by
      rw [getD_set _ _ _ _ _ (by omega)]
      by_cases hmi : m = i
      · rw [if_pos hmi]; subst hmi; exact hv
      · rw [if_neg hmi]; exact hr i (by omega) h3)
    exact ⟨k', row', by omega, hrow, h'⟩
theorem prod_l1 (ls : List (List Int)) (hls : Lists ls) (N : Nat) (hN : N ≤ 4000) : ∀ (m j k : Nat) (out : List (List Int)), N = j + m → 12 * m + 20 < k → out.length = j → (∀ r ∈ out, Row ls r) →
    ∃ rows : List (List Int), rows.length = N ∧ (∀ r ∈ rows, Row ls r) ∧ jigsawref09_Product.l1 k ls (N : Int) out (j : Int) = some rows
  | 0, j, k + 1, out, e, hk, ho, hr => by
    refine ⟨out, by omega, hr, ?_⟩
    rw [jigsawref09_Product.l1, if_neg (nge (by omega))]
  | m + 1, j, k + 1, out, e, hk, ho, hr => by
    have h8 := hls.1
    have ew : wrap64 ((ls.length : Int) - 1) = (ls.length : Int) - 1 := wrap_id (by omega) (by omega)
    rw [jigsawref09_Product.l1, if_pos (nlt (by omega)), if_pos (by omega), if_pos (by omega), ew, Int.toNat_natCast]
    obtain ⟨k', row', hk', hrow, h'⟩ := prod_l2 ls hls (N : Int) out (by omega) (j : Int) ls.length k (List.replicate ls.length 0) (j : Int) (by omega) (by omega) (by simp) (by omega) (by omega) (fun i h2 h3 => by omega)
    rw [h', wrap_succ' (by omega)]
    exact prod_l1 ls hls N hN m (j + 1) k' (out ++ [row']) (by omega) (by omega) (by simp [ho]) (fun r h => by
      rcases List.mem_append.1 h with h | h
      · exact hr r h
      · rw [List.mem_singleton] at h; rw [h]; exact hrow)
theorem prod_l0 (ls : List (List Int)) (hls : Lists ls) : ∀ (m j k : Nat) (N : Nat), ls.length = j + m → m + 50000 < k → 1 ≤ N → N ≤ 4000 →
    ∃ rows : List (List Int), rows.length ≤ 4000 ∧ (∀ r ∈ rows, Row ls r) ∧ jigsawref09_Product.l0 k ls 4000 (N : Int) (j : Int) = some rows
  | 0, j, k + 1, N, e, hk, h1, hN => by
    obtain ⟨rows, a, b, c⟩ := prod_l1 ls hls N hN N 0 k [] (by omega) (by omega) rfl (fun r h => by simp at h)
    refine ⟨rows, by omega, b, ?_⟩
    rw [jigsawref09_Product.l0, if_neg (nge (by omega))]
    exact c
  | m + 1, j, k + 1, N, e, hk, h1, hN => by
    have hi : j < ls.length := by omega
    have h8 := hls.1
    have hlen := hls.at hi
    have hm : N * (ls.getD j []).length ≤ 4000 * 11 := Nat.mul_le_mul hN hlen.2
    have ew : wrap64 ((N : Int) * ((ls.getD j []).length : Int)) = ((N * (ls.getD j []).length : Nat) : Int) := by
      rw [Int.natCast_mul, wrap_id] <;> (rw [← Int.natCast_mul]; omega)
    rw [jigsawref09_Product.l0, if_pos (nlt hi), if_pos (by omega), rdL_at, ew]
    by_cases h : ((N * (ls.getD j []).length : Nat) : Int) > 4000
    · exact ⟨[], by simp, fun r h => by simp at h, by rw [if_pos h]⟩
    · have h2 : 1 ≤ N * (ls.getD j []).length := Nat.mul_pos (by omega) hlen.1
      have h3 : N * (ls.getD j []).length ≤ 4000 := Int.ofNat_le.1 (Int.not_lt.1 h)
      have h4 : m + 50000 < k := by clear hm h2 h3 ew h; omega
      rw [if_neg h, wrap_succ (by clear hm h2 h3 ew h hk h4; omega)]
      exact prod_l0 ls hls m (j + 1) k _ (by clear hm h2 h3 ew h hk h4; omega) h4 h2 h3
/-- A solution: a row that makes the clause hold at some place. -/
def Good (n : Nat) (ls : List (List Int)) (r : List Int) : Prop := Row ls r ∧ ∃ i, i < r.length ∧ hit n r i = true
theorem sol_l1 (n : Nat) (hn : n ≤ 4) (ls : List (List Int)) (hl : ls.length = 2 * n) (rows : List (List Int)) (hlen : rows.length ≤ 4000) (hr : ∀ r ∈ rows, Row ls r) : ∀ (m j k : Nat) (out : List (List Int)), rows.length = j + m → m + 30 < k → out.length ≤ j → (∀ r ∈ out, Good n ls r) →
    ∃ out', out'.length ≤ 4000 ∧ (∀ r ∈ out', Good n ls r) ∧ jigsawref10_Solutions.l1 k rows out (j : Int) 12 (iota 0 n) (iota n n) [] [] [] 0 [] = some (out', true)
  | 0, j, k + 1, out, e, hk, ho, hg => by
    refine ⟨out, by omega, hg, ?_⟩
    rw [jigsawref10_Solutions.l1, if_neg (nge (by omega))]
  | m + 1, j, k + 1, out, e, hk, ho, hg => by
    have hj : j < rows.length := by omega
    have hrow := hr (rows.getD j []) (by rw [getD_lt _ _ hj]; exact List.getElem_mem _)
    obtain ⟨b, hb, h⟩ := holds_f (rows.getD j []) n (by rw [hrow.1]; exact hl) hn (k := k) (by omega)
    rw [jigsawref10_Solutions.l1, if_pos (nlt hj), if_pos (by omega), rdL_at, h, Option.bind_some]
    cases b with
    | true =>
      rw [if_pos rfl, if_pos (by omega), wrap_succ' (by omega)]
      exact sol_l1 n hn ls hl rows hlen hr m (j + 1) k _ (by omega) (by omega) (by simp; omega) (fun r h => by
        rcases List.mem_append.1 h with h | h
        · exact hg r h
        · rw [List.mem_singleton] at h; rw [h]; exact ⟨hrow, hb.1 rfl⟩)
    | false =>
      rw [if_neg (by decide), wrap_succ' (by omega)]
      exact sol_l1 n hn ls hl rows hlen hr m (j + 1) k out (by omega) (by omega) (by omega) hg
theorem sol_l0 (p q : List Int) (n : Nat) (hn : n ≤ 4) (hp : p.length = n) (hq : q.length = n) (ls : List (List Int)) (hls : Lists ls) (hl : ls.length = 2 * n) : ∀ (m j k : Nat) (N : Nat), ls.length = j + m → m + 60000 < k → 1 ≤ N → N ≤ 4000 →
    ∃ (rows : List (List Int)) (few : Bool), rows.length ≤ 4000 ∧ (∀ r ∈ rows, Good n ls r) ∧ jigsawref10_Solutions.l0 k ls 4000 (N : Int) (j : Int) 12 p q [] [] [] 0 [] = some (rows, few)
  | 0, j, k + 1, N, e, hk, h1, hN => by
    obtain ⟨rows, a, b, c⟩ := prod_l0 ls hls ls.length 0 k 1 (by omega) (by have := hls.1; omega) (by decide) (by decide)
    obtain ⟨out, f, g, h⟩ := sol_l1 n hn ls hl rows a b rows.length 0 k [] (by omega) (by omega) (by simp) (fun r h => by simp at h)
    refine ⟨out, true, f, g, ?_⟩
    have c' : jigsawref09_Product.f k ls 4000 = some rows := c
    rw [jigsawref10_Solutions.l0, if_neg (nge (by omega)), local_f p q n hp hq hn (by omega), Option.bind_some, c', Option.bind_some]
    exact h
  | m + 1, j, k + 1, N, e, hk, h1, hN => by
    have hi : j < ls.length := by omega
    have h8 := hls.1
    have hlen := hls.at hi
    have hm : N * (ls.getD j []).length ≤ 4000 * 11 := Nat.mul_le_mul hN hlen.2
    have ew : wrap64 ((N : Int) * ((ls.getD j []).length : Int)) = ((N * (ls.getD j []).length : Nat) : Int) := by
      rw [Int.natCast_mul, wrap_id] <;> (rw [← Int.natCast_mul]; omega)
    rw [jigsawref10_Solutions.l0, if_pos (nlt hi), if_pos (by omega), rdL_at, ew]
    by_cases h : ((N * (ls.getD j []).length : Nat) : Int) > 4000
    · exact ⟨[], false, by simp, fun r h => by simp at h, by rw [if_pos h]⟩
    · have h2 : 1 ≤ N * (ls.getD j []).length := Nat.mul_pos (by omega) hlen.1
      have h3 : N * (ls.getD j []).length ≤ 4000 := Int.ofNat_le.1 (Int.not_lt.1 h)
      have h4 : m + 60000 < k := by clear hm h2 h3 ew h; omega
      rw [if_neg h, wrap_succ (by clear hm h2 h3 ew h hk h4; omega)]
      exact sol_l0 p q n hn hp hq ls hls hl m (j + 1) k _ (by clear hm h2 h3 ew h hk h4; omega) h4 h2 h3
/-- The parts of what may be. -/
theorem idx_fits (ds : List S58) (hd : ∀ d ∈ ds, d.f4 ≠ 0) (hl : ds.length ≤ 100) : ∀ (m j k : Nat), ds.length = j + m → m < k → dom_Dom_73_at_prop_Fits_1.l0 k ds (ds.length : Int) (j : Int) = some (-1)
  | 0, j, k + 1, e, _ => by rw [dom_Dom_73_at_prop_Fits_1.l0, if_neg (nge (by omega))]
  | m + 1, j, k + 1, e, hk => by
    have hj : j < ds.length := by omega
    have hv := hd (ds.getD j z58) (by rw [getD_lt _ _ hj]; exact List.getElem_mem _)
    rw [dom_Dom_73_at_prop_Fits_1.l0, if_pos (nlt hj), if_pos (by omega), if_pos (nlt hj), rdD_at]
    have hf : prop_Fits_1.f (ds.getD j z58).f0 (ds.getD j z58).f1 (ds.getD j z58).f2 (ds.getD j z58).f3 (ds.getD j z58).f4 = some false := by
      unfold prop_Fits_1.f dom_Dom_Size.f
      rw [Option.bind_some]
      congr 1
      exact beq_eq_false_iff_ne.2 hv
    rw [hf, Option.bind_some, if_neg (by decide), wrap_succ (by omega)]
    exact idx_fits ds hd hl m (j + 1) k (by omega) (by omega)
theorem idx_right (l : List Int) (hp : ∀ x ∈ l, 0 ≤ x ∧ x ≤ 4) (hl : l.length ≤ 100) : ∀ (m j k : Nat), l.length = j + m → m < k → slices_IndexFunc_int_int_83_at_model_Right_1.l0 k l (l.length : Int) (j : Int) 256 = some (-1)
  | 0, j, k + 1, e, _ => by rw [slices_IndexFunc_int_int_83_at_model_Right_1.l0, if_neg (nge (by omega))]
  | m + 1, j, k + 1, e, hk => by
    have hj : j < l.length := by omega
    have hv := hp (l.getD j 0) (by rw [getD_lt _ _ hj]; exact List.getElem_mem _)
    rw [slices_IndexFunc_int_int_83_at_model_Right_1.l0, if_pos (nlt hj), if_pos (by omega), if_pos (nlt hj), rd_at]
    have hf : model_Right_1.f (l.getD j 0) 256 = some false := by
      unfold model_Right_1.f
      rw [if_neg (by omega), decide_eq_false (by omega)]
    rw [hf, Option.bind_some, if_neg (by decide), wrap_succ (by omega)]
    exact idx_right l hp hl m (j + 1) k (by omega) (by omega)
theorem vars_f (p q : List Int) (n : Nat) (hp : p.length = n) (hq : q.length = n) (hn : n ≤ 4) {k : Nat} (hk : 20 ≤ k) : model_Vars.f k 12 p q [] [] [] 0 [] = some (p ++ q) := by
  obtain ⟨k, rfl⟩ : ∃ k', k = k' + 6 := ⟨k - 6, by omega⟩
  have r0 : rd_L7 [p, q] 0 = p := rfl
  have r1 : rd_L7 [p, q] 1 = q := rfl
  have e1 : wrap64 (0 + (n : Int)) = (n : Int) := by rw [wrap_id (by omega) (by omega)]; omega
  have e2 : wrap64 ((n : Int) + (n : Int)) = (n : Int) + n := wrap_id (by omega) (by omega)
  have w1 : wrap64 (0 + 1) = 1 := by decide +kernel
  have w2 : wrap64 (1 + 1) = 2 := by decide +kernel
  have hlen : (([p, q] : List (List Int)).length : Int) = 2 := rfl
  unfold model_Vars.f slices_Concat_int_int.f
  rw [hlen, slices_Concat_int_int.l0, if_pos (by decide), if_pos (by decide), hlen, if_pos (by decide), r0, hp, e1, if_neg (by omega), w1, slices_Concat_int_int.l0, if_pos (by decide), if_pos (by decide), hlen, if_pos (by decide), r1, hq, e2, if_neg (by omega), w2, slices_Concat_int_int.l0, if_neg (by decide)]
  have hg : slices_GrowNil.f ((n : Int) + n) = some [] := by unfold slices_GrowNil.f; rw [if_pos ⟨by omega, by omega⟩]
  rw [hg, Option.bind_some, hlen, slices_Concat_int_int.l1, if_pos (by decide), if_pos (by decide), hlen, if_pos (by decide), r0, if_pos (by simp [hp]; omega), w1, slices_Concat_int_int.l1, if_pos (by decide), if_pos (by decide), hlen, if_pos (by decide), r1, if_pos (by simp [hp, hq]; omega), w2, slices_Concat_int_int.l1, if_neg (by decide), Option.bind_some]
  simp
theorem bounded_f {a : Int} {k : Nat} (hk : 5 ≤ k) : model_bounded.f k [] a = some true := by
  obtain ⟨k, rfl⟩ : ∃ k', k = k' + 1 := ⟨k - 1, by omega⟩
  unfold model_bounded.f slices_ContainsFunc_int_int_60_at_model_bounded_1.f slices_IndexFunc_int_int_83_at_model_bounded_1.f
  rw [slices_IndexFunc_int_int_83_at_model_bounded_1.l0, if_neg (by decide), Option.bind_some, Option.bind_some]
  rfl
theorem right_f (p q : List Int) (n : Nat) (h1 : 1 ≤ n) (hn : n ≤ 4) (hp : Places n p) (hq : Places n q) {k : Nat} (hk : 30 ≤ k) : model_Right.f k 12 p q [] [] [] 0 [] 256 = some 0 := by
  have hs : model_Shape.f 12 = some (⟨#[86, 87]⟩ : ByteArray) := by decide +kernel
  have hw : wrap64 ((n : Int) + (n : Int)) = (n : Int) + n := wrap_id (by omega) (by omega)
  have hc : model_counted.f 12 p q [] [] [] 0 [] (⟨#[86, 87]⟩ : ByteArray) = some true := by
    unfold model_counted.f model_within.f
    rw [if_pos rfl, hp.1, hq.1, hw, if_pos (by omega), Option.bind_some, if_pos (by simp; omega), if_pos (by unfold mx; split <;> omega)]
    decide +kernel
  have ha : model_alike.f 12 p q [] [] [] 0 [] = some true := by
    unfold model_alike.f
    rw [if_neg (by decide), if_neg (by decide), if_neg (by decide), if_neg (by decide), if_neg (by decide), if_neg (by decide), if_neg (by decide), if_neg (by decide), if_neg (by decide)]
  have hi : slices_ContainsFunc_int_int_60_at_model_Right_1.f k (p ++ q) 256 = some false := by
    unfold slices_ContainsFunc_int_int_60_at_model_Right_1.f slices_IndexFunc_int_int_83_at_model_Right_1.f
    have h := idx_right (p ++ q) (fun x hx => by rcases List.mem_append.1 hx with h | h; exact hp.2 x h; exact hq.2 x h) (by simp [hp.1, hq.1]; omega) (p ++ q).length 0 k (by omega) (by simp [hp.1, hq.1]; omega)
    have h' : slices_IndexFunc_int_int_83_at_model_Right_1.l0 k (p ++ q) ((p ++ q).length : Int) 0 256 = some (-1) := h
    rw [h', Option.bind_some]
    rfl
  have hb : model_numbers.f k 12 p q [] [] [] 0 [] = some true := by
    obtain ⟨k, rfl⟩ : ∃ k', k = k' + 1 := ⟨k - 1, by omega⟩
    unfold model_numbers.f
    rw [if_neg (by decide), if_neg (by decide), model_numbers.l0, if_neg (by decide), bounded_f (by omega), Option.bind_some, if_pos rfl, Option.bind_some, if_pos rfl, Option.bind_some, if_pos rfl, if_pos (by decide)]
    rfl
  have hn' : model_counts.f 12 p q [] [] [] 0 [] = some true := by unfold model_counts.f; rw [if_neg (by decide)]
  unfold model_Right.f
  rw [hs, Option.bind_some, if_neg (by decide +kernel), hc, Option.bind_some, if_pos rfl, ha, Option.bind_some, if_pos rfl, if_pos rfl, vars_f p q n hp.1 hq.1 hn (by omega), Option.bind_some, hi, Option.bind_some, if_neg (by decide), hb, Option.bind_some, if_pos rfl, hn', Option.bind_some, if_pos rfl]
theorem fits_f (p q : List Int) (ds : List S58) (n : Nat) (h1 : 1 ≤ n) (hn : n ≤ 4) (hp : Places n p) (hq : Places n q) (hv : ds.length = 2 * n) (hd : ∀ d ∈ ds, d.f4 ≠ 0) {k : Nat} (hk : 30 ≤ k) : prop_Fits.f k 12 p q [] [] [] 0 [] ds 12 12 = some true := by
  have hi : dom_Dom_54_at_prop_Fits_1.f k ds = some false := by
    unfold dom_Dom_54_at_prop_Fits_1.f dom_Dom_73_at_prop_Fits_1.f
    have h' : dom_Dom_73_at_prop_Fits_1.l0 k ds ((ds.length : Nat) : Int) 0 = some (-1) := idx_fits ds hd (by omega) ds.length 0 k (by omega) (by omega)
    rw [h', Option.bind_some]
    rfl
  have hw : wrap64 ((n : Int) + (n : Int)) = (n : Int) + n := wrap_id (by omega) (by omega)
  unfold prop_Fits.f
  rw [hi, Option.bind_some, if_pos (by decide), if_pos (by decide), right_f p q n h1 hn hp hq hk, Option.bind_some, if_pos rfl, hp.1, hq.1, hw, if_pos (by omega)]
  rfl
/-- What the filter hands back, by whether each domain can make the clause hold. -/
def Out (ds : List S58) (h : Nat → Bool) (Y : Nat → S58) (r : List S58 × Bool) : Prop :=
  (r = ([], false) ∧ ∀ i, i < ds.length → h i = false) ∨ (r = (ds, true) ∧ ∃ a b, a < b ∧ b < ds.length ∧ h a = true ∧ h b = true) ∨
  (∃ c, c < ds.length ∧ h c = true ∧ (∀ i, i < ds.length → h i = true → i = c) ∧ r = (ds.set c (Y c), true))
def Hits (n : Nat) (ds : List S58) (h : Nat → Bool) : Prop := ∀ i, i < ds.length → dom_Dom_Has.f (ds.getD i z58).f0 (ds.getD i z58).f1 (ds.getD i z58).f2 (ds.getD i z58).f3 (ds.getD i z58).f4 (want n i) = some (h i)
def Onlys (n : Nat) (ds : List S58) (h : Nat → Bool) (Y : Nat → S58) : Prop := ∀ i, i < ds.length → h i = true → ∀ k, 40 ≤ k → ∃ e, dom_Dom_Only.f k (ds.getD i z58).f0 (ds.getD i z58).f1 (ds.getD i z58).f2 (ds.getD i z58).f3 (ds.getD i z58).f4 (want n i) = some ((Y i).f0, (Y i).f1, (Y i).f2, (Y i).f3, (Y i).f4, e)
theorem filt_l0 (p q : List Int) (n : Nat) (hp : p.length = n) (ds : List S58) (hl : ds.length ≤ 100) (h : Nat → Bool) (Y : Nat → S58) (hH : Hits n ds h) (hO : Onlys n ds h Y) : ∀ (m j k : Nat) (x7 : Int), ds.length = j + m → 2 * m + 50 < k →
    ((x7 = -1 ∧ ∀ i, i < j → h i = false) ∨ ∃ c : Nat, x7 = (c : Int) ∧ c < j ∧ h c = true ∧ ∀ i, i < j → h i = true → i = c) →
    ∃ r, Out ds h Y r ∧ clause_Filter.l0 k ds ds x7 ds (ds.length : Int) (j : Int) 12 p q [] [] [] 0 [] = some r
  | 0, j, k + 1, x7, e, hk, hx => by
    rw [clause_Filter.l0, if_neg (nge (by omega))]
    rcases hx with ⟨rfl, h0⟩ | ⟨c, rfl, hc, hh, h0⟩
    · exact ⟨_, Or.inl ⟨rfl, fun i hi => h0 i (by omega)⟩, by rw [if_pos (by decide)]⟩
    · have hc' : c < ds.length := by omega
      obtain ⟨e', he⟩ := hO c hc' hh k (by omega)
      refine ⟨_, Or.inr (Or.inr ⟨c, hc', hh, fun i hi => h0 i (by omega), rfl⟩), ?_⟩
      rw [if_neg (by omega), if_pos (by omega), if_pos (nlt hc'), want_f p q n hp, Option.bind_some, rdD_at, he, Option.bind_some, if_pos (nlt hc'), Int.toNat_natCast]
  | m + 1, j, k + 1, x7, e, hk, hx => by
    have hj : j < ds.length := by omega
    obtain ⟨k, rfl⟩ : ∃ k', k = k' + 1 := ⟨k - 1, by omega⟩
    rw [clause_Filter.l0, if_pos (nlt hj), if_pos (by omega), if_pos (nlt hj), want_f p q n hp, Option.bind_some, rdD_at, hH j hj, Option.bind_some, clause_Filter.j1]
    cases hh : h j with
    | false =>
      rw [if_pos (show (!false) = true from rfl), wrap_succ (by omega)]
      refine filt_l0 p q n hp ds hl h Y hH hO m (j + 1) k x7 (by omega) (by omega) ?_
      rcases hx with ⟨rfl, h0⟩ | ⟨c, rfl, hc, h1, h0⟩
      · exact Or.inl ⟨rfl, fun i hi => by rcases Nat.lt_succ_iff_lt_or_eq.1 hi with h' | rfl; exact h0 i h'; exact hh⟩
      · exact Or.inr ⟨c, rfl, by omega, h1, fun i hi hi' => by rcases Nat.lt_succ_iff_lt_or_eq.1 hi with h' | rfl; exact h0 i h' hi'; rw [hh] at hi'; cases hi'⟩
    | true =>
      rw [if_neg (by decide)]
      rcases hx with ⟨rfl, h0⟩ | ⟨c, rfl, hc, h1, h0⟩
      · rw [if_neg (by decide), wrap_succ (by omega)]
        exact filt_l0 p q n hp ds hl h Y hH hO m (j + 1) k j (by omega) (by omega) (Or.inr ⟨j, rfl, by omega, hh, fun i hi hi' => by rcases Nat.lt_succ_iff_lt_or_eq.1 hi with h' | rfl; rw [h0 i h'] at hi'; cases hi'; rfl⟩)
      · rw [if_pos (by omega)]
        exact ⟨_, Or.inr (Or.inl ⟨rfl, c, j, hc, hj, h1, hh⟩), rfl⟩
theorem filt_f (p q : List Int) (n : Nat) (h1 : 1 ≤ n) (hn : n ≤ 4) (hp : Places n p) (hq : Places n q) (ds : List S58) (hv : ds.length = 2 * n) (hd : ∀ d ∈ ds, d.f4 ≠ 0) (h : Nat → Bool) (Y : Nat → S58) (hH : Hits n ds h) (hO : Onlys n ds h Y) {k : Nat} (hk : 200 ≤ k) :
    ∃ r, Out ds h Y r ∧ clause_Filter.f k 12 p q [] [] [] 0 [] ds = some r := by
  obtain ⟨r, hr, e⟩ := filt_l0 p q n hp.1 ds (by omega) h Y hH hO ds.length 0 k (-1) (by omega) (by omega) (Or.inl ⟨rfl, fun i hi => by omega⟩)
  refine ⟨r, hr, ?_⟩
  have e' : clause_Filter.l0 k ds ds (-1) ds (ds.length : Int) 0 12 p q [] [] [] 0 [] = some r := e
  unfold clause_Filter.f slices_CloneDom.f
  rw [fits_f p q ds n h1 hn hp hq hv hd (by omega), Option.bind_some, if_pos rfl, if_pos (by omega), Option.bind_some, e']
theorem doms_l0 (ms : List (Fin 2048)) (hs : ∀ c ∈ ms, c.val ≠ 0) (hl : ms.length ≤ 100) : ∀ (m j k : Nat), ms.length = j + m → m + 50 < k →
    jigsawlaw14_doms.l0 k ((ms.take j).map D) (ms.map LL) (ms.length : Int) (j : Int) = some (ms.map D)
  | 0, j, k + 1, e, _ => by
    rw [jigsawlaw14_doms.l0, if_neg (nge (by omega)), List.take_of_length_le (by omega)]
  | m + 1, j, k + 1, e, hk => by
    have hj : j < ms.length := by omega
    have hv := hs (ms.getD j 0) (by rw [getD_lt _ _ hj]; exact List.getElem_mem _)
    rw [jigsawlaw14_doms.l0, if_pos (nlt hj), if_pos (by omega), if_pos (by rw [List.length_map]; exact nlt hj), rdL_at, getD_map LL ms 0 [] hj, of_one hv (by omega), Option.bind_some, if_pos (by simp; omega), wrap_succ (by omega)]
    have h := doms_l0 ms hs hl m (j + 1) k (by omega) (by omega)
    rw [← take_step ms 0 hj, List.map_append] at h
    exact h
theorem doms_f (ms : List (Fin 2048)) (hs : ∀ c ∈ ms, c.val ≠ 0) (hl : ms.length ≤ 100) {k : Nat} (hk : 200 ≤ k) : jigsawlaw14_doms.f k (ms.map LL) = some (ms.map D) := by
  have h := doms_l0 ms hs hl ms.length 0 k (by omega) (by omega)
  unfold jigsawlaw14_doms.f
  rw [List.length_map]
  exact h
/-- Domains and their lists. -/
def Listed (ds : List S58) (ls : List (List Int)) : Prop := ds.length = ls.length ∧ ∀ i, i < ds.length → ∀ k, 40 ≤ k → dom_Dom_List.f k (ds.getD i z58).f0 (ds.getD i z58).f1 (ds.getD i z58).f2 (ds.getD i z58).f3 (ds.getD i z58).f4 = some (ls.getD i [])
theorem lists_l0 (ds : List S58) (ls : List (List Int)) (hL : Listed ds ls) (hl : ds.length ≤ 100) : ∀ (m j k : Nat), ds.length = j + m → m + 50 < k →
    jigsawlaw14_lists.l0 k (ls.take j) ds (ds.length : Int) (j : Int) = some ls
  | 0, j, k + 1, e, _ => by
    have := hL.1
    rw [jigsawlaw14_lists.l0, if_neg (nge (by omega)), List.take_of_length_le (by omega)]
  | m + 1, j, k + 1, e, hk => by
    have hj : j < ds.length := by omega
    have hl2 := hL.1
    rw [jigsawlaw14_lists.l0, if_pos (nlt hj), if_pos (by omega), if_pos (nlt hj), rdD_at, hL.2 j hj k (by omega), Option.bind_some, if_pos (by simp; omega), wrap_succ (by omega), take_step ls [] (by omega)]
    exact lists_l0 ds ls hL hl m (j + 1) k (by omega) (by omega)
theorem lists_f (ds : List S58) (ls : List (List Int)) (hL : Listed ds ls) (hl : ds.length ≤ 100) {k : Nat} (hk : 200 ≤ k) : jigsawlaw14_lists.f k ds = some ls :=
  lists_l0 ds ls hL hl ds.length 0 k (by omega) (by omega)
theorem same_l1 (ls : List (List Int)) (hl : ls.length ≤ 100) (i : Nat) (hi : i < ls.length) (hb : (ls.getD i []).length ≤ 11) : ∀ (m j k : Nat), (ls.getD i []).length = j + m → m < k →
    ∃ k', k' + m + 1 = k ∧ jigsawref10_Same.l1 k ls ls (i : Int) (j : Int) = jigsawref10_Same.l0 k' ls ls (((i + 1 : Nat)) : Int)
  | 0, j, k + 1, e, hk => by
    refine ⟨k, rfl, ?_⟩
    rw [jigsawref10_Same.l1, if_pos (by omega), if_pos (nlt hi), rdL_at, if_neg (nge (by omega)), wrap_succ (by omega)]
  | m + 1, j, k + 1, e, hk => by
    obtain ⟨k', h1, h2⟩ := same_l1 ls hl i hi hb m (j + 1) k (by omega) (by omega)
    refine ⟨k', by omega, ?_⟩
    rw [jigsawref10_Same.l1, if_pos (by omega), if_pos (nlt hi), rdL_at, if_pos (nlt (by omega)), if_pos (by omega), if_pos (nlt hi), if_pos (nlt (by omega)), if_pos rfl, wrap_succ (by omega)]
    exact h2
theorem same_l0 (ls : List (List Int)) (hl : ls.length ≤ 100) (hb : ∀ i, i < ls.length → (ls.getD i []).length ≤ 11) : ∀ (m j k : Nat), ls.length = j + m → 14 * m < k →
    jigsawref10_Same.l0 k ls ls (j : Int) = some true
  | 0, j, k + 1, e, _ => by
    rw [jigsawref10_Same.l0, if_neg (nge (by omega))]
  | m + 1, j, k + 1, e, hk => by
    have hj : j < ls.length := by omega
    have hb' := hb j hj
    obtain ⟨k', h1, h2⟩ := same_l1 ls hl j hj hb' (ls.getD j []).length 0 k (by omega) (by omega)
    have h3 : jigsawref10_Same.l1 k ls ls (j : Int) 0 = _ := h2
    rw [jigsawref10_Same.l0, if_pos (nlt hj), if_pos (by omega), if_pos (nlt hj), if_pos rfl, h3]
    exact same_l0 ls hl hb m (j + 1) k' (by omega) (by omega)
theorem same_f (ls : List (List Int)) (hl : ls.length ≤ 100) (hb : ∀ i, i < ls.length → (ls.getD i []).length ≤ 11) {k : Nat} (hk : 2000 ≤ k) : jigsawref10_Same.f k ls ls = some true := by
  unfold jigsawref10_Same.f
  rw [if_pos rfl]
  exact same_l0 ls hl hb ls.length 0 k (by omega) (by omega)
theorem index_l0 (l : List Int) (v : Int) (hl : l.length ≤ 100) : ∀ (m j k : Nat), l.length = j + m → m < k → v ∈ l.drop j → ∃ i : Nat, slices_Index_int_int.l0 k l v (l.length : Int) (j : Int) = some (i : Int)
  | 0, j, k + 1, e, _, hv => by rw [List.drop_eq_nil_of_le (by omega)] at hv; cases hv
  | m + 1, j, k + 1, e, hk, hv => by
    have hj : j < l.length := by omega
    rw [slices_Index_int_int.l0, if_pos (nlt hj), if_pos (by omega), if_pos (nlt hj), rd_at]
    by_cases h : v = l.getD j 0
    · exact ⟨j, by rw [if_pos h]⟩
    · rw [if_neg h, wrap_succ (by omega)]
      refine index_l0 l v hl m (j + 1) k (by omega) (by omega) ?_
      rw [List.drop_eq_getElem_cons hj] at hv
      rcases List.mem_cons.1 hv with h' | h'
      · rw [getD_lt _ _ hj] at h; exact absurd h' h
      · exact h'
theorem contains_f (l : List Int) (v : Int) (hl : l.length ≤ 100) (hv : v ∈ l) {k : Nat} (hk : 200 ≤ k) : slices_Contains_int_int.f k l v = some true := by
  obtain ⟨i, h⟩ := index_l0 l v hl l.length 0 k (by omega) (by omega) (by simpa using hv)
  have h' : slices_Index_int_int.f k l v = some (i : Int) := h
  unfold slices_Contains_int_int.f
  rw [h', Option.bind_some, decide_eq_true (by omega)]
theorem wf_u8 {x : Int} (h : (Lit.int .u8 x).wf = true) : 0 ≤ x ∧ x ≤ 255 := by
  simp only [Lit.wf, IntKind.min, IntKind.max, IntKind.signed, IntKind.bits, Bool.and_eq_true] at h
  simp at h
  omega
/-- What the law's loops are told: the domains' lists are of the lists that were; each solution is among the domains. -/
theorem law_l1 (p q : List Int) (rows : List (List Int)) (ds : List S58) (x57 : List (List Int)) (i : Nat) (hi : i < x57.length) (hx : x57.length ≤ 8) (l : List Int) (hb : l.length ≤ 11) (hx2 : (x57.getD i []).length ≤ 11) (hv : ∀ v ∈ l, v ∈ x57.getD i []) : ∀ (m j k : Nat), l.length = j + m → m + 300 < k →
    ∃ k', k' + m + 1 = k ∧ jigsawlaw14_ClauseKeeps.l1 k rows ds (x57.getD i []) x57 (x57.length : Int) (i : Int) l (l.length : Int) (j : Int) 12 p q [] [] [] 0 [] = jigsawlaw14_ClauseKeeps.l0 k' rows ds x57 (x57.length : Int) (((i + 1 : Nat)) : Int) 12 p q [] [] [] 0 []
  | 0, j, k + 1, e, hk => by
    refine ⟨k, rfl, ?_⟩
    rw [jigsawlaw14_ClauseKeeps.l1, if_neg (nge (by omega)), wrap_succ (by omega)]
  | m + 1, j, k + 1, e, hk => by
    have hj : j < l.length := by omega
    obtain ⟨k', h1, h2⟩ := law_l1 p q rows ds x57 i hi hx l hb hx2 hv m (j + 1) k (by omega) (by omega)
    refine ⟨k', by omega, ?_⟩
    rw [jigsawlaw14_ClauseKeeps.l1, if_pos (nlt hj), if_pos (by omega), if_pos (nlt hj), rd_at, contains_f _ _ (by omega) (hv _ (by rw [getD_lt _ _ hj]; exact List.getElem_mem _)) (by omega), Option.bind_some, if_pos rfl, wrap_succ (by omega)]
    exact h2
theorem law_l0 (p q : List Int) (rows : List (List Int)) (ds : List S58) (x57 ls : List (List Int)) (hx : x57.length ≤ 8) (hd : ds.length = x57.length) (hL : Listed ds ls) (hb : ∀ i, i < ds.length → (ls.getD i []).length ≤ 11) (hb2 : ∀ i, i < ds.length → (x57.getD i []).length ≤ 11) (hv : ∀ i, i < ds.length → ∀ v ∈ ls.getD i [], v ∈ x57.getD i []) : ∀ (m j k : Nat), x57.length = j + m → 20 * m + 400 < k →
    ∃ k', k - 20 * m - 2 ≤ k' ∧ jigsawlaw14_ClauseKeeps.l0 k rows ds x57 (x57.length : Int) (j : Int) 12 p q [] [] [] 0 [] = jigsawlaw14_ClauseKeeps.l2 k' ds rows (rows.length : Int) 0 12 p q [] [] [] 0 []
  | 0, j, k + 1, e, hk => by
    refine ⟨k, by omega, ?_⟩
    rw [jigsawlaw14_ClauseKeeps.l0, if_neg (nge (by omega))]
  | m + 1, j, k + 1, e, hk => by
    have hj : j < x57.length := by omega
    have hj2 : j < ds.length := by omega
    obtain ⟨k1, h1, h2⟩ := law_l1 p q rows ds x57 j hj hx (ls.getD j []) (hb j hj2) (hb2 j hj2) (hv j hj2) (ls.getD j []).length 0 k (by omega) (by have := hb j hj2; omega)
    have h3 : jigsawlaw14_ClauseKeeps.l1 k rows ds (x57.getD j []) x57 (x57.length : Int) (j : Int) (ls.getD j []) ((ls.getD j []).length : Int) 0 12 p q [] [] [] 0 [] = _ := h2
    have hbj := hb j hj2
    obtain ⟨k', h4, h5⟩ := law_l0 p q rows ds x57 ls hx hd hL hb hb2 hv m (j + 1) k1 (by omega) (by omega)
    refine ⟨k', by omega, ?_⟩
    rw [jigsawlaw14_ClauseKeeps.l0, if_pos (nlt hj), if_pos (by omega), if_pos (nlt hj), if_pos (by omega), rdD_at, rdL_at, hL.2 j hj2 k (by omega), Option.bind_some, h3]
    exact h5
theorem law_l3 (p q : List Int) (rows : List (List Int)) (ds : List S58) (i : Nat) (hi : i < rows.length) (hr : rows.length ≤ 4000) (r : List Int) (hl : r.length = ds.length) (h8 : ds.length ≤ 8)
    (hh : ∀ t, t < ds.length → dom_Dom_Has.f (ds.getD t z58).f0 (ds.getD t z58).f1 (ds.getD t z58).f2 (ds.getD t z58).f3 (ds.getD t z58).f4 (r.getD t 0) = some true) : ∀ (m j k : Nat), r.length = j + m → m + 10 < k →
    ∃ k', k' + m + 1 = k ∧ jigsawlaw14_ClauseKeeps.l3 k ds rows (rows.length : Int) (i : Int) r (r.length : Int) (j : Int) 12 p q [] [] [] 0 [] = jigsawlaw14_ClauseKeeps.l2 k' ds rows (rows.length : Int) (((i + 1 : Nat)) : Int) 12 p q [] [] [] 0 []
  | 0, j, k + 1, e, hk => by
    refine ⟨k, rfl, ?_⟩
    rw [jigsawlaw14_ClauseKeeps.l3, if_neg (nge (by omega)), wrap_succ' (by omega)]
  | m + 1, j, k + 1, e, hk => by
    have hj : j < r.length := by omega
    obtain ⟨k', h1, h2⟩ := law_l3 p q rows ds i hi hr r hl h8 hh m (j + 1) k (by omega) (by omega)
    refine ⟨k', by omega, ?_⟩
    rw [jigsawlaw14_ClauseKeeps.l3, if_pos (nlt hj), if_pos (by omega), if_pos (nlt hj), if_pos (by omega), rdD_at, rd_at, hh j (by omega), Option.bind_some, if_pos rfl, wrap_succ (by omega)]
    exact h2
theorem law_l2 (p q : List Int) (rows : List (List Int)) (hr : rows.length ≤ 4000) (ds : List S58) (ls : List (List Int)) (h8 : ds.length ≤ 8) (hL : Listed ds ls) (hb : ∀ i, i < ds.length → (ls.getD i []).length ≤ 11)
    (hrow : ∀ r ∈ rows, r.length = ds.length ∧ ∀ t, t < ds.length → dom_Dom_Has.f (ds.getD t z58).f0 (ds.getD t z58).f1 (ds.getD t z58).f2 (ds.getD t z58).f3 (ds.getD t z58).f4 (r.getD t 0) = some true)
    (hF : ∀ k, 1000 ≤ k → clause_Filter.f k 12 p q [] [] [] 0 [] ds = some (ds, true)) : ∀ (m j k : Nat), rows.length = j + m → 12 * m + 3000 < k →
    jigsawlaw14_ClauseKeeps.l2 k ds rows (rows.length : Int) (j : Int) 12 p q [] [] [] 0 [] = some true
  | 0, j, k + 1, e, hk => by
    have hl := hL.1
    rw [jigsawlaw14_ClauseKeeps.l2, if_neg (nge (by omega)), hF k (by omega), Option.bind_some, wakes_true (by omega), Option.bind_some, if_pos rfl, if_pos rfl, lists_f ds ls hL (by omega) (by omega), Option.bind_some, Option.bind_some, same_f ls (by omega) (fun i hi => hb i (by omega)) (by omega), Option.bind_some]
  | m + 1, j, k + 1, e, hk => by
    have hj : j < rows.length := by omega
    have h := hrow (rows.getD j []) (by rw [getD_lt _ _ hj]; exact List.getElem_mem _)
    obtain ⟨k', h1, h2⟩ := law_l3 p q rows ds j hj hr (rows.getD j []) h.1 h8 h.2 (rows.getD j []).length 0 k (by omega) (by omega)
    have h3 : jigsawlaw14_ClauseKeeps.l3 k ds rows (rows.length : Int) (j : Int) (rows.getD j []) ((rows.getD j []).length : Int) 0 12 p q [] [] [] 0 [] = _ := h2
    rw [jigsawlaw14_ClauseKeeps.l2, if_pos (nlt hj), if_pos (by omega), if_pos (nlt hj), rdL_at, h3]
    exact law_l2 p q rows hr ds ls h8 hL hb hrow hF m (j + 1) k' (by omega) (by have := h.1; omega)
theorem set_set {α : Type} (l : List α) (c : Nat) (y : α) : (l.set c y).set c y = l.set c y := by
  rw [List.set_set]
theorem mem_getD {α : Type} {l : List α} (z : α) {x : α} (h : x ∈ l) : ∃ i, i < l.length ∧ l.getD i z = x := by
  obtain ⟨i, hi, e⟩ := List.getElem_of_mem h
  exact ⟨i, hi, by rw [getD_lt _ _ hi]; exact e⟩
/-- The end of the law: some domains are left. -/
theorem law_end (p q : List Int) (n : Nat) (h1 : 1 ≤ n) (hn : n ≤ 4) (hp : Places n p) (hq : Places n q) (ms : List (Fin 2048)) (hl : ms.length = 2 * n) (hs : ∀ c ∈ ms, c.val ≠ 0) (rows : List (List Int)) (hr : rows.length ≤ 4000) (hg : ∀ r ∈ rows, Good n (ms.map LL) r)
    (r : List S58 × Bool) (h : Nat → Bool) (Y : Nat → S58) (eh : ∀ i, h i = decide (want n i ∈ LL (ms.getD i 0))) (eY : ∀ i, Y i = XM (ms.getD i 0) (decide (i < n))) (ho : Out (ms.map D) h Y r) {k : Nat} (hk : 60000 ≤ k) :
    (r.2 = false ∧ rows = []) ∨ (r.2 = true ∧ r.1.length = (ms.map LL).length ∧ jigsawlaw14_ClauseKeeps.l0 k rows r.1 (ms.map LL) ((ms.map LL).length : Int) 0 12 p q [] [] [] 0 [] = some true) := by
  have hlenD : (ms.map D).length = 2 * n := by simp [hl]
  have hlenL : (ms.map LL).length = 2 * n := by simp [hl]
  have atD : ∀ i, i < 2 * n → (ms.map D).getD i z58 = D (ms.getD i 0) := fun i hi => getD_map D ms 0 z58 (by omega)
  have atL : ∀ i, i < 2 * n → (ms.map LL).getD i [] = LL (ms.getD i 0) := fun i hi => getD_map LL ms 0 [] (by omega)
  have ne0 : ∀ i, i < 2 * n → (ms.getD i 0).val ≠ 0 := fun i hi => hs _ (by rw [getD_lt _ _ (by omega)]; exact List.getElem_mem _)
  have wb : ∀ i, want n i = bi (decide (i < n)) := fun i => by rw [want_bool]; rfl
  have wr : ∀ i, -5 ≤ want n i ∧ want n i ≤ 5 := fun i => by unfold want; split <;> omega
  have inL : ∀ i, h i = true → bi (decide (i < n)) ∈ LL (ms.getD i 0) := fun i hi => by rw [eh i, wb i] at hi; exact of_decide_eq_true hi
  have hitI : ∀ (x : List Int) (i : Nat), i < 2 * n → Row (ms.map LL) x → hit n x i = true → h i = true := by
    intro x i hi hx hh
    have hxi := hx.2 i (by omega)
    rw [atL i hi] at hxi
    rw [eh i]
    refine decide_eq_true ?_
    unfold hit at hh
    rw [← beq_iff_eq.1 hh]
    exact hxi
  rcases ho with ⟨rfl, h0⟩ | ⟨rfl, a, b, hab, hb, ha', hb'⟩ | ⟨c, hc, hhc, hone, rfl⟩
  · refine Or.inl ⟨rfl, List.eq_nil_iff_forall_not_mem.2 fun x hx => ?_⟩
    obtain ⟨hrow, i, hi, hh⟩ := hg x hx
    have hi2 : i < 2 * n := by have := hrow.1; omega
    have := h0 i (by omega)
    rw [hitI x i hi2 hrow hh] at this
    cases this
  · refine Or.inr ⟨rfl, by simp, ?_⟩
    have hL : Listed (ms.map D) (ms.map LL) := ⟨by simp, fun i hi k hk => by rw [atD i (by omega), atL i (by omega)]; exact list_one _ hk⟩
    have hlen : ∀ i, i < (ms.map D).length → ((ms.map LL).getD i []).length ≤ 11 := fun i hi => by rw [atL i (by omega)]; exact (len_all _).1
    have hH : Hits n (ms.map D) h := fun i hi => by rw [atD i (by omega), has_one _ (wr i), eh i]
    have hO : Onlys n (ms.map D) h Y := fun i hi hh k hk => by rw [atD i (by omega), wb i, eY i]; exact only_one (inL i hh) hk
    have hd : ∀ d ∈ ms.map D, d.f4 ≠ 0 := fun d hd => by obtain ⟨m, hm, rfl⟩ := List.mem_map.1 hd; exact size_all m (hs m hm)
    obtain ⟨k', hk', e⟩ := law_l0 p q rows (ms.map D) (ms.map LL) (ms.map LL) (by omega) (by omega) hL hlen hlen (fun i hi v hv => hv) (ms.map LL).length 0 k (by omega) (by omega)
    have e' : jigsawlaw14_ClauseKeeps.l0 k rows (ms.map D) (ms.map LL) ((ms.map LL).length : Int) 0 12 p q [] [] [] 0 [] = _ := e
    show jigsawlaw14_ClauseKeeps.l0 k rows (ms.map D) (ms.map LL) ((ms.map LL).length : Int) 0 12 p q [] [] [] 0 [] = some true
    rw [e']
    refine law_l2 p q rows hr (ms.map D) (ms.map LL) (by omega) hL hlen (fun x hx => ?_) (fun k hk => ?_) rows.length 0 k' (by omega) (by omega)
    · have hx' := (hg x hx).1
      refine ⟨by rw [hx'.1]; simp, fun t ht => ?_⟩
      have hxt := hx'.2 t (by omega)
      rw [atL t (by omega)] at hxt
      rw [atD t (by omega), has_one _ ((len_all _).2 _ hxt), decide_eq_true hxt]
    · obtain ⟨r2, ho2, e2⟩ := filt_f p q n h1 hn hp hq (ms.map D) (by omega) hd h Y hH hO (k := k) (by omega)
      rcases ho2 with ⟨rfl, h0⟩ | ⟨rfl, _⟩ | ⟨c, hc, _, hone, rfl⟩
      · have := h0 a (by omega); rw [ha'] at this; cases this
      · exact e2
      · have e3 := hone a (by omega) ha'; have e4 := hone b (by omega) hb'; omega
  · have hc2 : c < 2 * n := by omega
    have hin := inL c hhc
    have hYc : Y c = XM (ms.getD c 0) (decide (c < n)) := eY c
    have atS : ∀ i, i < 2 * n → ((ms.map D).set c (Y c)).getD i z58 = if c = i then Y c else D (ms.getD i 0) := fun i hi => by rw [getD_set _ _ _ _ _ (by omega), atD i hi]
    have lenS : ((ms.map D).set c (Y c)).length = 2 * n := by rw [List.length_set]; omega
    have lenT : ((ms.map LL).set c [bi (decide (c < n))]).length = 2 * n := by rw [List.length_set]; omega
    have atT : ∀ i, i < 2 * n → ((ms.map LL).set c [bi (decide (c < n))]).getD i [] = if c = i then [bi (decide (c < n))] else LL (ms.getD i 0) := fun i hi => by rw [getD_set _ _ _ _ _ (by omega), atL i hi]
    refine Or.inr ⟨rfl, by rw [lenS]; omega, ?_⟩
    have hL : Listed ((ms.map D).set c (Y c)) ((ms.map LL).set c [bi (decide (c < n))]) := ⟨by omega, fun i hi k hk => by
      rw [atS i (by omega), atT i (by omega)]
      by_cases hci : c = i
      · rw [if_pos hci, if_pos hci, hYc]; exact xlist_one hin hk
      · rw [if_neg hci, if_neg hci]; exact list_one _ hk⟩
    have hlen : ∀ i, i < ((ms.map D).set c (Y c)).length → (((ms.map LL).set c [bi (decide (c < n))]).getD i []).length ≤ 11 := fun i hi => by
      rw [atT i (by omega)]
      split
      · simp
      · exact (len_all _).1
    have hlen2 : ∀ i, i < ((ms.map D).set c (Y c)).length → ((ms.map LL).getD i []).length ≤ 11 := fun i hi => by rw [atL i (by omega)]; exact (len_all _).1
    have hsub : ∀ i, i < ((ms.map D).set c (Y c)).length → ∀ v ∈ ((ms.map LL).set c [bi (decide (c < n))]).getD i [], v ∈ (ms.map LL).getD i [] := fun i hi v hv => by
      rw [atT i (by omega)] at hv
      rw [atL i (by omega)]
      by_cases hci : c = i
      · rw [if_pos hci] at hv
        rw [List.mem_singleton] at hv
        rw [hv, ← hci]; exact hin
      · rw [if_neg hci] at hv; exact hv
    have hH : Hits n ((ms.map D).set c (Y c)) h := fun i hi => by
      rw [atS i (by omega)]
      by_cases hci : c = i
      · rw [if_pos hci, ← hci, hhc, wb c, hYc]; exact xhas_all _ _ hin
      · rw [if_neg hci, has_one _ (wr i), eh i]
    have hO : Onlys n ((ms.map D).set c (Y c)) h Y := fun i hi hh k hk => by
      have hi' : i = c := hone i (by omega) hh
      rw [atS i (by omega), if_pos hi'.symm, hi', wb c, hYc]
      exact ⟨0, xonly_one hin hk⟩
    have hd : ∀ d ∈ (ms.map D).set c (Y c), d.f4 ≠ 0 := fun d hd => by
      obtain ⟨i, hi, rfl⟩ := mem_getD z58 hd
      rw [atS i (by omega)]
      split
      · rw [hYc, xsize_all _ _ hin]; decide
      · exact size_all _ (ne0 i (by omega))
    obtain ⟨k', hk', e⟩ := law_l0 p q rows ((ms.map D).set c (Y c)) (ms.map LL) ((ms.map LL).set c [bi (decide (c < n))]) (by omega) (by omega) hL hlen hlen2 hsub (ms.map LL).length 0 k (by omega) (by omega)
    have e' : jigsawlaw14_ClauseKeeps.l0 k rows ((ms.map D).set c (Y c)) (ms.map LL) ((ms.map LL).length : Int) 0 12 p q [] [] [] 0 [] = _ := e
    show jigsawlaw14_ClauseKeeps.l0 k rows ((ms.map D).set c (Y c)) (ms.map LL) ((ms.map LL).length : Int) 0 12 p q [] [] [] 0 [] = some true
    rw [e']
    refine law_l2 p q rows hr ((ms.map D).set c (Y c)) ((ms.map LL).set c [bi (decide (c < n))]) (by omega) hL hlen (fun x hx => ?_) (fun k hk => ?_) rows.length 0 k' (by omega) (by omega)
    · obtain ⟨hx', i, hi, hh⟩ := hg x hx
      have hi2 : i < 2 * n := by have := hx'.1; omega
      have hic : i = c := hone i (by omega) (hitI x i hi2 hx' hh)
      refine ⟨by rw [hx'.1]; omega, fun t ht => ?_⟩
      rw [atS t (by omega)]
      by_cases hct : c = t
      · have hxc : x.getD t 0 = bi (decide (c < n)) := by
          rw [← hct, ← hic, ← wb i]
          unfold hit at hh
          exact beq_iff_eq.1 hh
        rw [if_pos hct, hxc, hYc]; exact xhas_all _ _ hin
      · have hxt := hx'.2 t (by omega)
        rw [atL t (by omega)] at hxt
        rw [if_neg hct, has_one _ ((len_all _).2 _ hxt), decide_eq_true hxt]
    · obtain ⟨r2, ho2, e2⟩ := filt_f p q n h1 hn hp hq ((ms.map D).set c (Y c)) (by omega) hd h Y hH hO (k := k) (by omega)
      rcases ho2 with ⟨rfl, h0⟩ | ⟨rfl, _⟩ | ⟨c2, hc2', hh2, _, rfl⟩
      · have := h0 c (by omega); rw [hhc] at this; cases this
      · exact e2
      · have : c2 = c := hone c2 (by omega) hh2
        subst this
        rw [set_set] at e2
        exact e2
/-- THE PLAIN LAW: whatever the input, the answer is true. -/
theorem clauseKeeps (a0 : Int) (l1 l3 l4 : List Int) (a4 a5 : Int) (l6 : List (List Int)) (a1 : Int) (_ : (Lit.int .u8 a0).wf = true) (hw1 : ∀ x ∈ l1, (Lit.int .u8 x).wf = true) (hw3 : ∀ x ∈ l3, (Lit.int .u8 x).wf = true) (_ : ∀ x ∈ l4, (Lit.int .i8 x).wf = true) (_ : (Lit.int .i16 a4).wf = true) (_ : (Lit.int .u8 a5).wf = true) (_ : (Lit.int .u8 a1).wf = true) :
    ∃ k, jigsawlaw14_ClauseKeeps.f k a0 l1 l3 l4 a4 a5 l6 a1 = some true := by
  refine ⟨100000, ?_⟩
  obtain ⟨n, p, q, ms, h1, hn, hp, hq, hl, hs, hm⟩ := case_f a0 a4 a5 l1 l3 l4 l6 (fun x hx => wf_u8 (hw1 x hx)) (fun x hx => wf_u8 (hw3 x hx)) (k := 100000) (by decide)
  have hlenL : (ms.map LL).length = 2 * n := by simp [hl]
  have atD : ∀ i, i < 2 * n → (ms.map D).getD i z58 = D (ms.getD i 0) := fun i hi => getD_map D ms 0 z58 (by omega)
  have hls : Lists (ms.map LL) := ⟨by omega, fun l h => by obtain ⟨m, hm', rfl⟩ := List.mem_map.1 h; exact ⟨Nat.pos_of_ne_zero (ne_all m (hs m hm')), (len_all m).1⟩⟩
  obtain ⟨rows, few, hr, hg, e1⟩ := sol_l0 p q n hn hp.1 hq.1 (ms.map LL) hls hlenL (ms.map LL).length 0 100000 1 (by omega) (by omega) (by decide) (by decide)
  have e1' : jigsawref10_Solutions.f 100000 12 p q [] [] [] 0 [] (ms.map LL) 4000 = some (rows, few) := e1
  have wb : ∀ i, want n i = bi (decide (i < n)) := fun i => by rw [want_bool]; rfl
  have wr : ∀ i, -5 ≤ want n i ∧ want n i ≤ 5 := fun i => by unfold want; split <;> omega
  obtain ⟨r, ho, e2⟩ := filt_f p q n h1 hn hp hq (ms.map D) (by simp [hl]) (fun d hd => by obtain ⟨m, hm', rfl⟩ := List.mem_map.1 hd; exact size_all m (hs m hm')) (fun i => decide (want n i ∈ LL (ms.getD i 0))) (fun i => XM (ms.getD i 0) (decide (i < n)))
    (fun i hi => by rw [atD i (by simpa [hl] using hi), has_one _ (wr i)]) (fun i hi hh k hk => by
      have hh' := of_decide_eq_true hh
      rw [wb i] at hh'
      rw [atD i (by simpa [hl] using hi), wb i]; exact only_one hh' hk) (k := 100000) (by decide)
  unfold jigsawlaw14_ClauseKeeps.f
  rw [show jigsawlaw14_kind.f a1 = some 12 from rfl, Option.bind_some, hm, Option.bind_some]
  show (jigsawref10_Solutions.f 100000 12 p q [] [] [] 0 [] (ms.map LL) 4000).bind _ = _
  rw [e1', Option.bind_some]
  show (jigsawlaw14_doms.f 100000 (ms.map LL)).bind _ = _
  rw [doms_f ms hs (by omega) (by decide), Option.bind_some]
  show (clause_Filter.f 100000 12 p q [] [] [] 0 [] (ms.map D)).bind _ = _
  rw [e2, Option.bind_some]
  show jigsawlaw14_ClauseKeeps.j0 (99999 + 1) (ms.map LL) rows r.1 r.2 (!few) 12 p q [] [] [] 0 [] = some true
  rw [jigsawlaw14_ClauseKeeps.j0]
  cases few with
  | false => rw [if_pos (show (!false) = true from rfl), wakes_true (by decide), Option.bind_some]
  | true =>
    rw [if_neg (by decide)]
    rcases law_end p q n h1 hn hp hq ms hl hs rows hr hg r _ _ (fun _ => rfl) (fun _ => rfl) ho (k := 99999) (by decide) with ⟨hf, hrows⟩ | ⟨ht, hlen, e⟩
    · rw [hf, if_neg (by decide), wakes_true (by decide), Option.bind_some, if_pos rfl, hrows]; rfl
    · rw [ht, if_pos rfl, if_pos (by omega)]
      exact e
end Go.Proofs.YtmhchlbbfpmdgaaGreatDoor.Pure
