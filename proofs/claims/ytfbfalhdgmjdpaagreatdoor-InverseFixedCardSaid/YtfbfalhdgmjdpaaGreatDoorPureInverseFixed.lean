/- The plain law of InverseFixed: what the walk computes answers true, for every input. -/
import Derived.Test.YtfbfalhdgmjdpaaGreatDoorXIVxx15
namespace Go.Proofs.YtfbfalhdgmjdpaaGreatDoor.Pure
open Go.RowKit Go.Proofs.YtfbfalhdgmjdpaaGreatDoor.XInverseFixed Go.Proofs.YtfbfalhdgmjdpaaGreatDoorW.PrintWords Go.Proofs.YtfbfalhdgmjdpaaGreatDoorW.PrintLast Go.Proofs.YtfbfalhdgmjdpaaGreatDoorW.PrintMore
set_option linter.unusedVariables false
theorem wrap_id {n : Int} (h : -9223372036854775808 ≤ n) (h2 : n ≤ 9223372036854775807) : wrap64 n = n := by unfold wrap64; omega
theorem wrap_succ {j : Nat} (h : j ≤ 1000) : wrap64 ((j : Int) + 1) = ((j + 1 : Nat) : Int) := by rw [wrap_id (by omega) (by omega)]; omega
theorem up {α : Type} {f : Nat → Option α} (hm : ∀ k, LeO (f k) (f (k + 1))) {k : Nat} {r : α} (h : f k = some r) : ∀ {k'}, k ≤ k' → f k' = some r := by
  intro k' hk
  induction hk with
  | refl => exact h
  | step _ ih => exact hm _ _ ih
/-- A number of 8 bits. -/
def Small (v : Int) : Prop := -128 ≤ v ∧ v ≤ 127
def offv (v : Int) : Int := Go.bits .andNot .i64 v 63
def bitv (v : Int) : Int := shl .u64 1 (v - offv v)
/-- The domain of one number. -/
def D (v : Int) : S58 := ⟨offv v, [bitv v], v, v, 1⟩
theorem by_fin {P : Int → Prop} (h : ∀ i : Fin 256, P ((i.val : Int) - 128)) {v : Int} (hv : Small v) : P v := by
  unfold Small at hv
  have := h ⟨(v + 128).toNat, by omega⟩
  simp only [] at this
  rwa [show (((v + 128).toNat : Nat) : Int) - 128 = v by omega] at this
instance dq3 : DecidableEq (Int × Int × Int) := inferInstance
instance dq4 : DecidableEq (Int × Int × Int × Int) := fun a b => instDecidableEqProd a b
instance dq5 : DecidableEq (List Int × Int × Int × Int × Int) := fun a b => instDecidableEqProd a b
instance dq6 : DecidableEq (Int × List Int × Int × Int × Int × Int) := fun a b => instDecidableEqProd a b
theorem of_all : ∀ i : Fin 256, dom_Of.f 10 [(i.val : Int) - 128] = some (offv ((i.val : Int) - 128), [bitv ((i.val : Int) - 128)], (i.val : Int) - 128, (i.val : Int) - 128, 1, 0) := by decide +kernel
theorem list_all : ∀ i : Fin 256, dom_Dom_List.f 10 (offv ((i.val : Int) - 128)) [bitv ((i.val : Int) - 128)] ((i.val : Int) - 128) ((i.val : Int) - 128) 1 = some [(i.val : Int) - 128] := by decide +kernel
theorem has_all : ∀ i : Fin 256, ∀ j : Fin 257, dom_Dom_Has.f (offv ((i.val : Int) - 128)) [bitv ((i.val : Int) - 128)] ((i.val : Int) - 128) ((i.val : Int) - 128) 1 ((j.val : Int) - 128) = some (decide ((i.val : Int) - 128 = (j.val : Int) - 128)) := by decide +kernel
theorem of_one {v : Int} (hv : Small v) {k : Nat} (hk : 10 ≤ k) : dom_Of.f k [v] = some (offv v, [bitv v], v, v, 1, 0) :=
  up (f := fun k => dom_Of.f k [v]) (dom_Of.mono [v]) (by_fin (P := fun v => dom_Of.f 10 [v] = some (offv v, [bitv v], v, v, 1, 0)) of_all hv) hk
theorem list_one {v : Int} (hv : Small v) {k : Nat} (hk : 10 ≤ k) : dom_Dom_List.f k (offv v) [bitv v] v v 1 = some [v] :=
  up (f := fun k => dom_Dom_List.f k (offv v) [bitv v] v v 1) (dom_Dom_List.mono _ _ _ _ _) (by_fin (P := fun v => dom_Dom_List.f 10 (offv v) [bitv v] v v 1 = some [v]) list_all hv) hk
theorem has_one {v u : Int} (hv : Small v) (hu : -128 ≤ u ∧ u ≤ 128) : dom_Dom_Has.f (offv v) [bitv v] v v 1 u = some (decide (v = u)) := by
  have h := by_fin (P := fun v => ∀ j : Fin 257, dom_Dom_Has.f (offv v) [bitv v] v v 1 ((j.val : Int) - 128) = some (decide (v = (j.val : Int) - 128))) has_all hv ⟨(u + 128).toNat, by omega⟩
  simp only [] at h
  rwa [show (((u + 128).toNat : Nat) : Int) - 128 = u by omega] at h
theorem wakes_true {k : Nat} (hk : 100 ≤ k) : jigsawlaw22_wakes.f k = some true :=
  up (f := fun k => jigsawlaw22_wakes.f k) jigsawlaw22_wakes.mono (by decide +kernel) hk
theorem rd_at (l : List Int) (j : Nat) : rd l (j : Int) = l.getD j 0 := rfl
theorem rdL_at (l : List (List Int)) (j : Nat) : rd_L7 l (j : Int) = l.getD j [] := rfl
theorem rdD_at (l : List S58) (j : Nat) : rd_T58 l (j : Int) = l.getD j z58 := rfl
theorem getD_lt {α : Type} (l : List α) (z : α) {j : Nat} (h : j < l.length) : l.getD j z = l[j] := by
  rw [List.getD_eq_getElem?_getD, List.getElem?_eq_getElem h]; rfl
theorem getD_map {α β : Type} (f : α → β) (l : List α) (z : α) (y : β) {j : Nat} (h : j < l.length) : (l.map f).getD j y = f (l.getD j z) := by
  rw [getD_lt _ _ (by simpa using h), getD_lt _ _ h]; simp
theorem take_step {α : Type} (l : List α) (z : α) {j : Nat} (h : j < l.length) : l.take j ++ [l.getD j z] = l.take (j + 1) := by
  rw [getD_lt _ _ h]; simp
theorem nlt {a b : Nat} (h : a < b) : (a : Int) < (b : Int) := by omega
theorem nge {a b : Nat} (h : ¬ a < b) : ¬ (a : Int) < (b : Int) := by omega
/-- The places: so many, each below 4, none below 0. -/
def Places (n : Nat) (r : List Int) : Prop := r.length = n ∧ ∀ x ∈ r, 0 ≤ x ∧ x ≤ 3
theorem places_l0 (l : List Int) (hl : ∀ x ∈ l, 0 ≤ x ∧ x ≤ 255) (n : Nat) (hn : n ≤ 4) : ∀ (m j k : Nat) (acc : List Int), n = j + m → m < k → Places j acc → ∃ r, jigsawref06_places.l0 k l (n : Int) 4 acc (j : Int) = some r ∧ Places n r
  | 0, j, k + 1, acc, e, _, ha => by
    obtain rfl : n = j := by omega
    refine ⟨acc, ?_, ha⟩
    rw [jigsawref06_places.l0, if_neg (nge (by omega))]
  | m + 1, j, k + 1, acc, e, hk, ha => by
    have hj : j < n := by omega
    obtain ⟨h1, h2⟩ := ha
    have hlen : acc.length < 17592186044416 := by omega
    by_cases hx : j < l.length
    · have hm := hl (l.getD j 0) (by rw [getD_lt _ _ hx]; exact List.getElem_mem _)
      obtain ⟨r, hr, hp⟩ := places_l0 l hl n hn m (j + 1) k (acc ++ [Int.tmod (wrap64 (rd l (j : Int))) 4]) (by omega) (by omega) ⟨by simp [h1], fun x hx => by
        rcases List.mem_append.1 hx with h | h
        · exact h2 x h
        · rw [List.mem_singleton] at h
          rw [h, rd_at, wrap_id (by omega) (by omega), Int.tmod_eq_emod_of_nonneg (by omega)]
          omega⟩
      refine ⟨r, ?_, hp⟩
      rw [jigsawref06_places.l0, if_pos (nlt hj), if_pos (nlt hx), if_pos (by omega), if_neg (by decide), if_pos hlen, wrap_succ (by omega)]
      exact hr
    · obtain ⟨r, hr, hp⟩ := places_l0 l hl n hn m (j + 1) k (acc ++ [Int.tmod (j : Int) 4]) (by omega) (by omega) ⟨by simp [h1], fun x hx => by
        rcases List.mem_append.1 hx with h | h
        · exact h2 x h
        · rw [List.mem_singleton] at h
          rw [h, Int.tmod_eq_emod_of_nonneg (by omega)]
          omega⟩
      refine ⟨r, ?_, hp⟩
      rw [jigsawref06_places.l0, if_pos (nlt hj), if_neg (nge hx), if_neg (by decide), if_pos hlen, wrap_succ (by omega)]
      exact hr
theorem places_f (l : List Int) (hl : ∀ x ∈ l, 0 ≤ x ∧ x ≤ 255) (n : Nat) (hn : n ≤ 4) {k : Nat} (hk : 5 ≤ k) : ∃ r, jigsawref06_places.f k l (n : Int) 4 = some r ∧ Places n r :=
  places_l0 l hl n hn n 0 k [] (by omega) (by omega) ⟨rfl, fun x hx => by simp at hx⟩
theorem has_f {s : ByteArray} {c r : Int} (h : jigsawref06_has.f 6 s c = some r) {k : Nat} (hk : 6 ≤ k) : jigsawref06_has.f k s c = some r :=
  up (f := fun k => jigsawref06_has.f k s c) (jigsawref06_has.mono _ _) h hk
/-- A constraint that is made: a clause, of places. -/
theorem make_f (l1 l2 l3 : List Int) (a4 a5 : Int) (h1 : ∀ x ∈ l1, 0 ≤ x ∧ x ≤ 255) (h2 : ∀ x ∈ l2, 0 ≤ x ∧ x ≤ 255) {k : Nat} (hk : 20 ≤ k) :
    ∃ (n : Nat) (p q : List Int), 1 ≤ n ∧ n ≤ 4 ∧ Places n p ∧ Places n q ∧ jigsawref06_Make.f k 22 l1 l2 l3 a4 a5 4 = some (23, p, q, [], [], [], 0, []) := by
  have hw : wrap64 (1 + Int.tmod (wrap64 22) 23) = 23 := by decide +kernel
  have hs : jigsawref06_Shapes.f = some ((jigsawref06_Shapes.f).getD []) := by rfl
  have hlen : ((jigsawref06_Shapes.f).getD []).length = 24 := by decide +kernel
  have hvw : rdOf ByteArray.empty ((jigsawref06_Shapes.f).getD []) 23 = (⟨#[86, 87]⟩ : ByteArray) := by rfl
  have key : ∀ n : Nat, n ≤ 4 → ∀ k, 10 ≤ k → ∃ p q, Places n p ∧ Places n q ∧ jigsawref06_Make.j1 k 4 (⟨#[86, 87]⟩ : ByteArray) (n : Int) 22 l1 l2 l3 a4 a5 23 0 = some (23, p, q, [], [], [], 0, []) := by
    intro n hn k hk
    obtain ⟨k, rfl⟩ : ∃ k', k = k' + 1 := ⟨k - 1, by omega⟩
    obtain ⟨p, hp, hpp⟩ := places_f l1 h1 n hn (k := k) (by omega)
    obtain ⟨q, hq, hqq⟩ := places_f l2 h2 n hn (k := k) (by omega)
    refine ⟨p, q, hpp, hqq, ?_⟩
    rw [jigsawref06_Make.j1, has_f (r := 0) (by decide +kernel) (by omega), Option.bind_some, if_neg (by decide), hp, Option.bind_some, has_f (r := 0) (by decide +kernel) (by omega), Option.bind_some, if_neg (by decide), has_f (r := 1) (by decide +kernel) (by omega), Option.bind_some, if_pos (by decide), hq, Option.bind_some, has_f (r := 0) (by decide +kernel) (by omega), Option.bind_some, if_neg (by decide), if_neg (by decide), has_f (r := 0) (by decide +kernel) (by omega), Option.bind_some, if_neg (by decide), if_neg (by decide), if_neg (by decide), if_neg (by decide)]
  have key0 : ∀ n : Nat, 1 ≤ n → ∃ (m : Nat) (p q : List Int), 1 ≤ m ∧ m ≤ 4 ∧ Places m p ∧ Places m q ∧ jigsawref06_Make.j0 k 4 (⟨#[86, 87]⟩ : ByteArray) (n : Int) 22 l1 l2 l3 a4 a5 23 0 = some (23, p, q, [], [], [], 0, []) := by
    intro n hn
    obtain ⟨k, rfl⟩ : ∃ k', k = k' + 1 := ⟨k - 1, by omega⟩
    by_cases h4 : n ≤ 4
    · obtain ⟨p, q, hp, hq, e⟩ := key n h4 k (by omega)
      exact ⟨n, p, q, hn, h4, hp, hq, by rw [jigsawref06_Make.j0, if_neg (by omega)]; exact e⟩
    · obtain ⟨p, q, hp, hq, e⟩ := key 4 (by decide) k (by omega)
      exact ⟨4, p, q, by decide, by decide, hp, hq, by rw [jigsawref06_Make.j0, if_pos (by omega)]; exact e⟩
  unfold jigsawref06_Make.f
  rw [hs, Option.bind_some, hw, hlen, if_pos (by decide), if_pos (by decide), hvw]
  by_cases h0 : l1.length < 1
  · rw [if_pos (by omega)]
    exact key0 1 (by decide)
  · rw [if_neg (by omega)]
    exact key0 l1.length (by omega)
/-- So many numbers from a first one on. -/
def iota (a n : Nat) : List Int := (List.range n).map fun i => ((a + i : Nat) : Int)
theorem iota_len (a n : Nat) : (iota a n).length = n := by simp [iota]
theorem iota_at (a n j : Nat) (h : j < n) : (iota a n).getD j 0 = ((a + j : Nat) : Int) := by
  rw [getD_lt _ _ (by rw [iota_len]; exact h)]; simp [iota]
theorem iota_succ (a n : Nat) : iota a n ++ [((a + n : Nat) : Int)] = iota a (n + 1) := by simp [iota, List.range_succ]
theorem local_l1 (p q : List Int) (n : Nat) (hp : p.length = n) (hq : q.length = n) (hn : n ≤ 4) : ∀ (m j k : Nat), n = j + m → m < k →
    jigsawref10_Local.l1 k (j : Int) 23 p q [] [] [] 0 [] 23 (iota 0 n) (iota n j) [] [] [] 0 [] = some (23, iota 0 n, iota n n, [], [], [], 0, [])
  | 0, j, k + 1, e, _ => by
    obtain rfl : n = j := by omega
    rw [jigsawref10_Local.l1, hq, if_neg (nge (by omega))]
  | m + 1, j, k + 1, e, hk => by
    rw [jigsawref10_Local.l1, hq, if_pos (nlt (by omega)), if_pos (by rw [iota_len]; omega), wrap_succ (by omega), hp, wrap_id (by omega) (by omega), show ((n : Int) + (j : Int)) = ((n + j : Nat) : Int) by omega, iota_succ]
    exact local_l1 p q n hp hq hn m (j + 1) k (by omega) (by omega)
theorem local_l0 (p q : List Int) (n : Nat) (hp : p.length = n) (hq : q.length = n) (hn : n ≤ 4) : ∀ (m j k : Nat), n = j + m → m + 6 < k →
    jigsawref10_Local.l0 k (j : Int) 23 p q [] [] [] 0 [] 23 (iota 0 j) [] [] [] 0 [] = some (23, iota 0 n, iota n n, [], [], [], 0, [])
  | 0, j, k + 1, e, _ => by
    obtain rfl : n = j := by omega
    rw [jigsawref10_Local.l0, hp, if_neg (nge (by omega))]
    exact local_l1 p q n hp hq hn n 0 k (by omega) (by omega)
  | m + 1, j, k + 1, e, hk => by
    have h := iota_succ 0 j
    rw [Nat.zero_add] at h
    rw [jigsawref10_Local.l0, hp, if_pos (nlt (by omega)), if_pos (by rw [iota_len]; omega), wrap_succ (by omega), h]
    exact local_l0 p q n hp hq hn m (j + 1) k (by omega) (by omega)
theorem local_f (p q : List Int) (n : Nat) (hp : p.length = n) (hq : q.length = n) (hn : n ≤ 4) {k : Nat} (hk : 11 ≤ k) :
    jigsawref10_Local.f k 23 p q [] [] [] 0 [] = some (23, iota 0 n, iota n n, [], [], [], 0, []) :=
  local_l0 p q n hp hq hn n 0 k (by omega) (by omega)
theorem doms_l0 (vs : List Int) (hs : ∀ v ∈ vs, Small v) (hl : vs.length ≤ 100) : ∀ (m j k : Nat), vs.length = j + m → m + 11 < k →
    jigsawlaw22_doms.l0 k ((vs.take j).map D) (vs.map fun v => [v]) (vs.length : Int) (j : Int) = some (vs.map D)
  | 0, j, k + 1, e, _ => by
    rw [jigsawlaw22_doms.l0, if_neg (nge (by omega)), List.take_of_length_le (by omega)]
  | m + 1, j, k + 1, e, hk => by
    have hj : j < vs.length := by omega
    have hv := hs (vs.getD j 0) (by rw [getD_lt _ _ hj]; exact List.getElem_mem _)
    rw [jigsawlaw22_doms.l0, if_pos (nlt hj), if_pos (by omega), if_pos (by rw [List.length_map]; exact nlt hj), rdL_at, getD_map (fun v => [v]) vs 0 [] hj, of_one hv (by omega), Option.bind_some, if_pos (by simp; omega), wrap_succ (by omega)]
    have h := doms_l0 vs hs hl m (j + 1) k (by omega) (by omega)
    rw [← take_step vs 0 hj, List.map_append] at h
    exact h
theorem doms_f (vs : List Int) (hs : ∀ v ∈ vs, Small v) (hl : vs.length ≤ 100) {k : Nat} (hk : 200 ≤ k) : jigsawlaw22_doms.f k (vs.map fun v => [v]) = some (vs.map D) := by
  have h := doms_l0 vs hs hl vs.length 0 k (by omega) (by omega)
  unfold jigsawlaw22_doms.f
  rw [List.length_map]
  exact h
theorem lists_l0 (vs : List Int) (hs : ∀ v ∈ vs, Small v) (hl : vs.length ≤ 100) : ∀ (m j k : Nat), vs.length = j + m → m + 11 < k →
    jigsawlaw22_lists.l0 k ((vs.take j).map fun v => [v]) (vs.map D) (vs.length : Int) (j : Int) = some (vs.map fun v => [v])
  | 0, j, k + 1, e, _ => by
    rw [jigsawlaw22_lists.l0, if_neg (nge (by omega)), List.take_of_length_le (by omega)]
  | m + 1, j, k + 1, e, hk => by
    have hj : j < vs.length := by omega
    have hv := hs (vs.getD j 0) (by rw [getD_lt _ _ hj]; exact List.getElem_mem _)
    rw [jigsawlaw22_lists.l0, if_pos (nlt hj), if_pos (by omega), if_pos (by rw [List.length_map]; exact nlt hj), rdD_at, getD_map D vs 0 z58 hj]
    show (dom_Dom_List.f k (offv (vs.getD j 0)) [bitv (vs.getD j 0)] (vs.getD j 0) (vs.getD j 0) 1).bind _ = _
    rw [list_one hv (by omega), Option.bind_some, if_pos (by simp; omega), wrap_succ (by omega)]
    have h := lists_l0 vs hs hl m (j + 1) k (by omega) (by omega)
    rw [← take_step vs 0 hj, List.map_append] at h
    exact h
theorem lists_f (vs : List Int) (hs : ∀ v ∈ vs, Small v) (hl : vs.length ≤ 100) {k : Nat} (hk : 200 ≤ k) : jigsawlaw22_lists.f k (vs.map D) = some (vs.map fun v => [v]) := by
  have h := lists_l0 vs hs hl vs.length 0 k (by omega) (by omega)
  unfold jigsawlaw22_lists.f
  rw [List.length_map]
  exact h
theorem same_l0 (vs : List Int) (hl : vs.length ≤ 100) : ∀ (m j k : Nat), vs.length = j + m → 3 * m < k →
    jigsawref10_Same.l0 k (vs.map fun v => [v]) (vs.map fun v => [v]) (j : Int) = some true
  | 0, j, k + 1, e, _ => by
    rw [jigsawref10_Same.l0, List.length_map, if_neg (nge (by omega))]
  | m + 1, j, k + 1, e, hk => by
    have hj : j < vs.length := by omega
    obtain ⟨k, rfl⟩ : ∃ k', k = k' + 2 := ⟨k - 2, by omega⟩
    have hr : rd_L7 (vs.map fun v => [v]) (j : Int) = [vs.getD j 0] := by rw [rdL_at, getD_map (fun v => [v]) vs 0 [] hj]
    rw [jigsawref10_Same.l0, List.length_map, if_pos (nlt hj), if_pos (by omega), if_pos rfl]
    rw [jigsawref10_Same.l1, if_pos (by omega), List.length_map, if_pos (nlt hj), hr, if_pos (show (0 : Int) < (([vs.getD j 0] : List Int).length : Int) by simp), if_pos (show (0 : Int) ≤ 0 by decide), if_pos (nlt hj), if_pos (show (0 : Int) < (([vs.getD j 0] : List Int).length : Int) by simp), if_pos rfl]
    rw [jigsawref10_Same.l1, if_pos (by omega), List.length_map, if_pos (nlt hj), hr, if_neg (show ¬ wrap64 (0 + 1) < (([vs.getD j 0] : List Int).length : Int) by simp [wrap64]), wrap_succ (by omega)]
    exact same_l0 vs hl m (j + 1) k (by omega) (by omega)
theorem same_f (vs : List Int) (hl : vs.length ≤ 100) {k : Nat} (hk : 400 ≤ k) : jigsawref10_Same.f k (vs.map fun v => [v]) (vs.map fun v => [v]) = some true := by
  unfold jigsawref10_Same.f
  rw [if_pos rfl]
  exact same_l0 vs hl vs.length 0 k (by omega) (by omega)
/-- A place that has its own place there where it leads. -/
def good (X Y : Nat → Int) (n i : Nat) : Prop := 1 ≤ X i ∧ X i ≤ (n : Int) ∧ Y (X i - 1).toNat = (i : Int) + 1
theorem both_good {X Y : Nat → Int} {n : Nat} : ((∀ i, i < n → good X Y n i) ∧ ∀ k, k < n → good Y X n k) ↔ ∀ i, i < n → ∀ k, k < n → (1 ≤ X i ∧ X i ≤ (n : Int)) ∧ (1 ≤ Y k ∧ Y k ≤ (n : Int)) ∧ (X i = (k : Int) + 1 ↔ Y k = (i : Int) + 1) := by
  constructor
  · rintro ⟨h1, h2⟩ i hi k hk
    obtain ⟨a1, a2, a3⟩ := h1 i hi
    obtain ⟨b1, b2, b3⟩ := h2 k hk
    refine ⟨⟨a1, a2⟩, ⟨b1, b2⟩, fun e => ?_, fun e => ?_⟩
    · rw [e] at a3
      have : ((k : Int) + 1 - 1).toNat = k := by omega
      rwa [this] at a3
    · rw [e] at b3
      have : ((i : Int) + 1 - 1).toNat = i := by omega
      rwa [this] at b3
  · intro h
    refine ⟨fun i hi => ?_, fun k hk => ?_⟩
    · obtain ⟨⟨a1, a2⟩, _⟩ := h i hi i hi
      refine ⟨a1, a2, ?_⟩
      have hb := h i hi (X i - 1).toNat (by omega)
      exact hb.2.2.1 (by omega)
    · obtain ⟨_, ⟨a1, a2⟩, _⟩ := h k hk k hk
      refine ⟨a1, a2, ?_⟩
      have hb := h (Y k - 1).toNat (by omega) k hk
      exact hb.2.2.2 (by omega)
/-- One side, of fixed values: all is left, if each place leads where it is led from; else nothing is. -/
theorem side_l0 (xs ys : List Int) (n : Nat) (hx : xs.length = n) (hy : ys.length = n) (hn : n ≤ 4) (sx : ∀ v ∈ xs, Small v) (sy : ∀ v ∈ ys, Small v) : ∀ (m j k : Nat), n = j + m → 3 * m + 20 < k → (∀ i, i < j → good (xs.getD · 0) (ys.getD · 0) n i) →
    ∃ b : Bool, (b = true ↔ ∀ i, i < n → good (xs.getD · 0) (ys.getD · 0) n i) ∧ inverse_side.l0 k (ys.map D) false (xs.map D) (xs.map D) (n : Int) (j : Int) = some (xs.map D, false, b)
  | 0, j, k + 1, e, hk, h => by
    obtain rfl : n = j := by omega
    exact ⟨true, ⟨fun _ => h, fun _ => rfl⟩, by rw [inverse_side.l0, if_neg (nge (by omega))]⟩
  | m + 1, j, k + 1, e, hk, h => by
    have hj : j < xs.length := by omega
    have hv := sx (xs.getD j 0) (by rw [getD_lt _ _ hj]; exact List.getElem_mem _)
    obtain ⟨v, ev⟩ : ∃ v, xs.getD j 0 = v := ⟨_, rfl⟩
    rw [ev] at hv
    obtain ⟨k, rfl⟩ : ∃ k', k = k' + 2 := ⟨k - 2, by omega⟩
    have w1 : wrap64 (0 + 1) = 1 := by decide +kernel
    have hlen : (([v] : List Int).length : Int) = 1 := rfl
    rw [inverse_side.l0, if_pos (nlt (by omega)), if_pos (by omega), List.length_map, if_pos (nlt hj), rdD_at, getD_map D xs 0 z58 hj, ev]
    show ∃ b : Bool, _ ∧ (dom_Dom_List.f (k + 2) (offv v) [bitv v] v v 1).bind _ = _
    rw [list_one hv (by omega), Option.bind_some, hlen]
    have bad : ∀ k', ¬ good (xs.getD · 0) (ys.getD · 0) n j → ∃ b : Bool, (b = true ↔ ∀ i, i < n → good (xs.getD · 0) (ys.getD · 0) n i) ∧ inverse_side.l1 (k' + 1) (ys.map D) false (j : Int) [] (xs.map D) (xs.map D) (n : Int) (j : Int) [v] 1 1 (offv v) [bitv v] v v 1 = some (xs.map D, false, b) := by
      intro k' hb
      refine ⟨false, ⟨fun h => (by cases h), fun h => absurd (h j (by omega)) hb⟩, ?_⟩
      rw [inverse_side.l1, if_neg (by decide), if_pos (by simp)]
    have hr : rd [v] 0 = v := rfl
    show ∃ b : Bool, _ ∧ inverse_side.l1 (k + 1 + 1) (ys.map D) false (j : Int) [] (xs.map D) (xs.map D) (n : Int) (j : Int) [v] 1 0 (offv v) [bitv v] v v 1 = _
    rw [inverse_side.l1, if_pos (by decide), if_pos (by decide), hlen, if_pos (by decide), hr, List.length_map, hy, w1]
    by_cases c1 : v ≥ 1
    · rw [if_pos c1]
      by_cases c2 : v ≤ (n : Int)
      · have hw : wrap64 (v - 1) = (((v - 1).toNat : Nat) : Int) := by rw [wrap_id (by omega) (by omega)]; omega
        have hu : (v - 1).toNat < ys.length := by omega
        have hsu := sy (ys.getD (v - 1).toNat 0) (by rw [getD_lt _ _ hu]; exact List.getElem_mem _)
        rw [if_pos c2, hw, if_pos (by omega), if_pos (by omega), rdD_at, getD_map D ys 0 z58 hu, wrap_succ (by omega)]
        show ∃ b : Bool, _ ∧ (dom_Dom_Has.f (offv (ys.getD (v - 1).toNat 0)) [bitv (ys.getD (v - 1).toNat 0)] (ys.getD (v - 1).toNat 0) (ys.getD (v - 1).toNat 0) 1 ((j + 1 : Nat) : Int)).bind _ = _
        rw [has_one hsu (by omega), Option.bind_some]
        by_cases c3 : ys.getD (v - 1).toNat 0 = ((j + 1 : Nat) : Int)
        · have hg : good (xs.getD · 0) (ys.getD · 0) n j := by
            show 1 ≤ xs.getD j 0 ∧ xs.getD j 0 ≤ (n : Int) ∧ ys.getD (xs.getD j 0 - 1).toNat 0 = (j : Int) + 1
            rw [ev]
            exact ⟨c1, c2, by rw [c3]; omega⟩
          rw [if_pos (decide_eq_true c3), if_pos (by decide), List.nil_append, inverse_side.l1, if_neg (by decide), if_neg (by simp), show dom_Dom_Size.f (offv v) [bitv v] v v 1 = some 1 from rfl, Option.bind_some, if_neg (by simp), wrap_succ (by omega)]
          refine side_l0 xs ys n hx hy hn sx sy m (j + 1) k (by omega) (by omega) (fun i hi => ?_)
          by_cases ei : i = j
          · rw [ei]; exact hg
          · exact h i (by omega)
        · rw [if_neg (by simpa using c3)]
          exact bad k (fun hg => c3 (by
            have h3 : ys.getD (xs.getD j 0 - 1).toNat 0 = (j : Int) + 1 := hg.2.2
            rw [ev] at h3
            rw [h3]; omega))
      · rw [if_neg c2]
        exact bad k (fun hg => c2 (by
          have h3 : xs.getD j 0 ≤ (n : Int) := hg.2.1
          rwa [ev] at h3))
    · rw [if_neg c1]
      exact bad k (fun hg => c1 (by
        have h3 : 1 ≤ xs.getD j 0 := hg.1
        rwa [ev] at h3))
theorem side_f (xs ys : List Int) (n : Nat) (hx : xs.length = n) (hy : ys.length = n) (hn : n ≤ 4) (sx : ∀ v ∈ xs, Small v) (sy : ∀ v ∈ ys, Small v) {k : Nat} (hk : 40 ≤ k) :
    ∃ b : Bool, (b = true ↔ ∀ i, i < n → good (xs.getD · 0) (ys.getD · 0) n i) ∧ inverse_side.f k (xs.map D) (ys.map D) = some (xs.map D, false, b) := by
  obtain ⟨b, hb, e⟩ := side_l0 xs ys n hx hy hn sx sy n 0 k (by omega) (by omega) (fun i hi => by omega)
  refine ⟨b, hb, ?_⟩
  unfold inverse_side.f
  rw [List.length_map, hx]
  exact e
/-- The document's: each place and each other one. -/
theorem pairs_l2 (vs : List Int) (n : Nat) (hv : vs.length = 2 * n) (hn : n ≤ 4) (i : Nat) (hi : i < n) : ∀ (m j k : Nat), n = j + m → m < k →
    (∀ a, a < i → ∀ c, c < n → (1 ≤ vs.getD a 0 ∧ vs.getD a 0 ≤ (n : Int)) ∧ (1 ≤ vs.getD (n + c) 0 ∧ vs.getD (n + c) 0 ≤ (n : Int)) ∧ (vs.getD a 0 = (c : Int) + 1 ↔ vs.getD (n + c) 0 = (a : Int) + 1)) →
    (∀ c, c < j → (1 ≤ vs.getD i 0 ∧ vs.getD i 0 ≤ (n : Int)) ∧ (1 ≤ vs.getD (n + c) 0 ∧ vs.getD (n + c) 0 ≤ (n : Int)) ∧ (vs.getD i 0 = (c : Int) + 1 ↔ vs.getD (n + c) 0 = (i : Int) + 1)) →
    (jigsawref09_pairs.l2 k vs (n : Int) (i : Int) (j : Int) 23 (iota 0 n) (iota n n) [] [] [] 0 [] = some false ∧ ∃ c, c < n ∧ ¬ ((1 ≤ vs.getD i 0 ∧ vs.getD i 0 ≤ (n : Int)) ∧ (1 ≤ vs.getD (n + c) 0 ∧ vs.getD (n + c) 0 ≤ (n : Int)) ∧ (vs.getD i 0 = (c : Int) + 1 ↔ vs.getD (n + c) 0 = (i : Int) + 1))) ∨
    ((∀ c, c < n → (1 ≤ vs.getD i 0 ∧ vs.getD i 0 ≤ (n : Int)) ∧ (1 ≤ vs.getD (n + c) 0 ∧ vs.getD (n + c) 0 ≤ (n : Int)) ∧ (vs.getD i 0 = (c : Int) + 1 ↔ vs.getD (n + c) 0 = (i : Int) + 1)) ∧ ∃ k', k' + m + 1 = k ∧ jigsawref09_pairs.l2 k vs (n : Int) (i : Int) (j : Int) 23 (iota 0 n) (iota n n) [] [] [] 0 [] = jigsawref09_pairs.l1 k' vs (n : Int) ((i + 1 : Nat) : Int) 23 (iota 0 n) (iota n n) [] [] [] 0 [])
  | 0, j, k + 1, e, hk, h, h' => by
    obtain rfl : n = j := by omega
    exact .inr ⟨h', k, rfl, by rw [jigsawref09_pairs.l2, if_neg (nge (by omega)), wrap_succ (by omega)]⟩
  | m + 1, j, k + 1, e, hk, h, h' => by
    have hj : j < n := by omega
    have r1 : rd (iota 0 n) (i : Int) = ((i : Nat) : Int) := by rw [rd_at, iota_at 0 n i hi, Nat.zero_add]
    have r2 : rd (iota n n) (j : Int) = ((n + j : Nat) : Int) := by rw [rd_at, iota_at n n j hj]
    rw [jigsawref09_pairs.l2, if_pos (nlt hj), if_pos (by omega), iota_len, if_pos (nlt hi), r1, if_pos (by omega), if_pos (nlt (by omega)), if_pos (by omega), iota_len, if_pos (nlt hj), r2, if_pos (by omega), if_pos (nlt (by omega)), rd_at, rd_at, wrap_succ (by omega), wrap_succ (by omega)]
    by_cases c1 : vs.getD i 0 < 1
    · rw [if_pos c1]; exact .inl ⟨rfl, j, hj, fun g => by have := g.1.1; omega⟩
    rw [if_neg c1]
    by_cases c2 : vs.getD i 0 > (n : Int)
    · rw [if_pos c2]; exact .inl ⟨rfl, j, hj, fun g => by have := g.1.2; omega⟩
    rw [if_neg c2]
    by_cases c3 : vs.getD (n + j) 0 < 1
    · rw [if_pos c3]; exact .inl ⟨rfl, j, hj, fun g => by have := g.2.1.1; omega⟩
    rw [if_neg c3]
    by_cases c4 : vs.getD (n + j) 0 > (n : Int)
    · rw [if_pos c4]; exact .inl ⟨rfl, j, hj, fun g => by have := g.2.1.2; omega⟩
    rw [if_neg c4]
    by_cases c5 : (vs.getD i 0 = (j : Int) + 1 ↔ vs.getD (n + j) 0 = (i : Int) + 1)
    · have e5 : ((vs.getD i 0 == ((j + 1 : Nat) : Int)) != (vs.getD (n + j) 0 == ((i + 1 : Nat) : Int))) = false := by
        by_cases g1 : vs.getD i 0 = (j : Int) + 1
        · have g2 := c5.1 g1
          rw [g1, g2]; simp
        · have g2 : ¬ vs.getD (n + j) 0 = (i : Int) + 1 := fun g => g1 (c5.2 g)
          have f1 : (vs.getD i 0 == ((j + 1 : Nat) : Int)) = false := by rw [beq_eq_false_iff_ne]; omega
          have f2 : (vs.getD (n + j) 0 == ((i + 1 : Nat) : Int)) = false := by rw [beq_eq_false_iff_ne]; omega
          rw [f1, f2]; rfl
      rw [if_neg (by rw [e5]; decide)]
      rcases pairs_l2 vs n hv hn i hi m (j + 1) k (by omega) (by omega) h (fun c hc => by
        by_cases ec : c = j
        · rw [ec]; exact ⟨⟨by omega, by omega⟩, ⟨by omega, by omega⟩, c5⟩
        · exact h' c (by omega)) with h1 | ⟨h1, k', h2, h3⟩
      · exact .inl h1
      · exact .inr ⟨h1, k', by omega, h3⟩
    · have e5 : ((vs.getD i 0 == ((j + 1 : Nat) : Int)) != (vs.getD (n + j) 0 == ((i + 1 : Nat) : Int))) = true := by
        by_cases g1 : vs.getD i 0 = (j : Int) + 1
        · have g2 : ¬ vs.getD (n + j) 0 = (i : Int) + 1 := fun g => c5 ⟨fun _ => g, fun _ => g1⟩
          have f1 : (vs.getD i 0 == ((j + 1 : Nat) : Int)) = true := by rw [beq_iff_eq]; omega
          have f2 : (vs.getD (n + j) 0 == ((i + 1 : Nat) : Int)) = false := by rw [beq_eq_false_iff_ne]; omega
          rw [f1, f2]; rfl
        · have g2 : vs.getD (n + j) 0 = (i : Int) + 1 := Classical.byContradiction fun g => c5 ⟨fun x => absurd x g1, fun x => absurd x g⟩
          have f1 : (vs.getD i 0 == ((j + 1 : Nat) : Int)) = false := by rw [beq_eq_false_iff_ne]; omega
          have f2 : (vs.getD (n + j) 0 == ((i + 1 : Nat) : Int)) = true := by rw [beq_iff_eq]; omega
          rw [f1, f2]; rfl
      rw [if_pos e5]
      exact .inl ⟨rfl, j, hj, fun g => c5 g.2.2⟩
theorem pairs_l1 (vs : List Int) (n : Nat) (hv : vs.length = 2 * n) (hn : n ≤ 4) : ∀ (m j k : Nat), n = j + m → 8 * m < k →
    (∀ a, a < j → ∀ c, c < n → (1 ≤ vs.getD a 0 ∧ vs.getD a 0 ≤ (n : Int)) ∧ (1 ≤ vs.getD (n + c) 0 ∧ vs.getD (n + c) 0 ≤ (n : Int)) ∧ (vs.getD a 0 = (c : Int) + 1 ↔ vs.getD (n + c) 0 = (a : Int) + 1)) →
    ∃ b : Bool, (b = true ↔ ∀ a, a < n → ∀ c, c < n → (1 ≤ vs.getD a 0 ∧ vs.getD a 0 ≤ (n : Int)) ∧ (1 ≤ vs.getD (n + c) 0 ∧ vs.getD (n + c) 0 ≤ (n : Int)) ∧ (vs.getD a 0 = (c : Int) + 1 ↔ vs.getD (n + c) 0 = (a : Int) + 1)) ∧ jigsawref09_pairs.l1 k vs (n : Int) (j : Int) 23 (iota 0 n) (iota n n) [] [] [] 0 [] = some b
  | 0, j, k + 1, e, hk, h => by
    obtain rfl : n = j := by omega
    exact ⟨true, ⟨fun _ => h, fun _ => rfl⟩, by rw [jigsawref09_pairs.l1, if_neg (nge (by omega))]⟩
  | m + 1, j, k + 1, e, hk, h => by
    have hj : j < n := by omega
    rw [jigsawref09_pairs.l1, if_pos (nlt hj)]
    rcases pairs_l2 vs n hv hn j hj n 0 k (by omega) (by omega) h (fun c hc => by omega) with ⟨h1, c, hc, h2⟩ | ⟨h1, k', h2, h3⟩
    · exact ⟨false, ⟨fun g => (by cases g), fun g => absurd (g j hj c hc) h2⟩, h1⟩
    · have h3' : jigsawref09_pairs.l2 k vs (n : Int) (j : Int) 0 23 (iota 0 n) (iota n n) [] [] [] 0 [] = _ := h3
      rw [h3']
      refine pairs_l1 vs n hv hn m (j + 1) k' (by omega) (by omega) (fun a ha => ?_)
      by_cases ea : a = j
      · rw [ea]; exact h1
      · exact h a (by omega)
theorem holds_f (vs : List Int) (n : Nat) (hv : vs.length = 2 * n) (hn : n ≤ 4) {k : Nat} (hk : 60 ≤ k) :
    ∃ b : Bool, (b = true ↔ ∀ a, a < n → ∀ c, c < n → (1 ≤ vs.getD a 0 ∧ vs.getD a 0 ≤ (n : Int)) ∧ (1 ≤ vs.getD (n + c) 0 ∧ vs.getD (n + c) 0 ≤ (n : Int)) ∧ (vs.getD a 0 = (c : Int) + 1 ↔ vs.getD (n + c) 0 = (a : Int) + 1)) ∧ jigsawref09_Holds.f k 23 (iota 0 n) (iota n n) [] [] [] 0 [] vs = some b := by
  obtain ⟨b, hb, e⟩ := pairs_l1 vs n hv hn n 0 k (by omega) (by omega) (fun a ha => by omega)
  refine ⟨b, hb, ?_⟩
  have e' : jigsawref09_pairs.l1 k vs (n : Int) 0 23 (iota 0 n) (iota n n) [] [] [] 0 [] = some b := e
  unfold jigsawref09_Holds.f jigsawref09_pairs.f
  rw [if_neg (by decide), if_neg (by decide), if_neg (by decide), if_neg (by decide), if_neg (by decide), if_neg (by decide), if_neg (by decide), if_neg (by decide), if_neg (by decide), iota_len, e', Option.bind_some]
/-- The parts of what may be. -/
theorem idx_fits (vs : List Int) (hl : vs.length ≤ 100) : ∀ (m j k : Nat), vs.length = j + m → m < k → dom_Dom_75_at_prop_Fits_1.l0 k (vs.map D) (vs.length : Int) (j : Int) = some (-1)
  | 0, j, k + 1, e, _ => by rw [dom_Dom_75_at_prop_Fits_1.l0, if_neg (nge (by omega))]
  | m + 1, j, k + 1, e, hk => by
    have hj : j < vs.length := by omega
    rw [dom_Dom_75_at_prop_Fits_1.l0, if_pos (nlt hj), if_pos (by omega), List.length_map, if_pos (nlt hj), rdD_at, getD_map D vs 0 z58 hj]
    show (prop_Fits_1.f (offv (vs.getD j 0)) [bitv (vs.getD j 0)] (vs.getD j 0) (vs.getD j 0) 1).bind _ = _
    rw [show prop_Fits_1.f (offv (vs.getD j 0)) [bitv (vs.getD j 0)] (vs.getD j 0) (vs.getD j 0) 1 = some false from rfl, Option.bind_some, if_neg (by decide), wrap_succ (by omega)]
    exact idx_fits vs hl m (j + 1) k (by omega) (by omega)
theorem idx_right (l : List Int) (hp : ∀ x ∈ l, 0 ≤ x ∧ x ≤ 3) (hl : l.length ≤ 100) : ∀ (m j k : Nat), l.length = j + m → m < k → slices_IndexFunc_int_int_84_at_model_Right_1.l0 k l (l.length : Int) (j : Int) 256 = some (-1)
  | 0, j, k + 1, e, _ => by rw [slices_IndexFunc_int_int_84_at_model_Right_1.l0, if_neg (nge (by omega))]
  | m + 1, j, k + 1, e, hk => by
    have hj : j < l.length := by omega
    have hv := hp (l.getD j 0) (by rw [getD_lt _ _ hj]; exact List.getElem_mem _)
    rw [slices_IndexFunc_int_int_84_at_model_Right_1.l0, if_pos (nlt hj), if_pos (by omega), if_pos (nlt hj), rd_at]
    have hf : model_Right_1.f (l.getD j 0) 256 = some false := by
      unfold model_Right_1.f
      rw [if_neg (by omega), decide_eq_false (by omega)]
    rw [hf, Option.bind_some, if_neg (by decide), wrap_succ (by omega)]
    exact idx_right l hp hl m (j + 1) k (by omega) (by omega)
theorem vars_f (p q : List Int) (n : Nat) (hp : p.length = n) (hq : q.length = n) (hn : n ≤ 4) {k : Nat} (hk : 20 ≤ k) : model_Vars.f k 23 p q [] [] [] 0 [] = some (p ++ q) := by
  obtain ⟨k, rfl⟩ : ∃ k', k = k' + 6 := ⟨k - 6, by omega⟩
  have r0 : rd_L7 [p, q] 0 = p := rfl
  have r1 : rd_L7 [p, q] 1 = q := rfl
  have e1 : wrap64 (0 + (n : Int)) = (n : Int) := by rw [wrap_id (by omega) (by omega)]; omega
  have e2 : wrap64 ((n : Int) + (n : Int)) = (n : Int) + n := wrap_id (by omega) (by omega)
  have w1 : wrap64 (0 + 1) = 1 := by decide +kernel
  have w2 : wrap64 (1 + 1) = 2 := by decide +kernel
  have hlen : (([p, q] : List (List Int)).length : Int) = 2 := rfl
  unfold model_Vars.f slices_Concat_int_int.f
  rw [hlen, slices_Concat_int_int.l0, if_pos (by decide), if_pos (by decide), hlen, if_pos (by decide), r0, hp, e1, if_neg (by omega), w1, slices_Concat_int_int.l0, if_pos (by decide), if_pos (by decide), hlen, if_pos (by decide), r1, hq, e2, if_neg (by omega), w2, slices_Concat_int_int.l0, if_neg (by decide)]
  have hg : slices_GrowNil.f ((n : Int) + n) = some [] := by unfold slices_GrowNil.f; rw [if_pos ⟨by omega, by omega⟩]
  rw [hg, Option.bind_some, hlen, slices_Concat_int_int.l1, if_pos (by decide), if_pos (by decide), hlen, if_pos (by decide), r0, if_pos (by simp [hp]; omega), w1, slices_Concat_int_int.l1, if_pos (by decide), if_pos (by decide), hlen, if_pos (by decide), r1, if_pos (by simp [hp, hq]; omega), w2, slices_Concat_int_int.l1, if_neg (by decide), Option.bind_some]
  simp
theorem bounded_f {a : Int} {k : Nat} (hk : 5 ≤ k) : model_bounded.f k [] a = some true := by
  obtain ⟨k, rfl⟩ : ∃ k', k = k' + 1 := ⟨k - 1, by omega⟩
  unfold model_bounded.f slices_ContainsFunc_int_int_60_at_model_bounded_1.f slices_IndexFunc_int_int_84_at_model_bounded_1.f
  rw [slices_IndexFunc_int_int_84_at_model_bounded_1.l0, if_neg (by decide), Option.bind_some, Option.bind_some]
  rfl
theorem right_f (p q : List Int) (n : Nat) (h1 : 1 ≤ n) (hn : n ≤ 4) (hp : Places n p) (hq : Places n q) {k : Nat} (hk : 30 ≤ k) : model_Right.f k 23 p q [] [] [] 0 [] 256 = some 0 := by
  have hs : model_Shape.f 23 = some (⟨#[86, 87]⟩ : ByteArray) := by decide +kernel
  have hw : wrap64 ((n : Int) + (n : Int)) = (n : Int) + n := wrap_id (by omega) (by omega)
  have nm : ∀ (m : Nat) (c d : UInt8), 1 ≤ m → m ≤ 64 → 0 ≤ Lib.indexByte (⟨#[86, 87]⟩ : ByteArray).data.toList d → model_named.f (m : Int) (⟨#[86, 87]⟩ : ByteArray) ⟨#[c]⟩ ⟨#[d]⟩ = some true := by
    intro m c d g1 g2 g3
    unfold model_named.f model_within.f
    rw [show strings_Contains.f (⟨#[86, 87]⟩ : ByteArray) ⟨#[d]⟩ = some (decide (0 ≤ Lib.indexByte (⟨#[86, 87]⟩ : ByteArray).data.toList d)) from rfl, Option.bind_some, if_pos (by simpa using g3), if_pos (by omega), Option.bind_some, decide_eq_true (by omega)]
  have nz : ∀ d : UInt8, Lib.indexByte (⟨#[86, 87]⟩ : ByteArray).data.toList d < 0 → model_named.f 0 (⟨#[86, 87]⟩ : ByteArray) ⟨#[45]⟩ ⟨#[d]⟩ = some true := by
    intro d g
    unfold model_named.f
    rw [show strings_Contains.f (⟨#[86, 87]⟩ : ByteArray) ⟨#[d]⟩ = some (decide (0 ≤ Lib.indexByte (⟨#[86, 87]⟩ : ByteArray).data.toList d)) from rfl, Option.bind_some, if_neg (by simp; omega)]
    rfl
  have hc : model_counted.f 23 p q [] [] [] 0 [] (⟨#[86, 87]⟩ : ByteArray) = some true := by
    unfold model_counted.f
    rw [if_neg (by decide), show strings_Contains.f (⟨#[86, 87]⟩ : ByteArray) ⟨#[114]⟩ = some false from by decide +kernel, Option.bind_some, if_neg (by decide), if_pos (by decide), hp.1, hq.1, nm n 118 86 h1 (by omega) (by decide +kernel), Option.bind_some, if_pos rfl, nm n 119 87 h1 (by omega) (by decide +kernel), Option.bind_some, if_pos rfl, show (([] : List Int).length : Int) = 0 from rfl, nz 99 (by decide +kernel), Option.bind_some, if_pos rfl, nz 100 (by decide +kernel), Option.bind_some, if_pos rfl, nz 101 (by decide +kernel), Option.bind_some]
  have ha : model_alike.f 23 p q [] [] [] 0 [] = some true := by
    unfold model_alike.f
    rw [if_neg (by decide), if_neg (by decide), if_neg (by decide), if_neg (by decide), if_neg (by decide), if_neg (by decide), if_neg (by decide), if_pos rfl, hp.1, hq.1, beq_self_eq_true]
  have hi : slices_ContainsFunc_int_int_60_at_model_Right_1.f k (p ++ q) 256 = some false := by
    unfold slices_ContainsFunc_int_int_60_at_model_Right_1.f slices_IndexFunc_int_int_84_at_model_Right_1.f
    have h := idx_right (p ++ q) (fun x hx => by rcases List.mem_append.1 hx with h | h; exact hp.2 x h; exact hq.2 x h) (by simp [hp.1, hq.1]; omega) (p ++ q).length 0 k (by omega) (by simp [hp.1, hq.1]; omega)
    have h' : slices_IndexFunc_int_int_84_at_model_Right_1.l0 k (p ++ q) ((p ++ q).length : Int) 0 256 = some (-1) := h
    rw [h', Option.bind_some]
    rfl
  have hb : model_numbers.f k 23 p q [] [] [] 0 [] = some true := by
    obtain ⟨k, rfl⟩ : ∃ k', k = k' + 1 := ⟨k - 1, by omega⟩
    unfold model_numbers.f
    rw [if_neg (by decide), if_neg (by decide), model_numbers.l0, if_neg (by decide), bounded_f (by omega), Option.bind_some, if_pos rfl, Option.bind_some, if_pos rfl, Option.bind_some, if_pos rfl, if_pos (by decide)]
    rfl
  have hn' : model_counts.f 23 p q [] [] [] 0 [] = some true := by unfold model_counts.f; rw [if_neg (by decide)]
  unfold model_Right.f
  rw [hs, Option.bind_some, if_neg (by decide +kernel), hc, Option.bind_some, if_pos rfl, ha, Option.bind_some, if_pos rfl, if_pos rfl, vars_f p q n hp.1 hq.1 hn (by omega), Option.bind_some, hi, Option.bind_some, if_neg (by decide), hb, Option.bind_some, if_pos rfl, hn', Option.bind_some, if_pos rfl]
theorem fits_f (p q vs : List Int) (n : Nat) (h1 : 1 ≤ n) (hn : n ≤ 4) (hp : Places n p) (hq : Places n q) (hv : vs.length = 2 * n) {k : Nat} (hk : 30 ≤ k) : prop_Fits.f k 23 p q [] [] [] 0 [] (vs.map D) 23 23 = some true := by
  have hi : dom_Dom_56_at_prop_Fits_1.f k (vs.map D) = some false := by
    unfold dom_Dom_56_at_prop_Fits_1.f dom_Dom_75_at_prop_Fits_1.f
    have h' : dom_Dom_75_at_prop_Fits_1.l0 k (vs.map D) (((vs.map D).length : Nat) : Int) 0 = some (-1) := by
      rw [List.length_map]
      exact idx_fits vs (by omega) vs.length 0 k (by omega) (by omega)
    rw [h', Option.bind_some]
    rfl
  have hw : wrap64 ((n : Int) + (n : Int)) = (n : Int) + n := wrap_id (by omega) (by omega)
  unfold prop_Fits.f
  rw [hi, Option.bind_some, if_pos (by decide), if_pos (by decide), right_f p q n h1 hn hp hq hk, Option.bind_some, if_pos rfl, hp.1, hq.1, hw, List.length_map, if_pos (by omega)]
  rfl
theorem take_getD (vs : List Int) (n i : Nat) (hi : i < n) : (vs.take n).getD i 0 = vs.getD i 0 := by
  rw [List.getD_eq_getElem?_getD, List.getD_eq_getElem?_getD, List.getElem?_take, if_pos hi]
theorem drop_getD (vs : List Int) (n i : Nat) : (vs.drop n).getD i 0 = vs.getD (n + i) 0 := by
  rw [List.getD_eq_getElem?_getD, List.getD_eq_getElem?_getD, List.getElem?_drop]
/-- The filter, of fixed values: all are left, if the constraint holds of them; else nothing is. -/
theorem filter_f (p q vs : List Int) (n : Nat) (h1 : 1 ≤ n) (hn : n ≤ 4) (hp : Places n p) (hq : Places n q) (hv : vs.length = 2 * n) (hs : ∀ v ∈ vs, Small v) {k : Nat} (hk : 60 ≤ k) :
    ∃ b : Bool, (b = true ↔ ∀ a, a < n → ∀ c, c < n → (1 ≤ vs.getD a 0 ∧ vs.getD a 0 ≤ (n : Int)) ∧ (1 ≤ vs.getD (n + c) 0 ∧ vs.getD (n + c) 0 ≤ (n : Int)) ∧ (vs.getD a 0 = (c : Int) + 1 ↔ vs.getD (n + c) 0 = (a : Int) + 1)) ∧ inverse_Filter.f k 23 p q [] [] [] 0 [] (vs.map D) = some (if b then (vs.map D, true) else ([], false)) := by
  have hx : (vs.take n).length = n := by rw [List.length_take]; omega
  have hy : (vs.drop n).length = n := by rw [List.length_drop]; omega
  have sx : ∀ v ∈ vs.take n, Small v := fun v h => hs v (List.mem_of_mem_take h)
  have sy : ∀ v ∈ vs.drop n, Small v := fun v h => hs v (List.mem_of_mem_drop h)
  obtain ⟨k, rfl⟩ : ∃ k', k = k' + 1 := ⟨k - 1, by omega⟩
  obtain ⟨b1, hb1, e1⟩ := side_f (vs.take n) (vs.drop n) n hx hy hn sx sy (k := k) (by omega)
  obtain ⟨b2, hb2, e2⟩ := side_f (vs.drop n) (vs.take n) n hy hx hn sy sx (k := k) (by omega)
  have hX : ∀ i, i < n → (vs.take n).getD i 0 = vs.getD i 0 := fun i hi => take_getD vs n i hi
  have hY : ∀ i, (vs.drop n).getD i 0 = vs.getD (n + i) 0 := fun i => drop_getD vs n i
  refine ⟨b1 && b2, ?_, ?_⟩
  · rw [Bool.and_eq_true, hb1, hb2, both_good]
    constructor
    · intro h a ha c hc
      have := h a ha c hc
      simp only [hX a ha, hY] at this
      exact this
    · intro h a ha c hc
      simp only [hX a ha, hY]
      exact h a ha c hc
  · unfold inverse_Filter.f slices_CloneDom.f
    have hnn : (((p.length : Nat) : Int) : Int).toNat = n := by rw [hp.1]; omega
    rw [fits_f p q vs n h1 hn hp hq hv (by omega), Option.bind_some, if_pos rfl, if_pos (by simp; omega), Option.bind_some, if_pos (by omega), if_pos (by rw [hp.1, List.length_map]; omega), if_pos (by rw [hp.1, List.length_map]; omega), hnn, ← List.map_take, ← List.map_drop, inverse_Filter.l0, e1, Option.bind_some]
    cases b1 with
    | false => rfl
    | true =>
      rw [if_pos rfl, e2, Option.bind_some]
      cases b2 with
      | false => rfl
      | true =>
        rw [if_pos rfl, if_neg (by simp), if_neg (by simp), ← List.map_append, List.take_append_drop]
        rfl
/-- The law's own loop: the values, and then the end. -/
theorem law_l0 (p q l2 : List Int) (h2 : ∀ x ∈ l2, Small x) (n : Nat) (h1 : 1 ≤ n) (hn : n ≤ 4) (hp : Places n p) (hq : Places n q) : ∀ (m j k : Nat) (vs : List Int), 2 * n = j + m → m + 500 < k → vs.length = j → (∀ v ∈ vs, Small v) →
    jigsawlaw22_InverseFixed.l0 k l2 (vs.map fun v => [v]) vs ((2 * n : Nat) : Int) (j : Int) 23 p q [] [] [] 0 [] 23 (iota 0 n) (iota n n) [] [] [] 0 [] = some true
  | 0, j, k + 1, vs, e, hk, hl, hs => by
    obtain ⟨b, hb, hf⟩ := filter_f p q vs n h1 hn hp hq (by omega) hs (k := k) (by omega)
    obtain ⟨b', hb', hh⟩ := holds_f vs n (by omega) hn (k := k) (by omega)
    have hbb : b' = b := by
      have h := hb'.trans hb.symm
      cases b <;> cases b' <;> simp at h ⊢
    rw [jigsawlaw22_InverseFixed.l0, if_neg (nge (by omega)), doms_f vs hs (by omega) (by omega), Option.bind_some, hf, Option.bind_some, wakes_true (by omega), Option.bind_some, if_pos rfl, hh, Option.bind_some, hbb]
    cases b with
    | false => rfl
    | true =>
      show (if ((true : Bool) == true) = true then (if (true : Bool) = true then (jigsawlaw22_lists.f k (vs.map D)).bind _ else some true) else none) = some true
      rw [if_pos (show ((true : Bool) == true) = true from rfl), if_pos rfl, lists_f vs hs (by omega) (by omega), Option.bind_some, same_f vs (by omega) (by omega), Option.bind_some]
  | m + 1, j, k + 1, vs, e, hk, hl, hs => by
    have hj : j < 2 * n := by omega
    have step : ∀ v, Small v → jigsawlaw22_InverseFixed.l0 k l2 ((vs.map fun v => [v]) ++ [[v]]) (vs ++ [v]) ((2 * n : Nat) : Int) (wrap64 ((j : Int) + 1)) 23 p q [] [] [] 0 [] 23 (iota 0 n) (iota n n) [] [] [] 0 [] = some true := by
      intro v hv
      have h := law_l0 p q l2 h2 n h1 hn hp hq m (j + 1) k (vs ++ [v]) (by omega) (by omega) (by simp [hl]) (fun x hx => by
        rcases List.mem_append.1 hx with h | h
        · exact hs x h
        · rw [List.mem_singleton] at h; rw [h]; exact hv)
      rw [wrap_succ (by omega)]
      rw [List.map_append] at h
      exact h
    rw [jigsawlaw22_InverseFixed.l0, if_pos (nlt hj)]
    by_cases hx : j < l2.length
    · have hv := h2 (l2.getD j 0) (by rw [getD_lt _ _ hx]; exact List.getElem_mem _)
      have e1 : wrap64 (rd l2 (j : Int)) = l2.getD j 0 := by rw [rd_at]; unfold Small at hv; exact wrap_id (by omega) (by omega)
      rw [if_pos (nlt hx), if_pos (by omega), if_pos (by simp; omega), if_pos (by omega), e1]
      exact step _ hv
    · have e1 : wrap64 (1 + (j : Int)) = 1 + (j : Int) := wrap_id (by omega) (by omega)
      rw [if_neg (nge hx), if_pos (by simp; omega), if_pos (by omega), e1]
      exact step _ ⟨by omega, by omega⟩
theorem wf_u8 {x : Int} (h : (Lit.int .u8 x).wf = true) : 0 ≤ x ∧ x ≤ 255 := by
  simp only [Lit.wf, IntKind.min, IntKind.max, IntKind.signed, IntKind.bits, Bool.and_eq_true] at h
  simp at h
  omega
theorem wf_i8 {x : Int} (h : (Lit.int .i8 x).wf = true) : Small x := by
  simp only [Lit.wf, IntKind.min, IntKind.max, IntKind.signed, IntKind.bits, Bool.and_eq_true] at h
  simp at h
  exact ⟨by omega, by omega⟩
/-- THE PLAIN LAW: whatever the input, the answer is true. -/
theorem inverseFixed (a0 : Int) (l1 l3 l4 : List Int) (a4 a5 a1 : Int) (l2 : List Int) (_ : (Lit.int .u8 a0).wf = true) (hw1 : ∀ x ∈ l1, (Lit.int .u8 x).wf = true) (hw3 : ∀ x ∈ l3, (Lit.int .u8 x).wf = true) (_ : ∀ x ∈ l4, (Lit.int .i8 x).wf = true) (_ : (Lit.int .i16 a4).wf = true) (_ : (Lit.int .u8 a5).wf = true) (_ : (Lit.int .u8 a1).wf = true) (hw2 : ∀ x ∈ l2, (Lit.int .i8 x).wf = true) :
    ∃ k, jigsawlaw22_InverseFixed.f k a0 l1 l3 l4 a4 a5 a1 l2 = some true := by
  refine ⟨1000, ?_⟩
  obtain ⟨n, p, q, h1, hn, hp, hq, hm⟩ := make_f l1 l3 l4 a4 a5 (fun x hx => wf_u8 (hw1 x hx)) (fun x hx => wf_u8 (hw3 x hx)) (k := 1000) (by decide)
  have hw : (wrap64 ((23 : Int) - 1)) % 256 = 22 := by decide +kernel
  have hs : wrap64 ((n : Int) + (n : Int)) = ((2 * n : Nat) : Int) := by rw [wrap_id (by omega) (by omega)]; omega
  unfold jigsawlaw22_InverseFixed.f
  rw [show jigsawlaw22_kind.f a1 = some 23 from by unfold jigsawlaw22_kind.f; rw [Int.zero_mul]; decide +kernel, Option.bind_some, hw, hm, Option.bind_some]
  show (jigsawref10_Local.f 1000 23 p q [] [] [] 0 []).bind _ = _
  rw [local_f p q n hp.1 hq.1 hn (by decide), Option.bind_some]
  show jigsawlaw22_InverseFixed.l0 1000 l2 [] [] (wrap64 ((p.length : Int) + (q.length : Int))) 0 23 p q [] [] [] 0 [] 23 (iota 0 n) (iota n n) [] [] [] 0 [] = some true
  rw [hp.1, hq.1, hs]
  exact law_l0 p q l2 (fun x hx => wf_i8 (hw2 x hx)) n h1 hn hp hq (2 * n) 0 1000 [] (by omega) (by omega) rfl (fun v hv => by simp at hv)
end Go.Proofs.YtfbfalhdgmjdpaaGreatDoor.Pure
