/- The plain law of ExtFixed: what the walk computes answers true, for every input. -/
import Derived.Test.YtiofjnhmogeenaaGreatDoorXEXSx22
namespace Go.Proofs.YtiofjnhmogeenaaGreatDoor.Pure
open Go.RowKit Go.Proofs.YtiofjnhmogeenaaGreatDoor.XExtFixed Go.Proofs.YtiofjnhmogeenaaGreatDoorW.PrintWords Go.Proofs.YtiofjnhmogeenaaGreatDoorW.PrintLast Go.Proofs.YtiofjnhmogeenaaGreatDoorW.PrintMore
set_option linter.unusedVariables false
theorem wrap_id {n : Int} (h : -9223372036854775808 ≤ n) (h2 : n ≤ 9223372036854775807) : wrap64 n = n := by unfold wrap64; omega
theorem wrap_succ {j : Nat} (h : j ≤ 1000) : wrap64 ((j : Int) + 1) = ((j + 1 : Nat) : Int) := by rw [wrap_id (by omega) (by omega)]; omega
theorem up {α : Type} {f : Nat → Option α} (hm : ∀ k, LeO (f k) (f (k + 1))) {k : Nat} {r : α} (h : f k = some r) : ∀ {k'}, k ≤ k' → f k' = some r := by
  intro k' hk
  induction hk with
  | refl => exact h
  | step _ ih => exact hm _ _ ih
/-- A number of 8 bits. -/
def Small (v : Int) : Prop := -128 ≤ v ∧ v ≤ 127
def offv (v : Int) : Int := Go.bits .andNot .i64 v 63
def bitv (v : Int) : Int := shl .u64 1 (v - offv v)
/-- The domain of one number. -/
def D (v : Int) : S61 := ⟨offv v, [bitv v], v, v, 1⟩
theorem by_fin {P : Int → Prop} (h : ∀ i : Fin 256, P ((i.val : Int) - 128)) {v : Int} (hv : Small v) : P v := by
  unfold Small at hv
  have := h ⟨(v + 128).toNat, by omega⟩
  simp only [] at this
  rwa [show (((v + 128).toNat : Nat) : Int) - 128 = v by omega] at this
instance dq3 : DecidableEq (Int × Int × Int) := inferInstance
instance dq4 : DecidableEq (Int × Int × Int × Int) := fun a b => instDecidableEqProd a b
instance dq5 : DecidableEq (List Int × Int × Int × Int × Int) := fun a b => instDecidableEqProd a b
instance dq6 : DecidableEq (Int × List Int × Int × Int × Int × Int) := fun a b => instDecidableEqProd a b
theorem of_all : ∀ i : Fin 256, dom_Of.f 10 [(i.val : Int) - 128] = some (offv ((i.val : Int) - 128), [bitv ((i.val : Int) - 128)], (i.val : Int) - 128, (i.val : Int) - 128, 1, 0) := by decide +kernel
theorem list_all : ∀ i : Fin 256, dom_Dom_List.f 10 (offv ((i.val : Int) - 128)) [bitv ((i.val : Int) - 128)] ((i.val : Int) - 128) ((i.val : Int) - 128) 1 = some [(i.val : Int) - 128] := by decide +kernel
theorem has_all : ∀ i : Fin 256, ∀ j : Fin 257, dom_Dom_Has.f (offv ((i.val : Int) - 128)) [bitv ((i.val : Int) - 128)] ((i.val : Int) - 128) ((i.val : Int) - 128) 1 ((j.val : Int) - 128) = some (decide ((i.val : Int) - 128 = (j.val : Int) - 128)) := by decide +kernel
theorem of_one {v : Int} (hv : Small v) {k : Nat} (hk : 10 ≤ k) : dom_Of.f k [v] = some (offv v, [bitv v], v, v, 1, 0) :=
  up (f := fun k => dom_Of.f k [v]) (dom_Of.mono [v]) (by_fin (P := fun v => dom_Of.f 10 [v] = some (offv v, [bitv v], v, v, 1, 0)) of_all hv) hk
theorem list_one {v : Int} (hv : Small v) {k : Nat} (hk : 10 ≤ k) : dom_Dom_List.f k (offv v) [bitv v] v v 1 = some [v] :=
  up (f := fun k => dom_Dom_List.f k (offv v) [bitv v] v v 1) (dom_Dom_List.mono _ _ _ _ _) (by_fin (P := fun v => dom_Dom_List.f 10 (offv v) [bitv v] v v 1 = some [v]) list_all hv) hk
theorem has_one {v u : Int} (hv : Small v) (hu : -128 ≤ u ∧ u ≤ 128) : dom_Dom_Has.f (offv v) [bitv v] v v 1 u = some (decide (v = u)) := by
  have h := by_fin (P := fun v => ∀ j : Fin 257, dom_Dom_Has.f (offv v) [bitv v] v v 1 ((j.val : Int) - 128) = some (decide (v = (j.val : Int) - 128))) has_all hv ⟨(u + 128).toNat, by omega⟩
  simp only [] at h
  rwa [show (((u + 128).toNat : Nat) : Int) - 128 = u by omega] at h
theorem wakes_true {k : Nat} (hk : 60 ≤ k) : jigsawlaw12_wakes.f k = some true :=
  up (f := fun k => jigsawlaw12_wakes.f k) jigsawlaw12_wakes.mono (by decide +kernel) hk
theorem rd_at (l : List Int) (j : Nat) : rd l (j : Int) = l.getD j 0 := rfl
theorem rdL_at (l : List (List Int)) (j : Nat) : rd_L5 l (j : Int) = l.getD j [] := rfl
theorem rdD_at (l : List S61) (j : Nat) : rd_T61 l (j : Int) = l.getD j z61 := rfl
theorem getD_lt {α : Type} (l : List α) (z : α) {j : Nat} (h : j < l.length) : l.getD j z = l[j] := by
  rw [List.getD_eq_getElem?_getD, List.getElem?_eq_getElem h]; rfl
theorem getD_map {α β : Type} (f : α → β) (l : List α) (z : α) (y : β) {j : Nat} (h : j < l.length) : (l.map f).getD j y = f (l.getD j z) := by
  rw [getD_lt _ _ (by simpa using h), getD_lt _ _ h]; simp
theorem take_step {α : Type} (l : List α) (z : α) {j : Nat} (h : j < l.length) : l.take j ++ [l.getD j z] = l.take (j + 1) := by
  rw [getD_lt _ _ h]; simp
theorem nlt {a b : Nat} (h : a < b) : (a : Int) < (b : Int) := by omega
theorem nge {a b : Nat} (h : ¬ a < b) : ¬ (a : Int) < (b : Int) := by omega
/-- The places: so many, each below 4, none below 0. -/
def Places (n : Nat) (r : List Int) : Prop := r.length = n ∧ ∀ x ∈ r, 0 ≤ x ∧ x ≤ 3
theorem places_l0 (l : List Int) (hl : ∀ x ∈ l, 0 ≤ x ∧ x ≤ 255) (n : Nat) (hn : n ≤ 4) : ∀ (m j k : Nat) (acc : List Int), n = j + m → m < k → Places j acc → ∃ r, jigsawref06_places.l0 k l (n : Int) 4 acc (j : Int) = some r ∧ Places n r
  | 0, j, k + 1, acc, e, _, ha => by
    obtain rfl : n = j := by omega
    refine ⟨acc, ?_, ha⟩
    rw [jigsawref06_places.l0, if_neg (nge (by omega))]
  | m + 1, j, k + 1, acc, e, hk, ha => by
    have hj : j < n := by omega
    obtain ⟨h1, h2⟩ := ha
    have hlen : acc.length < 17592186044416 := by omega
    by_cases hx : j < l.length
    · have hm := hl (l.getD j 0) (by rw [getD_lt _ _ hx]; exact List.getElem_mem _)
      obtain ⟨r, hr, hp⟩ := places_l0 l hl n hn m (j + 1) k (acc ++ [Int.tmod (wrap64 (rd l (j : Int))) 4]) (by omega) (by omega) ⟨by simp [h1], fun x hx => by
        rcases List.mem_append.1 hx with h | h
        · exact h2 x h
        · rw [List.mem_singleton] at h
          rw [h, rd_at, wrap_id (by omega) (by omega), Int.tmod_eq_emod_of_nonneg (by omega)]
          omega⟩
      refine ⟨r, ?_, hp⟩
      rw [jigsawref06_places.l0, if_pos (nlt hj), if_pos (nlt hx), if_pos (by omega), if_neg (by decide), if_pos hlen, wrap_succ (by omega)]
      exact hr
    · obtain ⟨r, hr, hp⟩ := places_l0 l hl n hn m (j + 1) k (acc ++ [Int.tmod (j : Int) 4]) (by omega) (by omega) ⟨by simp [h1], fun x hx => by
        rcases List.mem_append.1 hx with h | h
        · exact h2 x h
        · rw [List.mem_singleton] at h
          rw [h, Int.tmod_eq_emod_of_nonneg (by omega)]
          omega⟩
      refine ⟨r, ?_, hp⟩
      rw [jigsawref06_places.l0, if_pos (nlt hj), if_neg (nge hx), if_neg (by decide), if_pos hlen, wrap_succ (by omega)]
      exact hr
theorem places_f (l : List Int) (hl : ∀ x ∈ l, 0 ≤ x ∧ x ≤ 255) (n : Nat) (hn : n ≤ 4) {k : Nat} (hk : 5 ≤ k) : ∃ r, jigsawref06_places.f k l (n : Int) 4 = some r ∧ Places n r :=
  places_l0 l hl n hn n 0 k [] (by omega) (by omega) ⟨rfl, fun x hx => by simp at hx⟩
theorem has_f {s : ByteArray} {c r : Int} (h : jigsawref06_has.f 6 s c = some r) {k : Nat} (hk : 6 ≤ k) : jigsawref06_has.f k s c = some r :=
  up (f := fun k => jigsawref06_has.f k s c) (jigsawref06_has.mono _ _) h hk
/-- A constraint that is made: of so many places. -/
theorem make_key (kd : Int) (n : Nat) (s : ByteArray) (l1 l2 l3 : List Int) (a0 a4 a5 : Int) (h1 : ∀ x ∈ l1, 0 ≤ x ∧ x ≤ 255) (hn : 1 ≤ n ∧ n ≤ 4) (e1 : jigsawref06_has.f 6 s 118 = some (n : Int)) (e2 : jigsawref06_has.f 6 s 119 = some 0) (e3 : jigsawref06_has.f 6 s 87 = some 0) (e4 : jigsawref06_has.f 6 s 99 = some 0) (e5 : jigsawref06_has.f 6 s 107 = some 0)
    (k1 : kd ≠ 11) (k2 : kd ≠ 19) (k3 : kd ≠ 21) (k4 : kd ≠ 18) {k : Nat} (hk : 10 ≤ k) : ∃ p, Places n p ∧ jigsawref06_Make.j1 k 4 s a0 l1 l2 l3 a4 a5 kd 0 = some (kd, p, [], [], [], [], 0, []) := by
  obtain ⟨k, rfl⟩ : ∃ k', k = k' + 1 := ⟨k - 1, by omega⟩
  obtain ⟨p, hp, hpp⟩ := places_f l1 h1 n hn.2 (k := k) (by omega)
  refine ⟨p, hpp, ?_⟩
  rw [jigsawref06_Make.j1, has_f e1 (by omega), Option.bind_some, if_pos (by omega), Option.bind_some, hp, Option.bind_some, has_f e2 (by omega), Option.bind_some, if_neg (by decide), has_f e3 (by omega), Option.bind_some, if_neg (by decide), has_f e4 (by omega), Option.bind_some, if_neg (by decide), if_neg k1, has_f e5 (by omega), Option.bind_some, if_neg (by decide), if_neg k2, if_neg k3, if_neg k4]
/-- Which kind, of how many variables. -/
def Kind (kd : Int) (n : Nat) : Prop := (kd = 8 ∧ n = 2) ∨ (kd = 9 ∧ n = 3) ∨ (kd = 10 ∧ n = 3)
def shape (n : Nat) : ByteArray := if n = 2 then ⟨#[118, 118]⟩ else ⟨#[118, 118, 118]⟩
theorem make_f (kd : Int) (n : Nat) (hd : Kind kd n) (l1 l2 l3 : List Int) (a4 a5 : Int) (h1 : ∀ x ∈ l1, 0 ≤ x ∧ x ≤ 255) {k : Nat} (hk : 20 ≤ k) :
    ∃ p, Places n p ∧ jigsawref06_Make.f k ((wrap64 (kd - 1)) % 256) l1 l2 l3 a4 a5 4 = some (kd, p, [], [], [], [], 0, []) := by
  have hs : jigsawref06_Shapes.f = some ((jigsawref06_Shapes.f).getD []) := by rfl
  have hlen : ((jigsawref06_Shapes.f).getD []).length = 24 := by decide +kernel
  have hw : wrap64 (1 + Int.tmod (wrap64 ((wrap64 (kd - 1)) % 256)) 23) = kd := by rcases hd with ⟨rfl, _⟩ | ⟨rfl, _⟩ | ⟨rfl, _⟩ <;> decide +kernel
  have hv : rdOf ByteArray.empty ((jigsawref06_Shapes.f).getD []) kd = shape n := by rcases hd with ⟨rfl, rfl⟩ | ⟨rfl, rfl⟩ | ⟨rfl, rfl⟩ <;> rfl
  have hr : 0 ≤ kd ∧ kd < 24 := by unfold Kind at hd; omega
  have key : ∃ p, Places n p ∧ jigsawref06_Make.j1 (k - 1) 4 (shape n) ((wrap64 (kd - 1)) % 256) l1 l2 l3 a4 a5 kd 0 = some (kd, p, [], [], [], [], 0, []) := by
    rcases hd with ⟨rfl, rfl⟩ | ⟨rfl, rfl⟩ | ⟨rfl, rfl⟩ <;>
    exact make_key _ _ _ l1 l2 l3 _ a4 a5 h1 (by decide) (by decide +kernel) (by decide +kernel) (by decide +kernel) (by decide +kernel) (by decide +kernel) (by decide) (by decide) (by decide) (by decide) (by omega)
  have key0 : ∀ m : Int, ∃ p, Places n p ∧ jigsawref06_Make.j0 k 4 (shape n) m ((wrap64 (kd - 1)) % 256) l1 l2 l3 a4 a5 kd 0 = some (kd, p, [], [], [], [], 0, []) := by
    intro m
    obtain ⟨p, hp, e⟩ := key
    obtain ⟨k, rfl⟩ : ∃ k', k = k' + 1 := ⟨k - 1, by omega⟩
    refine ⟨p, hp, ?_⟩
    rw [jigsawref06_Make.j0]
    split <;> exact e
  unfold jigsawref06_Make.f
  rw [hs, Option.bind_some, hw, hlen, if_pos (by omega), if_pos (by omega), hv]
  split
  · exact key0 1
  · exact key0 _
/-- So many numbers from a first one on. -/
def iota (a n : Nat) : List Int := (List.range n).map fun i => ((a + i : Nat) : Int)
theorem iota_len (a n : Nat) : (iota a n).length = n := by simp [iota]
theorem iota_at (a n j : Nat) (h : j < n) : (iota a n).getD j 0 = ((a + j : Nat) : Int) := by
  rw [getD_lt _ _ (by rw [iota_len]; exact h)]; simp [iota]
theorem iota_succ (a n : Nat) : iota a n ++ [((a + n : Nat) : Int)] = iota a (n + 1) := by simp [iota, List.range_succ]
theorem local_l0 (kd : Int) (p : List Int) (n : Nat) (hp : p.length = n) (hn : n ≤ 4) : ∀ (m j k : Nat), n = j + m → m + 2 < k →
    jigsawref10_Local.l0 k (j : Int) kd p [] [] [] [] 0 [] kd (iota 0 j) [] [] [] 0 [] = some (kd, iota 0 n, [], [], [], [], 0, [])
  | 0, j, k + 1, e, hk => by
    obtain rfl : n = j := by omega
    obtain ⟨k, rfl⟩ : ∃ k', k = k' + 1 := ⟨k - 1, by omega⟩
    rw [jigsawref10_Local.l0, hp, if_neg (nge (by omega)), jigsawref10_Local.l1, if_neg (by decide)]
  | m + 1, j, k + 1, e, hk => by
    have h := iota_succ 0 j
    rw [Nat.zero_add] at h
    rw [jigsawref10_Local.l0, hp, if_pos (nlt (by omega)), if_pos (by rw [iota_len]; omega), wrap_succ (by omega), h]
    exact local_l0 kd p n hp hn m (j + 1) k (by omega) (by omega)
theorem local_f (kd : Int) (p : List Int) (n : Nat) (hp : p.length = n) (hn : n ≤ 4) {k : Nat} (hk : 11 ≤ k) :
    jigsawref10_Local.f k kd p [] [] [] [] 0 [] = some (kd, iota 0 n, [], [], [], [], 0, []) :=
  local_l0 kd p n hp hn n 0 k (by omega) (by omega)
theorem doms_l0 (vs : List Int) (hs : ∀ v ∈ vs, Small v) (hl : vs.length ≤ 100) : ∀ (m j k : Nat), vs.length = j + m → m + 11 < k →
    jigsawlaw12_doms.l0 k ((vs.take j).map D) (vs.map fun v => [v]) (vs.length : Int) (j : Int) = some (vs.map D)
  | 0, j, k + 1, e, _ => by
    rw [jigsawlaw12_doms.l0, if_neg (nge (by omega)), List.take_of_length_le (by omega)]
  | m + 1, j, k + 1, e, hk => by
    have hj : j < vs.length := by omega
    have hv := hs (vs.getD j 0) (by rw [getD_lt _ _ hj]; exact List.getElem_mem _)
    rw [jigsawlaw12_doms.l0, if_pos (nlt hj), if_pos (by omega), if_pos (by rw [List.length_map]; exact nlt hj), rdL_at, getD_map (fun v => [v]) vs 0 [] hj, of_one hv (by omega), Option.bind_some, if_pos (by simp; omega), wrap_succ (by omega)]
    have h := doms_l0 vs hs hl m (j + 1) k (by omega) (by omega)
    rw [← take_step vs 0 hj, List.map_append] at h
    exact h
theorem doms_f (vs : List Int) (hs : ∀ v ∈ vs, Small v) (hl : vs.length ≤ 100) {k : Nat} (hk : 200 ≤ k) : jigsawlaw12_doms.f k (vs.map fun v => [v]) = some (vs.map D) := by
  have h := doms_l0 vs hs hl vs.length 0 k (by omega) (by omega)
  unfold jigsawlaw12_doms.f
  rw [List.length_map]
  exact h
theorem lists_l0 (vs : List Int) (hs : ∀ v ∈ vs, Small v) (hl : vs.length ≤ 100) : ∀ (m j k : Nat), vs.length = j + m → m + 11 < k →
    jigsawlaw12_lists.l0 k ((vs.take j).map fun v => [v]) (vs.map D) (vs.length : Int) (j : Int) = some (vs.map fun v => [v])
  | 0, j, k + 1, e, _ => by
    rw [jigsawlaw12_lists.l0, if_neg (nge (by omega)), List.take_of_length_le (by omega)]
  | m + 1, j, k + 1, e, hk => by
    have hj : j < vs.length := by omega
    have hv := hs (vs.getD j 0) (by rw [getD_lt _ _ hj]; exact List.getElem_mem _)
    rw [jigsawlaw12_lists.l0, if_pos (nlt hj), if_pos (by omega), if_pos (by rw [List.length_map]; exact nlt hj), rdD_at, getD_map D vs 0 z61 hj]
    show (dom_Dom_List.f k (offv (vs.getD j 0)) [bitv (vs.getD j 0)] (vs.getD j 0) (vs.getD j 0) 1).bind _ = _
    rw [list_one hv (by omega), Option.bind_some, if_pos (by simp; omega), wrap_succ (by omega)]
    have h := lists_l0 vs hs hl m (j + 1) k (by omega) (by omega)
    rw [← take_step vs 0 hj, List.map_append] at h
    exact h
theorem lists_f (vs : List Int) (hs : ∀ v ∈ vs, Small v) (hl : vs.length ≤ 100) {k : Nat} (hk : 200 ≤ k) : jigsawlaw12_lists.f k (vs.map D) = some (vs.map fun v => [v]) := by
  have h := lists_l0 vs hs hl vs.length 0 k (by omega) (by omega)
  unfold jigsawlaw12_lists.f
  rw [List.length_map]
  exact h
theorem same_l0 (vs : List Int) (hl : vs.length ≤ 100) : ∀ (m j k : Nat), vs.length = j + m → 3 * m < k →
    jigsawref10_Same.l0 k (vs.map fun v => [v]) (vs.map fun v => [v]) (j : Int) = some true
  | 0, j, k + 1, e, _ => by
    rw [jigsawref10_Same.l0, List.length_map, if_neg (nge (by omega))]
  | m + 1, j, k + 1, e, hk => by
    have hj : j < vs.length := by omega
    obtain ⟨k, rfl⟩ : ∃ k', k = k' + 2 := ⟨k - 2, by omega⟩
    have hr : rd_L5 (vs.map fun v => [v]) (j : Int) = [vs.getD j 0] := by rw [rdL_at, getD_map (fun v => [v]) vs 0 [] hj]
    rw [jigsawref10_Same.l0, List.length_map, if_pos (nlt hj), if_pos (by omega), if_pos rfl]
    rw [jigsawref10_Same.l1, if_pos (by omega), List.length_map, if_pos (nlt hj), hr, if_pos (show (0 : Int) < (([vs.getD j 0] : List Int).length : Int) by simp), if_pos (show (0 : Int) ≤ 0 by decide), if_pos (nlt hj), if_pos (show (0 : Int) < (([vs.getD j 0] : List Int).length : Int) by simp), if_pos rfl]
    rw [jigsawref10_Same.l1, if_pos (by omega), List.length_map, if_pos (nlt hj), hr, if_neg (show ¬ wrap64 (0 + 1) < (([vs.getD j 0] : List Int).length : Int) by simp [wrap64]), wrap_succ (by omega)]
    exact same_l0 vs hl m (j + 1) k (by omega) (by omega)
theorem same_f (vs : List Int) (hl : vs.length ≤ 100) {k : Nat} (hk : 400 ≤ k) : jigsawref10_Same.f k (vs.map fun v => [v]) (vs.map fun v => [v]) = some true := by
  unfold jigsawref10_Same.f
  rw [if_pos rfl]
  exact same_l0 vs hl vs.length 0 k (by omega) (by omega)
theorem made_f (vs : List Int) (hs : ∀ v ∈ vs, Small v) (hl : vs.length ≤ 100) : ∀ (m j k : Nat), vs.length = j + m → m + 11 < k →
    prop_Made.l0 k ((vs.take j).map D) (vs.map fun v => [v]) (vs.length : Int) (j : Int) = some (vs.map D, true)
  | 0, j, k + 1, e, _ => by
    rw [prop_Made.l0, if_neg (nge (by omega)), List.take_of_length_le (by omega)]
  | m + 1, j, k + 1, e, hk => by
    have hj : j < vs.length := by omega
    have hv := hs (vs.getD j 0) (by rw [getD_lt _ _ hj]; exact List.getElem_mem _)
    rw [prop_Made.l0, if_pos (nlt hj), if_pos (by omega), if_pos (by rw [List.length_map]; exact nlt hj), rdL_at, getD_map (fun v => [v]) vs 0 [] hj, of_one hv (by omega), Option.bind_some, if_pos rfl, if_pos (by simp; omega), wrap_succ (by omega)]
    have h := made_f vs hs hl m (j + 1) k (by omega) (by omega)
    rw [← take_step vs 0 hj, List.map_append] at h
    exact h
theorem made_some (vs : List Int) (hs : ∀ v ∈ vs, Small v) (hl : vs.length ≤ 100) {k : Nat} (hk : 200 ≤ k) : prop_Made.f k (vs.map fun v => [v]) = some (vs.map D, true) := by
  have h := made_f vs hs hl vs.length 0 k (by omega) (by omega)
  unfold prop_Made.f
  rw [List.length_map]
  exact h
theorem of_none {k : Nat} (hk : 10 ≤ k) : dom_Of.f k [] = some (0, [], 0, 0, 0, 4) := by
  refine up (f := fun k => dom_Of.f k []) (dom_Of.mono []) (k := 10) ?_ hk
  show dom_Of.f 10 [] = _
  decide +kernel
theorem made_none (r : List (List Int)) (hr : r.length ≤ 5) {k : Nat} (hk : 20 ≤ k) : prop_Made.f k ([] :: r) = some ([], false) := by
  obtain ⟨k, rfl⟩ : ∃ k', k = k' + 1 := ⟨k - 1, by omega⟩
  unfold prop_Made.f
  rw [prop_Made.l0, if_pos (show (0 : Int) < ((([] :: r : List (List Int)).length : Nat) : Int) by simp <;> omega), if_pos (by decide), if_pos (show (0 : Int) < ((([] :: r : List (List Int)).length : Nat) : Int) by simp <;> omega), show rd_L5 ([] :: r) 0 = [] from rfl, of_none (by omega), Option.bind_some, if_neg (by decide)]
theorem abs_small {x : Int} (hx : Small x) : wrap64 (-x) = -x ∧ -128 ≤ mx x (-x) ∧ mx x (-x) ≤ 128 := by
  unfold Small at hx
  refine ⟨wrap_id (by omega) (by omega), ?_⟩
  unfold mx; split <;> omega
/-- What is left of fixed values of a kind: all, or nothing. -/
def fit (kd : Int) (vs : List Int) : Bool :=
  if kd = 8 then vs.getD 1 0 == mx (vs.getD 0 0) (-(vs.getD 0 0)) else if kd = 9 then vs.getD 2 0 == mn (vs.getD 0 0) (vs.getD 1 0) else vs.getD 2 0 == mx (vs.getD 0 0) (vs.getD 1 0)
theorem absolute_f {x y : Int} (hx : Small x) (hy : Small y) {k : Nat} (hk : 300 ≤ k) :
    ext_absolute.f k (offv x) [bitv x] x x 1 (offv y) [bitv y] y y 1 = some (if y == mx x (-x) then ([D x, D y], true) else ([], false)) := by
  obtain ⟨e0, e1, e2⟩ := abs_small hx
  obtain ⟨k, rfl⟩ : ∃ k', k = k' + 2 := ⟨k - 2, by omega⟩
  have hw : wrap64 (0 + 1) = 1 := by decide +kernel
  have hd : rd [x] 0 = x := rfl
  unfold ext_absolute.f
  rw [list_one hx (by omega), Option.bind_some, show (([x] : List Int).length : Int) = 1 from rfl, ext_absolute.l0, if_pos (by decide), if_pos (by decide), show (([x] : List Int).length : Int) = 1 from rfl, if_pos (by decide), hd, e0, has_one hy ⟨e1, e2⟩, Option.bind_some]
  by_cases h : y = mx x (-x)
  · rw [if_pos (decide_eq_true h), if_pos (by decide), if_pos (by decide), hw, ext_absolute.l0, if_neg (by decide), ← h]
    rw [show prop_Made.f k [[] ++ [x], [] ++ [y]] = some ([D x, D y], true) from made_some [x, y] (by simp [hx, hy]) (by simp) (by omega), Option.bind_some]
    simp
  · rw [if_neg (by simpa using h), hw, ext_absolute.l0, if_neg (by decide), made_none [[]] (by simp) (by omega), Option.bind_some]
    simp [h]
theorem pairs1_f {x y z : Int} (hx : Small x) (hy : Small y) (hz : Small z) {k : Nat} (hk : 300 ≤ k) :
    prop_Pairs_at_ext_Filter_1.f k (offv x) [bitv x] x x 1 (offv y) [bitv y] y y 1 (offv z) [bitv z] z z 1 = some (if z == mn x y then ([D x, D y, D z], true) else ([], false)) := by
  obtain ⟨k, rfl⟩ : ∃ k', k = k' + 4 := ⟨k - 4, by omega⟩
  have hw : wrap64 (0 + 1) = 1 := by decide +kernel
  have hl : ∀ v : Int, (([v] : List Int).length : Int) = 1 := fun _ => rfl
  have hr : ∀ v : Int, rd [v] 0 = v := fun _ => rfl
  have hm : -128 ≤ mn x y ∧ mn x y ≤ 128 := by unfold Small at hx hy; unfold mn; split <;> omega
  unfold prop_Pairs_at_ext_Filter_1.f
  rw [list_one hx (by omega), Option.bind_some, hl, prop_Pairs_at_ext_Filter_1.l0, if_pos (by decide), if_pos (by decide), hl, if_pos (by decide), list_one hy (by omega), Option.bind_some, hl, hr, prop_Pairs_at_ext_Filter_1.l1, if_pos (by decide), if_pos (by decide), hl, if_pos (by decide), hr]
  unfold ext_Filter_1.f
  rw [Option.bind_some, if_pos rfl, has_one hz hm, Option.bind_some]
  by_cases h : z = mn x y
  · rw [if_pos (decide_eq_true h), if_pos (by decide), if_pos (by decide), if_pos (by decide), hw, prop_Pairs_at_ext_Filter_1.l1, if_neg (by decide), hw, prop_Pairs_at_ext_Filter_1.l0, if_neg (by decide), ← h]
    rw [show prop_Made.f _ [[] ++ [x], [] ++ [y], [] ++ [z]] = some ([D x, D y, D z], true) from made_some [x, y, z] (by simp [hx, hy, hz]) (by simp) (by omega), Option.bind_some]
    simp
  · rw [if_neg (by simpa using h), hw, prop_Pairs_at_ext_Filter_1.l1, if_neg (by decide), hw, prop_Pairs_at_ext_Filter_1.l0, if_neg (by decide), made_none [[], []] (by simp) (by omega), Option.bind_some]
    simp [h]
theorem pairs2_f {x y z : Int} (hx : Small x) (hy : Small y) (hz : Small z) {k : Nat} (hk : 300 ≤ k) :
    prop_Pairs_at_ext_Filter_2.f k (offv x) [bitv x] x x 1 (offv y) [bitv y] y y 1 (offv z) [bitv z] z z 1 = some (if z == mx x y then ([D x, D y, D z], true) else ([], false)) := by
  obtain ⟨k, rfl⟩ : ∃ k', k = k' + 4 := ⟨k - 4, by omega⟩
  have hw : wrap64 (0 + 1) = 1 := by decide +kernel
  have hl : ∀ v : Int, (([v] : List Int).length : Int) = 1 := fun _ => rfl
  have hr : ∀ v : Int, rd [v] 0 = v := fun _ => rfl
  have hm : -128 ≤ mx x y ∧ mx x y ≤ 128 := by unfold Small at hx hy; unfold mx; split <;> omega
  unfold prop_Pairs_at_ext_Filter_2.f
  rw [list_one hx (by omega), Option.bind_some, hl, prop_Pairs_at_ext_Filter_2.l0, if_pos (by decide), if_pos (by decide), hl, if_pos (by decide), list_one hy (by omega), Option.bind_some, hl, hr, prop_Pairs_at_ext_Filter_2.l1, if_pos (by decide), if_pos (by decide), hl, if_pos (by decide), hr]
  unfold ext_Filter_2.f
  rw [Option.bind_some, if_pos rfl, has_one hz hm, Option.bind_some]
  by_cases h : z = mx x y
  · rw [if_pos (decide_eq_true h), if_pos (by decide), if_pos (by decide), if_pos (by decide), hw, prop_Pairs_at_ext_Filter_2.l1, if_neg (by decide), hw, prop_Pairs_at_ext_Filter_2.l0, if_neg (by decide), ← h]
    rw [show prop_Made.f _ [[] ++ [x], [] ++ [y], [] ++ [z]] = some ([D x, D y, D z], true) from made_some [x, y, z] (by simp [hx, hy, hz]) (by simp) (by omega), Option.bind_some]
    simp
  · rw [if_neg (by simpa using h), hw, prop_Pairs_at_ext_Filter_2.l1, if_neg (by decide), hw, prop_Pairs_at_ext_Filter_2.l0, if_neg (by decide), made_none [[], []] (by simp) (by omega), Option.bind_some]
    simp [h]
/-- The document's answer, of fixed values. -/
theorem holds8 (x y : Int) (hx : Small x) : jigsawref09_Holds.f 8 (iota 0 2) [] [] [] [] 0 [] [x, y] = some (y == mx x (-x)) := by
  have e0 := (abs_small hx).1
  show jigsawref09_Holds.f 8 [0, 1] [] [] [] [] 0 [] [x, y] = _
  unfold jigsawref09_Holds.f jigsawref09_three.f
  rw [if_neg (by decide), if_pos (by decide), if_pos (by decide), if_pos (by decide), if_pos (show rd [0, 1] 0 < (([x, y] : List Int).length : Int) from by show (0 : Int) < 2; decide), if_pos (by decide), if_pos (by decide), if_pos (show rd [0, 1] 1 < (([x, y] : List Int).length : Int) from by show (1 : Int) < 2; decide), if_pos rfl]
  show (if x ≥ 0 then (if y = x then some true else (if x < 0 then some (y == wrap64 (-x)) else some false)) else (if x < 0 then some (y == wrap64 (-x)) else some false)).bind _ = _
  rw [e0]
  unfold mx
  by_cases h : x ≥ 0
  · rw [if_pos h]
    by_cases h2 : y = x
    · rw [if_pos h2, Option.bind_some]; congr 1; symm; rw [beq_iff_eq]; split <;> omega
    · rw [if_neg h2, if_neg (by omega), Option.bind_some]; congr 1; symm; rw [beq_eq_false_iff_ne]; split <;> omega
  · rw [if_neg h, if_pos (by omega), Option.bind_some]; congr 2; split <;> omega
theorem holds9 (x y z : Int) : jigsawref09_Holds.f 9 (iota 0 3) [] [] [] [] 0 [] [x, y, z] = some (z == mn x y) := by
  show jigsawref09_Holds.f 9 [0, 1, 2] [] [] [] [] 0 [] [x, y, z] = _
  unfold jigsawref09_Holds.f jigsawref09_three.f
  rw [if_neg (by decide), if_pos (by decide), if_pos (by decide), if_pos (by decide), if_pos (show rd [0, 1, 2] 0 < (([x, y, z] : List Int).length : Int) from by show (0 : Int) < 3; decide), if_pos (by decide), if_pos (by decide), if_pos (show rd [0, 1, 2] 1 < (([x, y, z] : List Int).length : Int) from by show (1 : Int) < 3; decide), if_neg (by decide), if_neg (by decide), if_pos (by decide), if_pos (by decide), if_pos (show rd [0, 1, 2] 2 < (([x, y, z] : List Int).length : Int) from by show (2 : Int) < 3; decide), if_neg (by decide), if_pos rfl]
  show (if z ≤ x then (if z ≤ y then (if z = x then some true else some (z == y)) else some false) else some false).bind _ = _
  unfold mn
  by_cases h : z ≤ x
  · rw [if_pos h]
    by_cases h2 : z ≤ y
    · rw [if_pos h2]
      by_cases h3 : z = x
      · rw [if_pos h3, Option.bind_some]; congr 1; symm; rw [beq_iff_eq]; split <;> omega
      · rw [if_neg h3, Option.bind_some]; congr 1; rw [Bool.eq_iff_iff, beq_iff_eq, beq_iff_eq]; split <;> omega
    · rw [if_neg h2, Option.bind_some]; congr 1; symm; rw [beq_eq_false_iff_ne]; split <;> omega
  · rw [if_neg h, Option.bind_some]; congr 1; symm; rw [beq_eq_false_iff_ne]; split <;> omega
theorem holds10 (x y z : Int) : jigsawref09_Holds.f 10 (iota 0 3) [] [] [] [] 0 [] [x, y, z] = some (z == mx x y) := by
  show jigsawref09_Holds.f 10 [0, 1, 2] [] [] [] [] 0 [] [x, y, z] = _
  unfold jigsawref09_Holds.f jigsawref09_three.f
  rw [if_neg (by decide), if_pos (by decide), if_pos (by decide), if_pos (by decide), if_pos (show rd [0, 1, 2] 0 < (([x, y, z] : List Int).length : Int) from by show (0 : Int) < 3; decide), if_pos (by decide), if_pos (by decide), if_pos (show rd [0, 1, 2] 1 < (([x, y, z] : List Int).length : Int) from by show (1 : Int) < 3; decide), if_neg (by decide), if_neg (by decide), if_pos (by decide), if_pos (by decide), if_pos (show rd [0, 1, 2] 2 < (([x, y, z] : List Int).length : Int) from by show (2 : Int) < 3; decide), if_neg (by decide), if_neg (by decide), if_pos rfl]
  show (if z ≥ x then (if z ≥ y then (if z = x then some true else some (z == y)) else some false) else some false).bind _ = _
  unfold mx
  by_cases h : z ≥ x
  · rw [if_pos h]
    by_cases h2 : z ≥ y
    · rw [if_pos h2]
      by_cases h3 : z = x
      · rw [if_pos h3, Option.bind_some]; congr 1; symm; rw [beq_iff_eq]; split <;> omega
      · rw [if_neg h3, Option.bind_some]; congr 1; rw [Bool.eq_iff_iff, beq_iff_eq, beq_iff_eq]; split <;> omega
    · rw [if_neg h2, Option.bind_some]; congr 1; symm; rw [beq_eq_false_iff_ne]; split <;> omega
  · rw [if_neg h, Option.bind_some]; congr 1; symm; rw [beq_eq_false_iff_ne]; split <;> omega
/-- The parts of what may be. -/
theorem idx_fits (vs : List Int) (hl : vs.length ≤ 100) : ∀ (m j k : Nat), vs.length = j + m → m < k → dom_Dom_88_at_prop_Fits_1.l0 k (vs.map D) (vs.length : Int) (j : Int) = some (-1)
  | 0, j, k + 1, e, _ => by rw [dom_Dom_88_at_prop_Fits_1.l0, if_neg (nge (by omega))]
  | m + 1, j, k + 1, e, hk => by
    have hj : j < vs.length := by omega
    rw [dom_Dom_88_at_prop_Fits_1.l0, if_pos (nlt hj), if_pos (by omega), List.length_map, if_pos (nlt hj), rdD_at, getD_map D vs 0 z61 hj]
    show (prop_Fits_1.f (offv (vs.getD j 0)) [bitv (vs.getD j 0)] (vs.getD j 0) (vs.getD j 0) 1).bind _ = _
    rw [show prop_Fits_1.f (offv (vs.getD j 0)) [bitv (vs.getD j 0)] (vs.getD j 0) (vs.getD j 0) 1 = some false from rfl, Option.bind_some, if_neg (by decide), wrap_succ (by omega)]
    exact idx_fits vs hl m (j + 1) k (by omega) (by omega)
theorem idx_right (l : List Int) (hp : ∀ x ∈ l, 0 ≤ x ∧ x ≤ 3) (hl : l.length ≤ 100) : ∀ (m j k : Nat), l.length = j + m → m < k → slices_IndexFunc_int_int_101_at_model_Right_1.l0 k l (l.length : Int) (j : Int) 256 = some (-1)
  | 0, j, k + 1, e, _ => by rw [slices_IndexFunc_int_int_101_at_model_Right_1.l0, if_neg (nge (by omega))]
  | m + 1, j, k + 1, e, hk => by
    have hj : j < l.length := by omega
    have hv := hp (l.getD j 0) (by rw [getD_lt _ _ hj]; exact List.getElem_mem _)
    rw [slices_IndexFunc_int_int_101_at_model_Right_1.l0, if_pos (nlt hj), if_pos (by omega), if_pos (nlt hj), rd_at]
    have hf : model_Right_1.f (l.getD j 0) 256 = some false := by
      unfold model_Right_1.f
      rw [if_neg (by omega), decide_eq_false (by omega)]
    rw [hf, Option.bind_some, if_neg (by decide), wrap_succ (by omega)]
    exact idx_right l hp hl m (j + 1) k (by omega) (by omega)
theorem vars_f (kd : Int) (p : List Int) (n : Nat) (hp : p.length = n) (hn : n ≤ 4) {k : Nat} (hk : 20 ≤ k) : model_Vars.f k kd p [] [] [] [] 0 [] = some p := by
  obtain ⟨k, rfl⟩ : ∃ k', k = k' + 6 := ⟨k - 6, by omega⟩
  have r0 : rd_L5 [p, []] 0 = p := rfl
  have r1 : rd_L5 [p, []] 1 = [] := rfl
  have e1 : wrap64 (0 + (n : Int)) = (n : Int) := by rw [wrap_id (by omega) (by omega)]; omega
  have e2 : wrap64 ((n : Int) + (([] : List Int).length : Int)) = (n : Int) := by rw [wrap_id (by simp <;> omega) (by simp <;> omega)]; simp
  have w1 : wrap64 (0 + 1) = 1 := by decide +kernel
  have w2 : wrap64 (1 + 1) = 2 := by decide +kernel
  have hlen : (([p, []] : List (List Int)).length : Int) = 2 := rfl
  unfold model_Vars.f slices_Concat_int_int.f
  rw [hlen, slices_Concat_int_int.l0, if_pos (by decide), if_pos (by decide), hlen, if_pos (by decide), r0, hp, e1, if_neg (by omega), w1, slices_Concat_int_int.l0, if_pos (by decide), if_pos (by decide), hlen, if_pos (by decide), r1, e2, if_neg (by omega), w2, slices_Concat_int_int.l0, if_neg (by decide)]
  have hg : slices_GrowNil.f (n : Int) = some [] := by unfold slices_GrowNil.f; rw [if_pos ⟨by omega, by omega⟩]
  rw [hg, Option.bind_some, hlen, slices_Concat_int_int.l1, if_pos (by decide), if_pos (by decide), hlen, if_pos (by decide), r0, if_pos (by simp [hp]; omega), w1, slices_Concat_int_int.l1, if_pos (by decide), if_pos (by decide), hlen, if_pos (by decide), r1, if_pos (by simp [hp]; omega), w2, slices_Concat_int_int.l1, if_neg (by decide), Option.bind_some]
  simp
theorem bounded_f {a : Int} {k : Nat} (hk : 5 ≤ k) : model_bounded.f k [] a = some true := by
  obtain ⟨k, rfl⟩ : ∃ k', k = k' + 1 := ⟨k - 1, by omega⟩
  unfold model_bounded.f slices_ContainsFunc_int_int_71_at_model_bounded_1.f slices_IndexFunc_int_int_101_at_model_bounded_1.f
  rw [slices_IndexFunc_int_int_101_at_model_bounded_1.l0, if_neg (by decide), Option.bind_some, Option.bind_some]
  rfl
/-- How many: as the shape says. -/
theorem counted_f (kd : Int) (n : Nat) (hd : Kind kd n) (p : List Int) (hp : p.length = n) : model_counted.f kd p [] [] [] [] 0 [] (shape n) = some true := by
  have h0 : kd ≠ 12 := by unfold Kind at hd; omega
  have named : ∀ (m : Int) (c d : UInt8), Lib.indexByte (shape n).data.toList d < 0 → (Lib.countByte (shape n).data.toList c : Int) = m → model_named.f m (shape n) ⟨#[c]⟩ ⟨#[d]⟩ = some true := by
    intro m c d h1 h2
    unfold model_named.f
    rw [show strings_Contains.f (shape n) ⟨#[d]⟩ = some (decide (0 ≤ Lib.indexByte (shape n).data.toList d)) from rfl, Option.bind_some, if_neg (by simp; omega), show strings_Count.f (shape n) ⟨#[c]⟩ = some ((Lib.countByte (shape n).data.toList c : Nat) : Int) from rfl, Option.bind_some, h2]
    simp
  unfold model_counted.f
  rw [if_neg h0]
  rcases hd with ⟨rfl, rfl⟩ | ⟨rfl, rfl⟩ | ⟨rfl, rfl⟩ <;>
  rw [show strings_Contains.f (shape _) ⟨#[114]⟩ = some false from by decide +kernel, Option.bind_some, if_neg (by decide), if_pos (by decide), named _ 118 86 (by decide +kernel) (by rw [hp]; decide +kernel), Option.bind_some, if_pos rfl, named _ 119 87 (by decide +kernel) (by decide +kernel), Option.bind_some, if_pos rfl, named _ 45 99 (by decide +kernel) (by decide +kernel), Option.bind_some, if_pos rfl, named _ 45 100 (by decide +kernel) (by decide +kernel), Option.bind_some, if_pos rfl, named _ 45 101 (by decide +kernel) (by decide +kernel), Option.bind_some]
theorem right_f (kd : Int) (n : Nat) (hd : Kind kd n) (p : List Int) (hp : Places n p) {k : Nat} (hk : 30 ≤ k) : model_Right.f k kd p [] [] [] [] 0 [] 256 = some 0 := by
  have hn : n ≤ 4 := by unfold Kind at hd; omega
  have hs : model_Shape.f kd = some (shape n) := by rcases hd with ⟨rfl, rfl⟩ | ⟨rfl, rfl⟩ | ⟨rfl, rfl⟩ <;> decide +kernel
  have hne : ¬ (shape n).toList = ([] : List UInt8) := by rcases hd with ⟨rfl, rfl⟩ | ⟨rfl, rfl⟩ | ⟨rfl, rfl⟩ <;> decide +kernel
  have ha : model_alike.f kd p [] [] [] [] 0 [] = some true := by
    unfold model_alike.f
    rcases hd with ⟨rfl, rfl⟩ | ⟨rfl, rfl⟩ | ⟨rfl, rfl⟩ <;>
    rw [if_neg (by decide), if_neg (by decide), if_neg (by decide), if_neg (by decide), if_neg (by decide), if_neg (by decide), if_neg (by decide), if_neg (by decide), if_neg (by decide)]
  have hi : slices_ContainsFunc_int_int_71_at_model_Right_1.f k p 256 = some false := by
    unfold slices_ContainsFunc_int_int_71_at_model_Right_1.f slices_IndexFunc_int_int_101_at_model_Right_1.f
    have h := idx_right p hp.2 (by rw [hp.1]; omega) p.length 0 k (by omega) (by rw [hp.1]; omega)
    have h' : slices_IndexFunc_int_int_101_at_model_Right_1.l0 k p (p.length : Int) 0 256 = some (-1) := h
    rw [h', Option.bind_some]
    rfl
  have h3 : kd ≠ 19 ∧ kd ≠ 21 := by unfold Kind at hd; omega
  have hb : model_numbers.f k kd p [] [] [] [] 0 [] = some true := by
    obtain ⟨k, rfl⟩ : ∃ k', k = k' + 1 := ⟨k - 1, by omega⟩
    unfold model_numbers.f
    rw [if_neg h3.1, if_neg h3.2, model_numbers.l0, if_neg (by decide), bounded_f (by omega), Option.bind_some, if_pos rfl, Option.bind_some, if_pos rfl, Option.bind_some, if_pos rfl, if_pos (by decide)]
    rfl
  have hn' : model_counts.f kd p [] [] [] [] 0 [] = some true := by unfold model_counts.f; rw [if_neg h3.2]
  unfold model_Right.f
  rw [hs, Option.bind_some, if_neg hne, counted_f kd n hd p hp.1, Option.bind_some, if_pos rfl, ha, Option.bind_some, if_pos rfl, if_pos rfl, vars_f kd p n hp.1 hn (by omega), Option.bind_some, hi, Option.bind_some, if_neg (by decide), hb, Option.bind_some, if_pos rfl, hn', Option.bind_some, if_pos rfl]
theorem fits_f (kd : Int) (n : Nat) (hd : Kind kd n) (p vs : List Int) (hp : Places n p) (hv : vs.length = n) {k : Nat} (hk : 30 ≤ k) : prop_Fits.f k kd p [] [] [] [] 0 [] (vs.map D) 8 10 = some true := by
  have hn : n ≤ 4 := by unfold Kind at hd; omega
  have hi : dom_Dom_62_at_prop_Fits_1.f k (vs.map D) = some false := by
    unfold dom_Dom_62_at_prop_Fits_1.f dom_Dom_88_at_prop_Fits_1.f
    have h' : dom_Dom_88_at_prop_Fits_1.l0 k (vs.map D) (((vs.map D).length : Nat) : Int) 0 = some (-1) := by
      rw [List.length_map]
      exact idx_fits vs (by omega) vs.length 0 k (by omega) (by omega)
    rw [h', Option.bind_some]
    rfl
  have hr : kd ≥ 8 ∧ kd ≤ 10 := by unfold Kind at hd; omega
  have hw : wrap64 ((n : Int) + (([] : List Int).length : Int)) = (n : Int) := by rw [wrap_id (by simp <;> omega) (by simp <;> omega)]; simp
  unfold prop_Fits.f
  rw [hi, Option.bind_some, if_pos hr.1, if_pos hr.2, right_f kd n hd p hp hk, Option.bind_some, if_pos rfl, hp.1, hw, List.length_map, if_pos (by omega)]
  rfl
theorem two {vs : List Int} (h : vs.length = 2) : ∃ x y, vs = [x, y] := by
  match vs, h with
  | [x, y], _ => exact ⟨x, y, rfl⟩
theorem three {vs : List Int} (h : vs.length = 3) : ∃ x y z, vs = [x, y, z] := by
  match vs, h with
  | [x, y, z], _ => exact ⟨x, y, z, rfl⟩
theorem rdT0 (a : S61) (l : List S61) : rd_T61 (a :: l) 0 = a := rfl
theorem rdT1 (a b : S61) (l : List S61) : rd_T61 (a :: b :: l) 1 = b := rfl
theorem rdT2 (a b c : S61) (l : List S61) : rd_T61 (a :: b :: c :: l) 2 = c := rfl
theorem filter_f (kd : Int) (n : Nat) (hd : Kind kd n) (p vs : List Int) (hp : Places n p) (hv : vs.length = n) (hs : ∀ v ∈ vs, Small v) {k : Nat} (hk : 300 ≤ k) :
    ext_Filter.f k kd p [] [] [] [] 0 [] (vs.map D) = some (if fit kd vs then (vs.map D, true) else ([], false)) := by
  have hf := fits_f kd n hd p vs hp hv (k := k) (by omega)
  unfold ext_Filter.f
  rw [hf, Option.bind_some, if_pos rfl]
  have w1 : wrap64 (1 * 1) = 1 := by decide +kernel
  rcases hd with ⟨rfl, rfl⟩ | ⟨rfl, rfl⟩ | ⟨rfl, rfl⟩
  · obtain ⟨x, y, rfl⟩ := two hv
    have hx := hs x (by simp)
    have hy := hs y (by simp)
    show (if (8 : Int) = 8 then (if 0 < (([D x, D y] : List S61).length : Int) then _ else none) else _) = _
    rw [if_pos rfl, if_pos (by simp), if_pos (by simp)]
    show (ext_absolute.f k (offv x) [bitv x] x x 1 (offv y) [bitv y] y y 1).bind _ = _
    rw [absolute_f hx hy hk, Option.bind_some]
    rfl
  · obtain ⟨x, y, z, rfl⟩ := three hv
    have hx := hs x (by simp)
    have hy := hs y (by simp)
    have hz := hs z (by simp)
    rw [if_neg (by decide), if_pos (by simp), show dom_Dom_Size.f (rd_T61 ([x, y, z].map D) 0).f0 (rd_T61 ([x, y, z].map D) 0).f1 (rd_T61 ([x, y, z].map D) 0).f2 (rd_T61 ([x, y, z].map D) 0).f3 (rd_T61 ([x, y, z].map D) 0).f4 = some 1 from rfl, Option.bind_some, if_pos (by simp), show dom_Dom_Size.f (rd_T61 ([x, y, z].map D) 1).f0 (rd_T61 ([x, y, z].map D) 1).f1 (rd_T61 ([x, y, z].map D) 1).f2 (rd_T61 ([x, y, z].map D) 1).f3 (rd_T61 ([x, y, z].map D) 1).f4 = some 1 from rfl, Option.bind_some, w1, if_neg (by decide), if_pos rfl, if_pos (by simp)]
    show (prop_Pairs_at_ext_Filter_1.f k (offv x) [bitv x] x x 1 (offv y) [bitv y] y y 1 (offv z) [bitv z] z z 1).bind _ = _
    rw [pairs1_f hx hy hz hk, Option.bind_some]
    show (if (if z == mn x y then ([D x, D y, D z], true) else ([], false) : List S61 × Bool).2 = true then some ((if z == mn x y then ([D x, D y, D z], true) else ([], false) : List S61 × Bool).1, true) else some ([], false)) = some (if (z == mn x y) = true then ([D x, D y, D z], true) else ([], false))
    cases z == mn x y <;> rfl
  · obtain ⟨x, y, z, rfl⟩ := three hv
    have hx := hs x (by simp)
    have hy := hs y (by simp)
    have hz := hs z (by simp)
    rw [if_neg (by decide), if_pos (by simp), show dom_Dom_Size.f (rd_T61 ([x, y, z].map D) 0).f0 (rd_T61 ([x, y, z].map D) 0).f1 (rd_T61 ([x, y, z].map D) 0).f2 (rd_T61 ([x, y, z].map D) 0).f3 (rd_T61 ([x, y, z].map D) 0).f4 = some 1 from rfl, Option.bind_some, if_pos (by simp), show dom_Dom_Size.f (rd_T61 ([x, y, z].map D) 1).f0 (rd_T61 ([x, y, z].map D) 1).f1 (rd_T61 ([x, y, z].map D) 1).f2 (rd_T61 ([x, y, z].map D) 1).f3 (rd_T61 ([x, y, z].map D) 1).f4 = some 1 from rfl, Option.bind_some, w1, if_neg (by decide), if_neg (by decide), if_pos (by simp)]
    show (prop_Pairs_at_ext_Filter_2.f k (offv x) [bitv x] x x 1 (offv y) [bitv y] y y 1 (offv z) [bitv z] z z 1).bind _ = _
    rw [pairs2_f hx hy hz hk, Option.bind_some]
    show (if (if z == mx x y then ([D x, D y, D z], true) else ([], false) : List S61 × Bool).2 = true then some ((if z == mx x y then ([D x, D y, D z], true) else ([], false) : List S61 × Bool).1, true) else some ([], false)) = some (if (z == mx x y) = true then ([D x, D y, D z], true) else ([], false))
    cases z == mx x y <;> rfl
theorem holds_f (kd : Int) (n : Nat) (hd : Kind kd n) (vs : List Int) (hv : vs.length = n) (hs : ∀ v ∈ vs, Small v) : jigsawref09_Holds.f kd (iota 0 n) [] [] [] [] 0 [] vs = some (fit kd vs) := by
  rcases hd with ⟨rfl, rfl⟩ | ⟨rfl, rfl⟩ | ⟨rfl, rfl⟩
  · obtain ⟨x, y, rfl⟩ := two hv
    exact holds8 x y (hs x (by simp))
  · obtain ⟨x, y, z, rfl⟩ := three hv
    exact holds9 x y z
  · obtain ⟨x, y, z, rfl⟩ := three hv
    exact holds10 x y z
/-- The law's own loop: the values, and then the end. -/
theorem law_l0 (kd : Int) (p l2 : List Int) (h2 : ∀ x ∈ l2, Small x) (n : Nat) (hd : Kind kd n) (hp : Places n p) : ∀ (m j k : Nat) (vs : List Int), n = j + m → m + 500 < k → vs.length = j → (∀ v ∈ vs, Small v) →
    jigsawlaw12_ExtFixed.l0 k l2 (vs.map fun v => [v]) vs (n : Int) (j : Int) kd p [] [] [] [] 0 [] kd (iota 0 n) [] [] [] [] 0 [] = some true
  | 0, j, k + 1, vs, e, hk, hl, hs => by
    have hn : n ≤ 4 := by unfold Kind at hd; omega
    rw [jigsawlaw12_ExtFixed.l0, if_neg (nge (by omega)), doms_f vs hs (by omega) (by omega), Option.bind_some, filter_f kd n hd p vs hp (by omega) hs (by omega), Option.bind_some, wakes_true (by omega), Option.bind_some, if_pos rfl, holds_f kd n hd vs (by omega) hs, Option.bind_some]
    cases fit kd vs with
    | false => rfl
    | true =>
      show (if ((true : Bool) == true) = true then (if (true : Bool) = true then (jigsawlaw12_lists.f k (vs.map D)).bind _ else some true) else none) = some true
      rw [if_pos (show ((true : Bool) == true) = true from rfl), if_pos rfl, lists_f vs hs (by omega) (by omega), Option.bind_some, same_f vs (by omega) (by omega), Option.bind_some]
  | m + 1, j, k + 1, vs, e, hk, hl, hs => by
    have hn : n ≤ 4 := by unfold Kind at hd; omega
    have step : ∀ v, Small v → jigsawlaw12_ExtFixed.l0 k l2 ((vs.map fun v => [v]) ++ [[v]]) (vs ++ [v]) (n : Int) (wrap64 ((j : Int) + 1)) kd p [] [] [] [] 0 [] kd (iota 0 n) [] [] [] [] 0 [] = some true := by
      intro v hv
      have h := law_l0 kd p l2 h2 n hd hp m (j + 1) k (vs ++ [v]) (by omega) (by omega) (by simp [hl]) (fun x hx => by
        rcases List.mem_append.1 hx with h | h
        · exact hs x h
        · rw [List.mem_singleton] at h; rw [h]; exact hv)
      rw [wrap_succ (by omega)]
      rw [List.map_append] at h
      exact h
    rw [jigsawlaw12_ExtFixed.l0, if_pos (nlt (by omega))]
    by_cases hx : j < l2.length
    · have hv := h2 (l2.getD j 0) (by rw [getD_lt _ _ hx]; exact List.getElem_mem _)
      have e1 : wrap64 (rd l2 (j : Int)) = l2.getD j 0 := by rw [rd_at]; unfold Small at hv; exact wrap_id (by omega) (by omega)
      rw [if_pos (nlt hx), if_pos (by omega), if_pos (by simp; omega), if_pos (by omega), e1]
      exact step _ hv
    · have e1 : wrap64 (1 + (j : Int)) = 1 + (j : Int) := wrap_id (by omega) (by omega)
      rw [if_neg (nge hx), if_pos (by simp; omega), if_pos (by omega), e1]
      exact step _ ⟨by omega, by omega⟩
theorem wf_u8 {x : Int} (h : (Lit.int .u8 x).wf = true) : 0 ≤ x ∧ x ≤ 255 := by
  simp only [Lit.wf, IntKind.min, IntKind.max, IntKind.signed, IntKind.bits, Bool.and_eq_true] at h
  simp at h
  omega
theorem wf_i8 {x : Int} (h : (Lit.int .i8 x).wf = true) : Small x := by
  simp only [Lit.wf, IntKind.min, IntKind.max, IntKind.signed, IntKind.bits, Bool.and_eq_true] at h
  simp at h
  exact ⟨by omega, by omega⟩
theorem kind_f (a1 : Int) (h : 0 ≤ a1 ∧ a1 ≤ 255) : ∃ kd n, Kind kd n ∧ jigsawlaw12_kind.f a1 = some kd := by
  have e1 : Int.tmod a1 3 = a1 % 3 := Int.tmod_eq_emod_of_nonneg (by omega)
  have e2 : wrap64 (Int.tmod a1 3) = a1 % 3 := by rw [e1]; exact wrap_id (by omega) (by omega)
  have e3 : wrap64 (8 + a1 % 3) = 8 + a1 % 3 := wrap_id (by omega) (by omega)
  refine ⟨8 + a1 % 3, if a1 % 3 = 0 then 2 else 3, ?_, by unfold jigsawlaw12_kind.f; rw [e2, e3]⟩
  unfold Kind
  split <;> omega
/-- THE PLAIN LAW: whatever the input, the answer is true. -/
theorem extFixed (a0 : Int) (l1 l3 l4 : List Int) (a4 a5 a1 : Int) (l2 : List Int) (_ : (Lit.int .u8 a0).wf = true) (hw1 : ∀ x ∈ l1, (Lit.int .u8 x).wf = true) (_ : ∀ x ∈ l3, (Lit.int .u8 x).wf = true) (_ : ∀ x ∈ l4, (Lit.int .i8 x).wf = true) (_ : (Lit.int .i16 a4).wf = true) (_ : (Lit.int .u8 a5).wf = true) (hwa : (Lit.int .u8 a1).wf = true) (hw2 : ∀ x ∈ l2, (Lit.int .i8 x).wf = true) :
    ∃ k, jigsawlaw12_ExtFixed.f k a0 l1 l3 l4 a4 a5 a1 l2 = some true := by
  refine ⟨1000, ?_⟩
  obtain ⟨kd, n, hd, hk⟩ := kind_f a1 (wf_u8 hwa)
  obtain ⟨p, hp, hm⟩ := make_f kd n hd l1 l3 l4 a4 a5 (fun x hx => wf_u8 (hw1 x hx)) (k := 1000) (by decide)
  have hn : n ≤ 4 := by unfold Kind at hd; omega
  have hs : wrap64 ((n : Int) + (([] : List Int).length : Int)) = (n : Int) := by rw [wrap_id (by simp <;> omega) (by simp <;> omega)]; simp
  unfold jigsawlaw12_ExtFixed.f
  rw [hk, Option.bind_some, hm, Option.bind_some]
  show (jigsawref10_Local.f 1000 kd p [] [] [] [] 0 []).bind _ = _
  rw [local_f kd p n hp.1 hn (by decide), Option.bind_some]
  show jigsawlaw12_ExtFixed.l0 1000 l2 [] [] (wrap64 ((p.length : Int) + (([] : List Int).length : Int))) 0 kd p [] [] [] [] 0 [] kd (iota 0 n) [] [] [] [] 0 [] = some true
  rw [hp.1, hs]
  exact law_l0 kd p l2 (fun x hx => wf_i8 (hw2 x hx)) n hd hp n 0 1000 [] (by omega) (by omega) rfl (fun v hv => by simp at hv)
end Go.Proofs.YtiofjnhmogeenaaGreatDoor.Pure
