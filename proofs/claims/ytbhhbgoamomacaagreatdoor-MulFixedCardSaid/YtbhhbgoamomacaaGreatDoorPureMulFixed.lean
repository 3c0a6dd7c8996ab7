/- The plain law of MulFixed: what the walk computes answers true, for every input. -/
import Derived.Test.YtbhhbgoamomacaaGreatDoorXMUSx24
namespace Go.Proofs.YtbhhbgoamomacaaGreatDoor.Pure
open Go.RowKit Go.Proofs.YtbhhbgoamomacaaGreatDoor.XMulFixed Go.Proofs.YtbhhbgoamomacaaGreatDoorW.PrintWords Go.Proofs.YtbhhbgoamomacaaGreatDoorW.PrintLast Go.Proofs.YtbhhbgoamomacaaGreatDoorW.PrintMore
set_option linter.unusedVariables false
theorem wrap_id {n : Int} (h : -9223372036854775808 ≤ n) (h2 : n ≤ 9223372036854775807) : wrap64 n = n := by unfold wrap64; omega
theorem wrap_succ {j : Nat} (h : j ≤ 1000) : wrap64 ((j : Int) + 1) = ((j + 1 : Nat) : Int) := by rw [wrap_id (by omega) (by omega)]; omega
theorem up {α : Type} {f : Nat → Option α} (hm : ∀ k, LeO (f k) (f (k + 1))) {k : Nat} {r : α} (h : f k = some r) : ∀ {k'}, k ≤ k' → f k' = some r := by
  intro k' hk
  induction hk with
  | refl => exact h
  | step _ ih => exact hm _ _ ih
/-- A number of 8 bits. -/
def Small (v : Int) : Prop := -128 ≤ v ∧ v ≤ 127
def offv (v : Int) : Int := Go.bits .andNot .i64 v 63
def bitv (v : Int) : Int := shl .u64 1 (v - offv v)
/-- The domain of one number. -/
def D (v : Int) : S61 := ⟨offv v, [bitv v], v, v, 1⟩
theorem by_fin {P : Int → Prop} (h : ∀ i : Fin 256, P ((i.val : Int) - 128)) {v : Int} (hv : Small v) : P v := by
  unfold Small at hv
  have := h ⟨(v + 128).toNat, by omega⟩
  simp only [] at this
  rwa [show (((v + 128).toNat : Nat) : Int) - 128 = v by omega] at this
instance dq3 : DecidableEq (Int × Int × Int) := inferInstance
instance dq4 : DecidableEq (Int × Int × Int × Int) := fun a b => instDecidableEqProd a b
instance dq5 : DecidableEq (List Int × Int × Int × Int × Int) := fun a b => instDecidableEqProd a b
instance dq6 : DecidableEq (Int × List Int × Int × Int × Int × Int) := fun a b => instDecidableEqProd a b
theorem of_all : ∀ i : Fin 256, dom_Of.f 10 [(i.val : Int) - 128] = some (offv ((i.val : Int) - 128), [bitv ((i.val : Int) - 128)], (i.val : Int) - 128, (i.val : Int) - 128, 1, 0) := by decide +kernel
theorem list_all : ∀ i : Fin 256, dom_Dom_List.f 10 (offv ((i.val : Int) - 128)) [bitv ((i.val : Int) - 128)] ((i.val : Int) - 128) ((i.val : Int) - 128) 1 = some [(i.val : Int) - 128] := by decide +kernel
theorem of_one {v : Int} (hv : Small v) {k : Nat} (hk : 10 ≤ k) : dom_Of.f k [v] = some (offv v, [bitv v], v, v, 1, 0) :=
  up (f := fun k => dom_Of.f k [v]) (dom_Of.mono [v]) (by_fin (P := fun v => dom_Of.f 10 [v] = some (offv v, [bitv v], v, v, 1, 0)) of_all hv) hk
theorem list_one {v : Int} (hv : Small v) {k : Nat} (hk : 10 ≤ k) : dom_Dom_List.f k (offv v) [bitv v] v v 1 = some [v] :=
  up (f := fun k => dom_Dom_List.f k (offv v) [bitv v] v v 1) (dom_Dom_List.mono _ _ _ _ _) (by_fin (P := fun v => dom_Dom_List.f 10 (offv v) [bitv v] v v 1 = some [v]) list_all hv) hk
theorem off_all : ∀ i : Fin 256, -128 ≤ offv ((i.val : Int) - 128) ∧ offv ((i.val : Int) - 128) ≤ 64 ∧ offv ((i.val : Int) - 128) ≤ (i.val : Int) - 128 ∧ (i.val : Int) - 128 < offv ((i.val : Int) - 128) + 64 ∧ offv ((i.val : Int) - 128) % 64 = 0 := by decide +kernel
theorem same_all : ∀ i : Fin 256, ∀ j : Fin 64, dom_Dom_Has.f (offv ((i.val : Int) - 128)) [bitv ((i.val : Int) - 128)] ((i.val : Int) - 128) ((i.val : Int) - 128) 1 (offv ((i.val : Int) - 128) + (j.val : Int)) = some (decide ((i.val : Int) - 128 = offv ((i.val : Int) - 128) + (j.val : Int))) := by decide +kernel
theorem place_all : ∀ a : Fin 513, ∀ b : Fin 64, Go.bits .andNot .i64 (64 * ((a.val : Int) - 256) + (b.val : Int)) 63 = 64 * ((a.val : Int) - 256) := by decide +kernel
theorem zero_all : ∀ s : Fin 64, (Go.bits .and .u64 (shr .u64 0 (s.val : Int)) 1 == 1) = false := by decide +kernel
theorem place_f {u : Int} (hu : -16384 ≤ u ∧ u ≤ 16384) : dom_place.f u = some (u - u % 64) := by
  have h := place_all ⟨(u / 64 + 256).toNat, by omega⟩ ⟨(u % 64).toNat, by omega⟩
  simp only [] at h
  rw [show (((u / 64 + 256).toNat : Nat) : Int) - 256 = u / 64 by omega, show (((u % 64).toNat : Nat) : Int) = u % 64 by omega, show 64 * (u / 64) + u % 64 = u by omega] at h
  unfold dom_place.f
  rw [h]
  congr 1
  omega
theorem has_one {v u : Int} (hv : Small v) (hu : -16384 ≤ u ∧ u ≤ 16384) : dom_Dom_Has.f (offv v) [bitv v] v v 1 u = some (decide (v = u)) := by
  have ho := by_fin (P := fun v => -128 ≤ offv v ∧ offv v ≤ 64 ∧ offv v ≤ v ∧ v < offv v + 64 ∧ offv v % 64 = 0) off_all hv
  by_cases hs : u - u % 64 = offv v
  · have h := by_fin (P := fun v => ∀ j : Fin 64, dom_Dom_Has.f (offv v) [bitv v] v v 1 (offv v + (j.val : Int)) = some (decide (v = offv v + (j.val : Int)))) same_all hv ⟨(u - offv v).toNat, by omega⟩
    simp only [] at h
    rwa [show offv v + (((u - offv v).toNat : Nat) : Int) = u by omega] at h
  have hne : decide (v = u) = false := decide_eq_false (by intro h; subst h; omega)
  have hw : dom_Dom_word.f (offv v) [bitv v] v v 1 (u - u % 64) = some 0 := by
    unfold dom_Dom_word.f
    by_cases h : u - u % 64 < offv v
    · rw [if_pos h]
    · have e1 : wrap64 (u - u % 64 - offv v) = u - u % 64 - offv v := wrap_id (by omega) (by omega)
      have e2 : Int.tdiv (u - u % 64 - offv v) 64 = (u - u % 64 - offv v) / 64 := Int.tdiv_eq_ediv_of_nonneg (by omega)
      have e3 : wrap64 ((u - u % 64 - offv v) / 64) = (u - u % 64 - offv v) / 64 := wrap_id (by omega) (by omega)
      rw [if_neg h, e1, e2, e3, if_pos (show (u - u % 64 - offv v) / 64 ≥ (([bitv v] : List Int).length : Int) from by show (u - u % 64 - offv v) / 64 ≥ 1; omega)]
  have e4 : wrap64 (u - (u - u % 64)) = u % 64 := by rw [wrap_id (by omega) (by omega)]; omega
  have z : ∀ s : Int, 0 ≤ s → s < 64 → (Go.bits .and .u64 (shr .u64 0 s) 1 == 1) = false := by
    intro s h1 h2
    have h := zero_all ⟨s.toNat, by omega⟩
    simp only [] at h
    rwa [show ((s.toNat : Nat) : Int) = s by omega] at h
  unfold dom_Dom_Has.f dom_in.f
  rw [if_pos (by omega), Option.bind_some, if_pos (by simpa using (by omega : u ≤ 1000000)), place_f hu, Option.bind_some, hw, Option.bind_some, Option.bind_some, e4, if_pos (by omega), z _ (by omega) (by omega), hne]
theorem wakes_true {k : Nat} (hk : 100 ≤ k) : jigsawlaw11_wakes.f k = some true :=
  up (f := fun k => jigsawlaw11_wakes.f k) jigsawlaw11_wakes.mono (by decide +kernel) hk
theorem rd_at (l : List Int) (j : Nat) : rd l (j : Int) = l.getD j 0 := rfl
theorem rdL_at (l : List (List Int)) (j : Nat) : rd_L7 l (j : Int) = l.getD j [] := rfl
theorem rdD_at (l : List S61) (j : Nat) : rd_T61 l (j : Int) = l.getD j z61 := rfl
theorem getD_lt {α : Type} (l : List α) (z : α) {j : Nat} (h : j < l.length) : l.getD j z = l[j] := by
  rw [List.getD_eq_getElem?_getD, List.getElem?_eq_getElem h]; rfl
theorem getD_map {α β : Type} (f : α → β) (l : List α) (z : α) (y : β) {j : Nat} (h : j < l.length) : (l.map f).getD j y = f (l.getD j z) := by
  rw [getD_lt _ _ (by simpa using h), getD_lt _ _ h]; simp
theorem take_step {α : Type} (l : List α) (z : α) {j : Nat} (h : j < l.length) : l.take j ++ [l.getD j z] = l.take (j + 1) := by
  rw [getD_lt _ _ h]; simp
theorem nlt {a b : Nat} (h : a < b) : (a : Int) < (b : Int) := by omega
theorem nge {a b : Nat} (h : ¬ a < b) : ¬ (a : Int) < (b : Int) := by omega
/-- The places: so many, each below 4, none below 0. -/
def Places (n : Nat) (r : List Int) : Prop := r.length = n ∧ ∀ x ∈ r, 0 ≤ x ∧ x ≤ 3
theorem places_l0 (l : List Int) (hl : ∀ x ∈ l, 0 ≤ x ∧ x ≤ 255) (n : Nat) (hn : n ≤ 4) : ∀ (m j k : Nat) (acc : List Int), n = j + m → m < k → Places j acc → ∃ r, jigsawref06_places.l0 k l (n : Int) 4 acc (j : Int) = some r ∧ Places n r
  | 0, j, k + 1, acc, e, _, ha => by
    obtain rfl : n = j := by omega
    refine ⟨acc, ?_, ha⟩
    rw [jigsawref06_places.l0, if_neg (nge (by omega))]
  | m + 1, j, k + 1, acc, e, hk, ha => by
    have hj : j < n := by omega
    obtain ⟨h1, h2⟩ := ha
    have hlen : acc.length < 17592186044416 := by omega
    by_cases hx : j < l.length
    · have hm := hl (l.getD j 0) (by rw [getD_lt _ _ hx]; exact List.getElem_mem _)
      obtain ⟨r, hr, hp⟩ := places_l0 l hl n hn m (j + 1) k (acc ++ [Int.tmod (wrap64 (rd l (j : Int))) 4]) (by omega) (by omega) ⟨by simp [h1], fun x hx => by
        rcases List.mem_append.1 hx with h | h
        · exact h2 x h
        · rw [List.mem_singleton] at h
          rw [h, rd_at, wrap_id (by omega) (by omega), Int.tmod_eq_emod_of_nonneg (by omega)]
          omega⟩
      refine ⟨r, ?_, hp⟩
      rw [jigsawref06_places.l0, if_pos (nlt hj), if_pos (nlt hx), if_pos (by omega), if_neg (by decide), if_pos hlen, wrap_succ (by omega)]
      exact hr
    · obtain ⟨r, hr, hp⟩ := places_l0 l hl n hn m (j + 1) k (acc ++ [Int.tmod (j : Int) 4]) (by omega) (by omega) ⟨by simp [h1], fun x hx => by
        rcases List.mem_append.1 hx with h | h
        · exact h2 x h
        · rw [List.mem_singleton] at h
          rw [h, Int.tmod_eq_emod_of_nonneg (by omega)]
          omega⟩
      refine ⟨r, ?_, hp⟩
      rw [jigsawref06_places.l0, if_pos (nlt hj), if_neg (nge hx), if_neg (by decide), if_pos hlen, wrap_succ (by omega)]
      exact hr
theorem places_f (l : List Int) (hl : ∀ x ∈ l, 0 ≤ x ∧ x ≤ 255) (n : Nat) (hn : n ≤ 4) {k : Nat} (hk : 5 ≤ k) : ∃ r, jigsawref06_places.f k l (n : Int) 4 = some r ∧ Places n r :=
  places_l0 l hl n hn n 0 k [] (by omega) (by omega) ⟨rfl, fun x hx => by simp at hx⟩
theorem has_f {s : ByteArray} {c r : Int} (h : jigsawref06_has.f 6 s c = some r) {k : Nat} (hk : 6 ≤ k) : jigsawref06_has.f k s c = some r :=
  up (f := fun k => jigsawref06_has.f k s c) (jigsawref06_has.mono _ _) h hk
/-- A constraint that is made: of so many places. -/
theorem make_key (kd : Int) (n : Nat) (s : ByteArray) (l1 l2 l3 : List Int) (a0 a4 a5 : Int) (h1 : ∀ x ∈ l1, 0 ≤ x ∧ x ≤ 255) (hn : 1 ≤ n ∧ n ≤ 4) (e1 : jigsawref06_has.f 6 s 118 = some (n : Int)) (e2 : jigsawref06_has.f 6 s 119 = some 0) (e3 : jigsawref06_has.f 6 s 87 = some 0) (e4 : jigsawref06_has.f 6 s 99 = some 0) (e5 : jigsawref06_has.f 6 s 107 = some 0)
    (k1 : kd ≠ 11) (k2 : kd ≠ 19) (k3 : kd ≠ 21) (k4 : kd ≠ 18) {k : Nat} (hk : 10 ≤ k) : ∃ p, Places n p ∧ jigsawref06_Make.j1 k 4 s a0 l1 l2 l3 a4 a5 kd 0 = some (kd, p, [], [], [], [], 0, []) := by
  obtain ⟨k, rfl⟩ : ∃ k', k = k' + 1 := ⟨k - 1, by omega⟩
  obtain ⟨p, hp, hpp⟩ := places_f l1 h1 n hn.2 (k := k) (by omega)
  refine ⟨p, hpp, ?_⟩
  rw [jigsawref06_Make.j1, has_f e1 (by omega), Option.bind_some, if_pos (by omega), Option.bind_some, hp, Option.bind_some, has_f e2 (by omega), Option.bind_some, if_neg (by decide), has_f e3 (by omega), Option.bind_some, if_neg (by decide), has_f e4 (by omega), Option.bind_some, if_neg (by decide), if_neg k1, has_f e5 (by omega), Option.bind_some, if_neg (by decide), if_neg k2, if_neg k3, if_neg k4]
/-- Which kind, of how many variables. -/
def Kind (kd : Int) (n : Nat) : Prop := (kd = 5 ∧ n = 3) ∨ (kd = 6 ∧ n = 3) ∨ (kd = 7 ∧ n = 3)
def shape (_ : Nat) : ByteArray := ⟨#[118, 118, 118]⟩
theorem make_f (kd : Int) (n : Nat) (hd : Kind kd n) (l1 l2 l3 : List Int) (a4 a5 : Int) (h1 : ∀ x ∈ l1, 0 ≤ x ∧ x ≤ 255) {k : Nat} (hk : 20 ≤ k) :
    ∃ p, Places n p ∧ jigsawref06_Make.f k ((wrap64 (kd - 1)) % 256) l1 l2 l3 a4 a5 4 = some (kd, p, [], [], [], [], 0, []) := by
  have hs : jigsawref06_Shapes.f = some ((jigsawref06_Shapes.f).getD []) := by rfl
  have hlen : ((jigsawref06_Shapes.f).getD []).length = 24 := by decide +kernel
  have hw : wrap64 (1 + Int.tmod (wrap64 ((wrap64 (kd - 1)) % 256)) 23) = kd := by rcases hd with ⟨rfl, _⟩ | ⟨rfl, _⟩ | ⟨rfl, _⟩ <;> decide +kernel
  have hv : rdOf ByteArray.empty ((jigsawref06_Shapes.f).getD []) kd = shape n := by rcases hd with ⟨rfl, rfl⟩ | ⟨rfl, rfl⟩ | ⟨rfl, rfl⟩ <;> rfl
  have hr : 0 ≤ kd ∧ kd < 24 := by unfold Kind at hd; omega
  have key : ∃ p, Places n p ∧ jigsawref06_Make.j1 (k - 1) 4 (shape n) ((wrap64 (kd - 1)) % 256) l1 l2 l3 a4 a5 kd 0 = some (kd, p, [], [], [], [], 0, []) := by
    rcases hd with ⟨rfl, rfl⟩ | ⟨rfl, rfl⟩ | ⟨rfl, rfl⟩ <;>
    exact make_key _ _ _ l1 l2 l3 _ a4 a5 h1 (by decide) (by decide +kernel) (by decide +kernel) (by decide +kernel) (by decide +kernel) (by decide +kernel) (by decide) (by decide) (by decide) (by decide) (by omega)
  have key0 : ∀ m : Int, ∃ p, Places n p ∧ jigsawref06_Make.j0 k 4 (shape n) m ((wrap64 (kd - 1)) % 256) l1 l2 l3 a4 a5 kd 0 = some (kd, p, [], [], [], [], 0, []) := by
    intro m
    obtain ⟨p, hp, e⟩ := key
    obtain ⟨k, rfl⟩ : ∃ k', k = k' + 1 := ⟨k - 1, by omega⟩
    refine ⟨p, hp, ?_⟩
    rw [jigsawref06_Make.j0]
    split <;> exact e
  unfold jigsawref06_Make.f
  rw [hs, Option.bind_some, hw, hlen, if_pos (by omega), if_pos (by omega), hv]
  split
  · exact key0 1
  · exact key0 _
/-- So many numbers from a first one on. -/
def iota (a n : Nat) : List Int := (List.range n).map fun i => ((a + i : Nat) : Int)
theorem iota_len (a n : Nat) : (iota a n).length = n := by simp [iota]
theorem iota_at (a n j : Nat) (h : j < n) : (iota a n).getD j 0 = ((a + j : Nat) : Int) := by
  rw [getD_lt _ _ (by rw [iota_len]; exact h)]; simp [iota]
theorem iota_succ (a n : Nat) : iota a n ++ [((a + n : Nat) : Int)] = iota a (n + 1) := by simp [iota, List.range_succ]
theorem local_l0 (kd : Int) (p : List Int) (n : Nat) (hp : p.length = n) (hn : n ≤ 4) : ∀ (m j k : Nat), n = j + m → m + 2 < k →
    jigsawref10_Local.l0 k (j : Int) kd p [] [] [] [] 0 [] kd (iota 0 j) [] [] [] 0 [] = some (kd, iota 0 n, [], [], [], [], 0, [])
  | 0, j, k + 1, e, hk => by
    obtain rfl : n = j := by omega
    obtain ⟨k, rfl⟩ : ∃ k', k = k' + 1 := ⟨k - 1, by omega⟩
    rw [jigsawref10_Local.l0, hp, if_neg (nge (by omega)), jigsawref10_Local.l1, if_neg (by decide)]
  | m + 1, j, k + 1, e, hk => by
    have h := iota_succ 0 j
    rw [Nat.zero_add] at h
    rw [jigsawref10_Local.l0, hp, if_pos (nlt (by omega)), if_pos (by rw [iota_len]; omega), wrap_succ (by omega), h]
    exact local_l0 kd p n hp hn m (j + 1) k (by omega) (by omega)
theorem local_f (kd : Int) (p : List Int) (n : Nat) (hp : p.length = n) (hn : n ≤ 4) {k : Nat} (hk : 11 ≤ k) :
    jigsawref10_Local.f k kd p [] [] [] [] 0 [] = some (kd, iota 0 n, [], [], [], [], 0, []) :=
  local_l0 kd p n hp hn n 0 k (by omega) (by omega)
theorem doms_l0 (vs : List Int) (hs : ∀ v ∈ vs, Small v) (hl : vs.length ≤ 100) : ∀ (m j k : Nat), vs.length = j + m → m + 11 < k →
    jigsawlaw11_doms.l0 k ((vs.take j).map D) (vs.map fun v => [v]) (vs.length : Int) (j : Int) = some (vs.map D)
  | 0, j, k + 1, e, _ => by
    rw [jigsawlaw11_doms.l0, if_neg (nge (by omega)), List.take_of_length_le (by omega)]
  | m + 1, j, k + 1, e, hk => by
    have hj : j < vs.length := by omega
    have hv := hs (vs.getD j 0) (by rw [getD_lt _ _ hj]; exact List.getElem_mem _)
    rw [jigsawlaw11_doms.l0, if_pos (nlt hj), if_pos (by omega), if_pos (by rw [List.length_map]; exact nlt hj), rdL_at, getD_map (fun v => [v]) vs 0 [] hj, of_one hv (by omega), Option.bind_some, if_pos (by simp; omega), wrap_succ (by omega)]
    have h := doms_l0 vs hs hl m (j + 1) k (by omega) (by omega)
    rw [← take_step vs 0 hj, List.map_append] at h
    exact h
theorem doms_f (vs : List Int) (hs : ∀ v ∈ vs, Small v) (hl : vs.length ≤ 100) {k : Nat} (hk : 200 ≤ k) : jigsawlaw11_doms.f k (vs.map fun v => [v]) = some (vs.map D) := by
  have h := doms_l0 vs hs hl vs.length 0 k (by omega) (by omega)
  unfold jigsawlaw11_doms.f
  rw [List.length_map]
  exact h
theorem lists_l0 (vs : List Int) (hs : ∀ v ∈ vs, Small v) (hl : vs.length ≤ 100) : ∀ (m j k : Nat), vs.length = j + m → m + 11 < k →
    jigsawlaw11_lists.l0 k ((vs.take j).map fun v => [v]) (vs.map D) (vs.length : Int) (j : Int) = some (vs.map fun v => [v])
  | 0, j, k + 1, e, _ => by
    rw [jigsawlaw11_lists.l0, if_neg (nge (by omega)), List.take_of_length_le (by omega)]
  | m + 1, j, k + 1, e, hk => by
    have hj : j < vs.length := by omega
    have hv := hs (vs.getD j 0) (by rw [getD_lt _ _ hj]; exact List.getElem_mem _)
    rw [jigsawlaw11_lists.l0, if_pos (nlt hj), if_pos (by omega), if_pos (by rw [List.length_map]; exact nlt hj), rdD_at, getD_map D vs 0 z61 hj]
    show (dom_Dom_List.f k (offv (vs.getD j 0)) [bitv (vs.getD j 0)] (vs.getD j 0) (vs.getD j 0) 1).bind _ = _
    rw [list_one hv (by omega), Option.bind_some, if_pos (by simp; omega), wrap_succ (by omega)]
    have h := lists_l0 vs hs hl m (j + 1) k (by omega) (by omega)
    rw [← take_step vs 0 hj, List.map_append] at h
    exact h
theorem lists_f (vs : List Int) (hs : ∀ v ∈ vs, Small v) (hl : vs.length ≤ 100) {k : Nat} (hk : 200 ≤ k) : jigsawlaw11_lists.f k (vs.map D) = some (vs.map fun v => [v]) := by
  have h := lists_l0 vs hs hl vs.length 0 k (by omega) (by omega)
  unfold jigsawlaw11_lists.f
  rw [List.length_map]
  exact h
theorem same_l0 (vs : List Int) (hl : vs.length ≤ 100) : ∀ (m j k : Nat), vs.length = j + m → 3 * m < k →
    jigsawref10_Same.l0 k (vs.map fun v => [v]) (vs.map fun v => [v]) (j : Int) = some true
  | 0, j, k + 1, e, _ => by
    rw [jigsawref10_Same.l0, List.length_map, if_neg (nge (by omega))]
  | m + 1, j, k + 1, e, hk => by
    have hj : j < vs.length := by omega
    obtain ⟨k, rfl⟩ : ∃ k', k = k' + 2 := ⟨k - 2, by omega⟩
    have hr : rd_L7 (vs.map fun v => [v]) (j : Int) = [vs.getD j 0] := by rw [rdL_at, getD_map (fun v => [v]) vs 0 [] hj]
    rw [jigsawref10_Same.l0, List.length_map, if_pos (nlt hj), if_pos (by omega), if_pos rfl]
    rw [jigsawref10_Same.l1, if_pos (by omega), List.length_map, if_pos (nlt hj), hr, if_pos (show (0 : Int) < (([vs.getD j 0] : List Int).length : Int) by simp), if_pos (show (0 : Int) ≤ 0 by decide), if_pos (nlt hj), if_pos (show (0 : Int) < (([vs.getD j 0] : List Int).length : Int) by simp), if_pos rfl]
    rw [jigsawref10_Same.l1, if_pos (by omega), List.length_map, if_pos (nlt hj), hr, if_neg (show ¬ wrap64 (0 + 1) < (([vs.getD j 0] : List Int).length : Int) by simp [wrap64]), wrap_succ (by omega)]
    exact same_l0 vs hl m (j + 1) k (by omega) (by omega)
theorem same_f (vs : List Int) (hl : vs.length ≤ 100) {k : Nat} (hk : 400 ≤ k) : jigsawref10_Same.f k (vs.map fun v => [v]) (vs.map fun v => [v]) = some true := by
  unfold jigsawref10_Same.f
  rw [if_pos rfl]
  exact same_l0 vs hl vs.length 0 k (by omega) (by omega)
theorem made_f (vs : List Int) (hs : ∀ v ∈ vs, Small v) (hl : vs.length ≤ 100) : ∀ (m j k : Nat), vs.length = j + m → m + 11 < k →
    prop_Made.l0 k ((vs.take j).map D) (vs.map fun v => [v]) (vs.length : Int) (j : Int) = some (vs.map D, true)
  | 0, j, k + 1, e, _ => by
    rw [prop_Made.l0, if_neg (nge (by omega)), List.take_of_length_le (by omega)]
  | m + 1, j, k + 1, e, hk => by
    have hj : j < vs.length := by omega
    have hv := hs (vs.getD j 0) (by rw [getD_lt _ _ hj]; exact List.getElem_mem _)
    rw [prop_Made.l0, if_pos (nlt hj), if_pos (by omega), if_pos (by rw [List.length_map]; exact nlt hj), rdL_at, getD_map (fun v => [v]) vs 0 [] hj, of_one hv (by omega), Option.bind_some, if_pos rfl, if_pos (by simp; omega), wrap_succ (by omega)]
    have h := made_f vs hs hl m (j + 1) k (by omega) (by omega)
    rw [← take_step vs 0 hj, List.map_append] at h
    exact h
theorem made_some (vs : List Int) (hs : ∀ v ∈ vs, Small v) (hl : vs.length ≤ 100) {k : Nat} (hk : 200 ≤ k) : prop_Made.f k (vs.map fun v => [v]) = some (vs.map D, true) := by
  have h := made_f vs hs hl vs.length 0 k (by omega) (by omega)
  unfold prop_Made.f
  rw [List.length_map]
  exact h
theorem of_none {k : Nat} (hk : 10 ≤ k) : dom_Of.f k [] = some (0, [], 0, 0, 0, 4) := by
  refine up (f := fun k => dom_Of.f k []) (dom_Of.mono []) (k := 10) ?_ hk
  show dom_Of.f 10 [] = _
  decide +kernel
theorem made_none (r : List (List Int)) (hr : r.length ≤ 5) {k : Nat} (hk : 20 ≤ k) : prop_Made.f k ([] :: r) = some ([], false) := by
  obtain ⟨k, rfl⟩ : ∃ k', k = k' + 1 := ⟨k - 1, by omega⟩
  unfold prop_Made.f
  rw [prop_Made.l0, if_pos (show (0 : Int) < ((([] :: r : List (List Int)).length : Nat) : Int) by simp <;> omega), if_pos (by decide), if_pos (show (0 : Int) < ((([] :: r : List (List Int)).length : Nat) : Int) by simp <;> omega), show rd_L7 ([] :: r) 0 = [] from rfl, of_none (by omega), Option.bind_some, if_neg (by decide)]
theorem near {x y : Int} (hx : Small x) (hy : Small y) : (-16384 ≤ x * y ∧ x * y ≤ 16384) ∧ (-16384 ≤ Int.tdiv x y ∧ Int.tdiv x y ≤ 16384) ∧ (-16384 ≤ Int.tmod x y ∧ Int.tmod x y ≤ 16384) := by
  unfold Small at hx hy
  have h1 : (x * y).natAbs ≤ 128 * 128 := by rw [Int.natAbs_mul]; exact Nat.mul_le_mul (by omega) (by omega)
  have h2 : (Int.tdiv x y).natAbs ≤ x.natAbs := by rw [Int.natAbs_tdiv]; exact Nat.div_le_self _ _
  have h3 : (Int.tmod x y).natAbs ≤ x.natAbs := by rw [Int.natAbs_tmod]; exact Nat.mod_le _ _
  omega
theorem mul_f {x y : Int} (hx : Small x) (hy : Small y) {k : Nat} (hk : 5 ≤ k) : num_Mul.f k x y = some (x * y, true) := by
  obtain ⟨k, rfl⟩ : ∃ k', k = k' + 2 := ⟨k - 2, by omega⟩
  have hn := (near hx hy).1
  unfold Small at hx hy
  have hx0 : (x == (-9223372036854775808)) = false := beq_eq_false_iff_ne.2 (by omega)
  have j1 : y ≠ 0 → num_Mul.j1 (k + 1) x y false = some (x * y, true) := by
    intro h
    have e1 : wrap64 (x * y) = x * y := wrap_id (by omega) (by omega)
    have e2 : Int.tdiv (x * y) y = x := Int.mul_tdiv_cancel x h
    have e3 : wrap64 x = x := wrap_id (by omega) (by omega)
    rw [num_Mul.j1, if_neg (by decide), if_neg h, e1, e2, e3, if_pos rfl]
  unfold num_Mul.f
  by_cases h : x = 0
  · rw [if_pos h, num_Mul.j0, if_pos rfl, h]; simp
  · rw [if_neg h]
    by_cases h2 : y = 0
    · rw [h2, num_Mul.j0, if_pos (by decide)]; simp
    · rw [num_Mul.j0, if_neg (by simpa using h2), hx0, j1 h2]
      repeat' split
      all_goals first | rfl | omega
/-- Quotients and remainders, of small numbers; none by nought. -/
def quo (x y : Int) : Int × Bool := if y = 0 then (0, false) else (Int.tdiv x y, true)
def rmd (x y : Int) : Int × Bool := if y = 0 then (0, false) else (Int.tmod x y, true)
theorem nright_f {x y : Int} (hx : Small x) : num_right.f x y = some (decide (y ≠ 0)) := by
  unfold Small at hx
  unfold num_right.f
  by_cases h : y = 0
  · rw [if_pos h]; simp [h]
  · rw [if_neg h]
    by_cases h2 : y = -1
    · rw [if_pos h2, bne_iff_ne.2 (by omega : x ≠ -9223372036854775808)]; simp [h2]
    · rw [if_neg h2]; simp [h]
theorem quo_f {x y : Int} (hx : Small x) (hy : Small y) : num_Quo.f x y = some (quo x y) := by
  have hn := (near hx hy).2.1
  unfold num_Quo.f quo
  rw [nright_f hx, Option.bind_some]
  by_cases h : y = 0
  · rw [if_neg (by simpa using h), if_pos h]
  · rw [if_pos (by simpa using h), if_neg h, if_neg h, wrap_id (by omega) (by omega)]
theorem rmd_f {x y : Int} (hx : Small x) (hy : Small y) : num_Rem.f x y = some (rmd x y) := by
  unfold num_Rem.f rmd
  rw [nright_f hx, Option.bind_some]
  by_cases h : y = 0
  · rw [if_neg (by simpa using h), if_pos h]
  · rw [if_pos (by simpa using h), if_neg h, if_neg h]
theorem rquo_0 : ∀ i : Fin 32, ∀ j : Fin 256, jigsawref01_Quo.f 5 ((i.val : Int) + (-128)) ((j.val : Int) - 128) = some (quo ((i.val : Int) + (-128)) ((j.val : Int) - 128)) := by decide +kernel
theorem rquo_1 : ∀ i : Fin 32, ∀ j : Fin 256, jigsawref01_Quo.f 5 ((i.val : Int) + (-96)) ((j.val : Int) - 128) = some (quo ((i.val : Int) + (-96)) ((j.val : Int) - 128)) := by decide +kernel
theorem rquo_2 : ∀ i : Fin 32, ∀ j : Fin 256, jigsawref01_Quo.f 5 ((i.val : Int) + (-64)) ((j.val : Int) - 128) = some (quo ((i.val : Int) + (-64)) ((j.val : Int) - 128)) := by decide +kernel
theorem rquo_3 : ∀ i : Fin 32, ∀ j : Fin 256, jigsawref01_Quo.f 5 ((i.val : Int) + (-32)) ((j.val : Int) - 128) = some (quo ((i.val : Int) + (-32)) ((j.val : Int) - 128)) := by decide +kernel
theorem rquo_4 : ∀ i : Fin 32, ∀ j : Fin 256, jigsawref01_Quo.f 5 ((i.val : Int) + (0)) ((j.val : Int) - 128) = some (quo ((i.val : Int) + (0)) ((j.val : Int) - 128)) := by decide +kernel
theorem rquo_5 : ∀ i : Fin 32, ∀ j : Fin 256, jigsawref01_Quo.f 5 ((i.val : Int) + (32)) ((j.val : Int) - 128) = some (quo ((i.val : Int) + (32)) ((j.val : Int) - 128)) := by decide +kernel
theorem rquo_6 : ∀ i : Fin 32, ∀ j : Fin 256, jigsawref01_Quo.f 5 ((i.val : Int) + (64)) ((j.val : Int) - 128) = some (quo ((i.val : Int) + (64)) ((j.val : Int) - 128)) := by decide +kernel
theorem rquo_7 : ∀ i : Fin 32, ∀ j : Fin 256, jigsawref01_Quo.f 5 ((i.val : Int) + (96)) ((j.val : Int) - 128) = some (quo ((i.val : Int) + (96)) ((j.val : Int) - 128)) := by decide +kernel
theorem rquo_all (i : Fin 256) (j : Fin 256) : jigsawref01_Quo.f 5 ((i.val : Int) - 128) ((j.val : Int) - 128) = some (quo ((i.val : Int) - 128) ((j.val : Int) - 128)) := by
  have hi := i.isLt
  have e : ∀ (q : Nat) (h : 32 * q ≤ i.val ∧ i.val < 32 * q + 32), (((i.val - 32 * q : Nat)) : Int) + ((32 * q : Nat) - 128 : Int) = (i.val : Int) - 128 := fun q h => by omega
  by_cases h0 : 0 ≤ i.val ∧ i.val < 32
  · have h := rquo_0 ⟨i.val - 0, by omega⟩ j
    simp only [] at h
    rwa [show (((i.val - 0 : Nat)) : Int) + (-128) = (i.val : Int) - 128 by omega] at h
  by_cases h1 : 32 ≤ i.val ∧ i.val < 64
  · have h := rquo_1 ⟨i.val - 32, by omega⟩ j
    simp only [] at h
    rwa [show (((i.val - 32 : Nat)) : Int) + (-96) = (i.val : Int) - 128 by omega] at h
  by_cases h2 : 64 ≤ i.val ∧ i.val < 96
  · have h := rquo_2 ⟨i.val - 64, by omega⟩ j
    simp only [] at h
    rwa [show (((i.val - 64 : Nat)) : Int) + (-64) = (i.val : Int) - 128 by omega] at h
  by_cases h3 : 96 ≤ i.val ∧ i.val < 128
  · have h := rquo_3 ⟨i.val - 96, by omega⟩ j
    simp only [] at h
    rwa [show (((i.val - 96 : Nat)) : Int) + (-32) = (i.val : Int) - 128 by omega] at h
  by_cases h4 : 128 ≤ i.val ∧ i.val < 160
  · have h := rquo_4 ⟨i.val - 128, by omega⟩ j
    simp only [] at h
    rwa [show (((i.val - 128 : Nat)) : Int) + (0) = (i.val : Int) - 128 by omega] at h
  by_cases h5 : 160 ≤ i.val ∧ i.val < 192
  · have h := rquo_5 ⟨i.val - 160, by omega⟩ j
    simp only [] at h
    rwa [show (((i.val - 160 : Nat)) : Int) + (32) = (i.val : Int) - 128 by omega] at h
  by_cases h6 : 192 ≤ i.val ∧ i.val < 224
  · have h := rquo_6 ⟨i.val - 192, by omega⟩ j
    simp only [] at h
    rwa [show (((i.val - 192 : Nat)) : Int) + (64) = (i.val : Int) - 128 by omega] at h
  by_cases h7 : 224 ≤ i.val ∧ i.val < 256
  · have h := rquo_7 ⟨i.val - 224, by omega⟩ j
    simp only [] at h
    rwa [show (((i.val - 224 : Nat)) : Int) + (96) = (i.val : Int) - 128 by omega] at h
  omega
theorem by_two {P : Int → Int → Prop} (h : ∀ i : Fin 256, ∀ j : Fin 256, P ((i.val : Int) - 128) ((j.val : Int) - 128)) {x y : Int} (hx : Small x) (hy : Small y) : P x y :=
  by_fin (P := fun x => P x y) (fun i => by_fin (P := fun y => P ((i.val : Int) - 128) y) (h i) hy) hx
theorem rquo_f {x y : Int} (hx : Small x) (hy : Small y) {k : Nat} (hk : 5 ≤ k) : jigsawref01_Quo.f k x y = some (quo x y) :=
  up (f := fun k => jigsawref01_Quo.f k x y) (jigsawref01_Quo.mono x y) (by_two (P := fun x y => jigsawref01_Quo.f 5 x y = some (quo x y)) rquo_all hx hy) hk
theorem pairs_Mul {x y z : Int} (hx : Small x) (hy : Small y) (hz : Small z) {k : Nat} (hk : 300 ≤ k) :
    prop_Pairs_at_num_Mul.f k (offv x) [bitv x] x x 1 (offv y) [bitv y] y y 1 (offv z) [bitv z] z z 1 = some (if (((x * y, true) : Int × Bool)).2 && z == (((x * y, true) : Int × Bool)).1 then ([D x, D y, D z], true) else ([], false)) := by
  obtain ⟨k, rfl⟩ : ∃ k', k = k' + 4 := ⟨k - 4, by omega⟩
  have hw : wrap64 (0 + 1) = 1 := by decide +kernel
  have hl : ∀ v : Int, (([v] : List Int).length : Int) = 1 := fun _ => rfl
  have hr : ∀ v : Int, rd [v] 0 = v := fun _ => rfl
  have hf : num_Mul.f (k + 2) x y = some (((x * y, true) : Int × Bool)) := mul_f hx hy (by omega)
  have hm : -16384 ≤ (((x * y, true) : Int × Bool)).1 ∧ (((x * y, true) : Int × Bool)).1 ≤ 16384 := by
    have hn := near hx hy
    exact hn.1
  unfold prop_Pairs_at_num_Mul.f
  rw [list_one hx (by omega), Option.bind_some, hl, prop_Pairs_at_num_Mul.l0, if_pos (by decide), if_pos (by decide), hl, if_pos (by decide), list_one hy (by omega), Option.bind_some, hl, hr, prop_Pairs_at_num_Mul.l1, if_pos (by decide), if_pos (by decide), hl, if_pos (by decide), hr, hf, Option.bind_some]
  generalize (((x * y, true) : Int × Bool)) = g at hm ⊢
  obtain ⟨u, b⟩ := g
  cases b with
  | false =>
    rw [if_neg (show ¬ (false = true) by decide), hw, prop_Pairs_at_num_Mul.l1, if_neg (by decide), hw, prop_Pairs_at_num_Mul.l0, if_neg (by decide), made_none [[], []] (by simp) (by omega), Option.bind_some]
    rfl
  | true =>
    rw [if_pos rfl, has_one hz hm, Option.bind_some]
    by_cases h : z = u
    · rw [if_pos (decide_eq_true h), if_pos (by decide), if_pos (by decide), if_pos (by decide), hw, prop_Pairs_at_num_Mul.l1, if_neg (by decide), hw, prop_Pairs_at_num_Mul.l0, if_neg (by decide)]
      show (prop_Made.f _ [[] ++ [x], [] ++ [y], [] ++ [u]]).bind _ = _
      rw [← h, show prop_Made.f _ [[] ++ [x], [] ++ [y], [] ++ [z]] = some ([D x, D y, D z], true) from made_some [x, y, z] (by simp [hx, hy, hz]) (by simp) (by omega), Option.bind_some]
      simp
    · rw [if_neg (by simpa using h), hw, prop_Pairs_at_num_Mul.l1, if_neg (by decide), hw, prop_Pairs_at_num_Mul.l0, if_neg (by decide), made_none [[], []] (by simp) (by omega), Option.bind_some]
      simp [h]
theorem pairs_Quo {x y z : Int} (hx : Small x) (hy : Small y) (hz : Small z) {k : Nat} (hk : 300 ≤ k) :
    prop_Pairs_at_num_Quo.f k (offv x) [bitv x] x x 1 (offv y) [bitv y] y y 1 (offv z) [bitv z] z z 1 = some (if (quo x y).2 && z == (quo x y).1 then ([D x, D y, D z], true) else ([], false)) := by
  obtain ⟨k, rfl⟩ : ∃ k', k = k' + 4 := ⟨k - 4, by omega⟩
  have hw : wrap64 (0 + 1) = 1 := by decide +kernel
  have hl : ∀ v : Int, (([v] : List Int).length : Int) = 1 := fun _ => rfl
  have hr : ∀ v : Int, rd [v] 0 = v := fun _ => rfl
  have hf : num_Quo.f x y = some (quo x y) := quo_f hx hy
  have hm : -16384 ≤ (quo x y).1 ∧ (quo x y).1 ≤ 16384 := by
    have hn := near hx hy
    unfold quo; split <;> simp only [] <;> omega
  unfold prop_Pairs_at_num_Quo.f
  rw [list_one hx (by omega), Option.bind_some, hl, prop_Pairs_at_num_Quo.l0, if_pos (by decide), if_pos (by decide), hl, if_pos (by decide), list_one hy (by omega), Option.bind_some, hl, hr, prop_Pairs_at_num_Quo.l1, if_pos (by decide), if_pos (by decide), hl, if_pos (by decide), hr, hf, Option.bind_some]
  generalize (quo x y) = g at hm ⊢
  obtain ⟨u, b⟩ := g
  cases b with
  | false =>
    rw [if_neg (show ¬ (false = true) by decide), hw, prop_Pairs_at_num_Quo.l1, if_neg (by decide), hw, prop_Pairs_at_num_Quo.l0, if_neg (by decide), made_none [[], []] (by simp) (by omega), Option.bind_some]
    rfl
  | true =>
    rw [if_pos rfl, has_one hz hm, Option.bind_some]
    by_cases h : z = u
    · rw [if_pos (decide_eq_true h), if_pos (by decide), if_pos (by decide), if_pos (by decide), hw, prop_Pairs_at_num_Quo.l1, if_neg (by decide), hw, prop_Pairs_at_num_Quo.l0, if_neg (by decide)]
      show (prop_Made.f _ [[] ++ [x], [] ++ [y], [] ++ [u]]).bind _ = _
      rw [← h, show prop_Made.f _ [[] ++ [x], [] ++ [y], [] ++ [z]] = some ([D x, D y, D z], true) from made_some [x, y, z] (by simp [hx, hy, hz]) (by simp) (by omega), Option.bind_some]
      simp
    · rw [if_neg (by simpa using h), hw, prop_Pairs_at_num_Quo.l1, if_neg (by decide), hw, prop_Pairs_at_num_Quo.l0, if_neg (by decide), made_none [[], []] (by simp) (by omega), Option.bind_some]
      simp [h]
theorem pairs_Rem {x y z : Int} (hx : Small x) (hy : Small y) (hz : Small z) {k : Nat} (hk : 300 ≤ k) :
    prop_Pairs_at_num_Rem.f k (offv x) [bitv x] x x 1 (offv y) [bitv y] y y 1 (offv z) [bitv z] z z 1 = some (if (rmd x y).2 && z == (rmd x y).1 then ([D x, D y, D z], true) else ([], false)) := by
  obtain ⟨k, rfl⟩ : ∃ k', k = k' + 4 := ⟨k - 4, by omega⟩
  have hw : wrap64 (0 + 1) = 1 := by decide +kernel
  have hl : ∀ v : Int, (([v] : List Int).length : Int) = 1 := fun _ => rfl
  have hr : ∀ v : Int, rd [v] 0 = v := fun _ => rfl
  have hf : num_Rem.f x y = some (rmd x y) := rmd_f hx hy
  have hm : -16384 ≤ (rmd x y).1 ∧ (rmd x y).1 ≤ 16384 := by
    have hn := near hx hy
    unfold rmd; split <;> simp only [] <;> omega
  unfold prop_Pairs_at_num_Rem.f
  rw [list_one hx (by omega), Option.bind_some, hl, prop_Pairs_at_num_Rem.l0, if_pos (by decide), if_pos (by decide), hl, if_pos (by decide), list_one hy (by omega), Option.bind_some, hl, hr, prop_Pairs_at_num_Rem.l1, if_pos (by decide), if_pos (by decide), hl, if_pos (by decide), hr, hf, Option.bind_some]
  generalize (rmd x y) = g at hm ⊢
  obtain ⟨u, b⟩ := g
  cases b with
  | false =>
    rw [if_neg (show ¬ (false = true) by decide), hw, prop_Pairs_at_num_Rem.l1, if_neg (by decide), hw, prop_Pairs_at_num_Rem.l0, if_neg (by decide), made_none [[], []] (by simp) (by omega), Option.bind_some]
    rfl
  | true =>
    rw [if_pos rfl, has_one hz hm, Option.bind_some]
    by_cases h : z = u
    · rw [if_pos (decide_eq_true h), if_pos (by decide), if_pos (by decide), if_pos (by decide), hw, prop_Pairs_at_num_Rem.l1, if_neg (by decide), hw, prop_Pairs_at_num_Rem.l0, if_neg (by decide)]
      show (prop_Made.f _ [[] ++ [x], [] ++ [y], [] ++ [u]]).bind _ = _
      rw [← h, show prop_Made.f _ [[] ++ [x], [] ++ [y], [] ++ [z]] = some ([D x, D y, D z], true) from made_some [x, y, z] (by simp [hx, hy, hz]) (by simp) (by omega), Option.bind_some]
      simp
    · rw [if_neg (by simpa using h), hw, prop_Pairs_at_num_Rem.l1, if_neg (by decide), hw, prop_Pairs_at_num_Rem.l0, if_neg (by decide), made_none [[], []] (by simp) (by omega), Option.bind_some]
      simp [h]
/-- What is left of fixed values of a kind: all, or nothing. -/
def res (kd x y : Int) : Int × Bool := if kd = 5 then (x * y, true) else if kd = 6 then quo x y else rmd x y
def fit (kd : Int) (vs : List Int) : Bool := (res kd (vs.getD 0 0) (vs.getD 1 0)).2 && vs.getD 2 0 == (res kd (vs.getD 0 0) (vs.getD 1 0)).1
/-- The document's answer, of fixed values. -/
theorem beq_sym (a b : Int) : (a == b) = (b == a) := by rw [Bool.eq_iff_iff, beq_iff_eq, beq_iff_eq]; exact eq_comm
theorem holds5 {x y : Int} (z : Int) (hx : Small x) (hy : Small y) (k : Nat) : jigsawref09_Holds.f k 5 (iota 0 3) [] [] [] [] 0 [] [x, y, z] = some (fit 5 [x, y, z]) := by
  have hn := (near hx hy).1
  show jigsawref09_Holds.f k 5 [0, 1, 2] [] [] [] [] 0 [] [x, y, z] = _
  unfold jigsawref09_Holds.f jigsawref09_three.f
  rw [if_neg (by decide), if_pos (by decide), if_pos (by decide), if_pos (by decide), if_pos (show rd [0, 1, 2] 0 < (([x, y, z] : List Int).length : Int) from by show (0 : Int) < 3; decide), if_pos (by decide), if_pos (by decide), if_pos (show rd [0, 1, 2] 1 < (([x, y, z] : List Int).length : Int) from by show (1 : Int) < 3; decide), if_neg (by decide), if_neg (by decide), if_pos (by decide), if_pos (by decide), if_pos (show rd [0, 1, 2] 2 < (([x, y, z] : List Int).length : Int) from by show (2 : Int) < 3; decide), if_pos rfl]
  show (some (wrap64 (x * y) == z)).bind _ = some (true && z == x * y)
  rw [wrap_id (by omega) (by omega), Option.bind_some, Bool.true_and, beq_sym]
theorem holds6 {x y : Int} (z : Int) (hx : Small x) (hy : Small y) {k : Nat} (hk : 5 ≤ k) : jigsawref09_Holds.f k 6 (iota 0 3) [] [] [] [] 0 [] [x, y, z] = some (fit 6 [x, y, z]) := by
  have hf := rquo_f hx hy hk
  show jigsawref09_Holds.f k 6 [0, 1, 2] [] [] [] [] 0 [] [x, y, z] = _
  unfold jigsawref09_Holds.f jigsawref09_three.f
  rw [if_neg (by decide), if_pos (by decide), if_pos (by decide), if_pos (by decide), if_pos (show rd [0, 1, 2] 0 < (([x, y, z] : List Int).length : Int) from by show (0 : Int) < 3; decide), if_pos (by decide), if_pos (by decide), if_pos (show rd [0, 1, 2] 1 < (([x, y, z] : List Int).length : Int) from by show (1 : Int) < 3; decide), if_neg (by decide), if_neg (by decide), if_pos (by decide), if_pos (by decide), if_pos (show rd [0, 1, 2] 2 < (([x, y, z] : List Int).length : Int) from by show (2 : Int) < 3; decide), if_neg (by decide), if_neg (by decide), if_neg (by decide)]
  show ((jigsawref01_Quo.f k x y).bind fun b => _).bind _ = some ((quo x y).2 && z == (quo x y).1)
  rw [hf, Option.bind_some, if_pos rfl]
  show (if (quo x y).2 = true then some ((quo x y).1 == z) else some false).bind _ = _
  cases (quo x y).2 with
  | false => rfl
  | true => rw [if_pos rfl, Option.bind_some, Bool.true_and, beq_sym]
theorem holds7 {x y : Int} (z : Int) (hx : Small x) (hy : Small y) {k : Nat} (hk : 5 ≤ k) : jigsawref09_Holds.f k 7 (iota 0 3) [] [] [] [] 0 [] [x, y, z] = some (fit 7 [x, y, z]) := by
  have hf := rquo_f hx hy hk
  have hn := near hx hy
  show jigsawref09_Holds.f k 7 [0, 1, 2] [] [] [] [] 0 [] [x, y, z] = _
  unfold jigsawref09_Holds.f jigsawref09_three.f
  rw [if_neg (by decide), if_pos (by decide), if_pos (by decide), if_pos (by decide), if_pos (show rd [0, 1, 2] 0 < (([x, y, z] : List Int).length : Int) from by show (0 : Int) < 3; decide), if_pos (by decide), if_pos (by decide), if_pos (show rd [0, 1, 2] 1 < (([x, y, z] : List Int).length : Int) from by show (1 : Int) < 3; decide), if_neg (by decide), if_neg (by decide), if_pos (by decide), if_pos (by decide), if_pos (show rd [0, 1, 2] 2 < (([x, y, z] : List Int).length : Int) from by show (2 : Int) < 3; decide), if_neg (by decide), if_neg (by decide), if_neg (by decide)]
  show ((jigsawref01_Quo.f k x y).bind fun b => _).bind _ = some ((rmd x y).2 && z == (rmd x y).1)
  rw [hf, Option.bind_some, if_neg (by decide)]
  show (if (quo x y).2 = true then some (wrap64 (x - wrap64 (y * (quo x y).1)) == z) else some false).bind _ = _
  by_cases h : y = 0
  · rw [show quo x y = (0, false) from if_pos h, show rmd x y = (0, false) from if_pos h]; rfl
  · rw [show quo x y = (Int.tdiv x y, true) from if_neg h, show rmd x y = (Int.tmod x y, true) from if_neg h]
    have ed := Int.tmod_add_mul_tdiv x y
    have hx' := hx
    unfold Small at hx'
    have e1 : wrap64 (y * Int.tdiv x y) = y * Int.tdiv x y := wrap_id (by omega) (by omega)
    have e2 : x - y * Int.tdiv x y = Int.tmod x y := by omega
    have e3 : wrap64 (Int.tmod x y) = Int.tmod x y := wrap_id (by omega) (by omega)
    rw [if_pos rfl, Option.bind_some, Bool.true_and]
    show some (wrap64 (x - wrap64 (y * Int.tdiv x y)) == z) = _
    rw [e1, e2, e3, beq_sym]
/-- The parts of what may be. -/
theorem idx_fits (vs : List Int) (hl : vs.length ≤ 100) : ∀ (m j k : Nat), vs.length = j + m → m < k → dom_Dom_86_at_prop_Fits_1.l0 k (vs.map D) (vs.length : Int) (j : Int) = some (-1)
  | 0, j, k + 1, e, _ => by rw [dom_Dom_86_at_prop_Fits_1.l0, if_neg (nge (by omega))]
  | m + 1, j, k + 1, e, hk => by
    have hj : j < vs.length := by omega
    rw [dom_Dom_86_at_prop_Fits_1.l0, if_pos (nlt hj), if_pos (by omega), List.length_map, if_pos (nlt hj), rdD_at, getD_map D vs 0 z61 hj]
    show (prop_Fits_1.f (offv (vs.getD j 0)) [bitv (vs.getD j 0)] (vs.getD j 0) (vs.getD j 0) 1).bind _ = _
    rw [show prop_Fits_1.f (offv (vs.getD j 0)) [bitv (vs.getD j 0)] (vs.getD j 0) (vs.getD j 0) 1 = some false from rfl, Option.bind_some, if_neg (by decide), wrap_succ (by omega)]
    exact idx_fits vs hl m (j + 1) k (by omega) (by omega)
theorem idx_right (l : List Int) (hp : ∀ x ∈ l, 0 ≤ x ∧ x ≤ 3) (hl : l.length ≤ 100) : ∀ (m j k : Nat), l.length = j + m → m < k → slices_IndexFunc_int_int_101_at_model_Right_1.l0 k l (l.length : Int) (j : Int) 256 = some (-1)
  | 0, j, k + 1, e, _ => by rw [slices_IndexFunc_int_int_101_at_model_Right_1.l0, if_neg (nge (by omega))]
  | m + 1, j, k + 1, e, hk => by
    have hj : j < l.length := by omega
    have hv := hp (l.getD j 0) (by rw [getD_lt _ _ hj]; exact List.getElem_mem _)
    rw [slices_IndexFunc_int_int_101_at_model_Right_1.l0, if_pos (nlt hj), if_pos (by omega), if_pos (nlt hj), rd_at]
    have hf : model_Right_1.f (l.getD j 0) 256 = some false := by
      unfold model_Right_1.f
      rw [if_neg (by omega), decide_eq_false (by omega)]
    rw [hf, Option.bind_some, if_neg (by decide), wrap_succ (by omega)]
    exact idx_right l hp hl m (j + 1) k (by omega) (by omega)
theorem vars_f (kd : Int) (p : List Int) (n : Nat) (hp : p.length = n) (hn : n ≤ 4) {k : Nat} (hk : 20 ≤ k) : model_Vars.f k kd p [] [] [] [] 0 [] = some p := by
  obtain ⟨k, rfl⟩ : ∃ k', k = k' + 6 := ⟨k - 6, by omega⟩
  have r0 : rd_L7 [p, []] 0 = p := rfl
  have r1 : rd_L7 [p, []] 1 = [] := rfl
  have e1 : wrap64 (0 + (n : Int)) = (n : Int) := by rw [wrap_id (by omega) (by omega)]; omega
  have e2 : wrap64 ((n : Int) + (([] : List Int).length : Int)) = (n : Int) := by rw [wrap_id (by simp <;> omega) (by simp <;> omega)]; simp
  have w1 : wrap64 (0 + 1) = 1 := by decide +kernel
  have w2 : wrap64 (1 + 1) = 2 := by decide +kernel
  have hlen : (([p, []] : List (List Int)).length : Int) = 2 := rfl
  unfold model_Vars.f slices_Concat_int_int.f
  rw [hlen, slices_Concat_int_int.l0, if_pos (by decide), if_pos (by decide), hlen, if_pos (by decide), r0, hp, e1, if_neg (by omega), w1, slices_Concat_int_int.l0, if_pos (by decide), if_pos (by decide), hlen, if_pos (by decide), r1, e2, if_neg (by omega), w2, slices_Concat_int_int.l0, if_neg (by decide)]
  have hg : slices_GrowNil.f (n : Int) = some [] := by unfold slices_GrowNil.f; rw [if_pos ⟨by omega, by omega⟩]
  rw [hg, Option.bind_some, hlen, slices_Concat_int_int.l1, if_pos (by decide), if_pos (by decide), hlen, if_pos (by decide), r0, if_pos (by simp [hp]; omega), w1, slices_Concat_int_int.l1, if_pos (by decide), if_pos (by decide), hlen, if_pos (by decide), r1, if_pos (by simp [hp]; omega), w2, slices_Concat_int_int.l1, if_neg (by decide), Option.bind_some]
  simp
theorem bounded_f {a : Int} {k : Nat} (hk : 5 ≤ k) : model_bounded.f k [] a = some true := by
  obtain ⟨k, rfl⟩ : ∃ k', k = k' + 1 := ⟨k - 1, by omega⟩
  unfold model_bounded.f slices_ContainsFunc_int_int_70_at_model_bounded_1.f slices_IndexFunc_int_int_101_at_model_bounded_1.f
  rw [slices_IndexFunc_int_int_101_at_model_bounded_1.l0, if_neg (by decide), Option.bind_some, Option.bind_some]
  rfl
/-- How many: as the shape says. -/
theorem counted_f (kd : Int) (n : Nat) (hd : Kind kd n) (p : List Int) (hp : p.length = n) : model_counted.f kd p [] [] [] [] 0 [] (shape n) = some true := by
  have h0 : kd ≠ 12 := by unfold Kind at hd; omega
  have named : ∀ (m : Int) (c d : UInt8), Lib.indexByte (shape n).data.toList d < 0 → (Lib.countByte (shape n).data.toList c : Int) = m → model_named.f m (shape n) ⟨#[c]⟩ ⟨#[d]⟩ = some true := by
    intro m c d h1 h2
    unfold model_named.f
    rw [show strings_Contains.f (shape n) ⟨#[d]⟩ = some (decide (0 ≤ Lib.indexByte (shape n).data.toList d)) from rfl, Option.bind_some, if_neg (by simp; omega), show strings_Count.f (shape n) ⟨#[c]⟩ = some ((Lib.countByte (shape n).data.toList c : Nat) : Int) from rfl, Option.bind_some, h2]
    simp
  unfold model_counted.f
  rw [if_neg h0]
  rcases hd with ⟨rfl, rfl⟩ | ⟨rfl, rfl⟩ | ⟨rfl, rfl⟩ <;>
  rw [show strings_Contains.f (shape _) ⟨#[114]⟩ = some false from by decide +kernel, Option.bind_some, if_neg (by decide), if_pos (by decide), named _ 118 86 (by decide +kernel) (by rw [hp]; decide +kernel), Option.bind_some, if_pos rfl, named _ 119 87 (by decide +kernel) (by decide +kernel), Option.bind_some, if_pos rfl, named _ 45 99 (by decide +kernel) (by decide +kernel), Option.bind_some, if_pos rfl, named _ 45 100 (by decide +kernel) (by decide +kernel), Option.bind_some, if_pos rfl, named _ 45 101 (by decide +kernel) (by decide +kernel), Option.bind_some]
theorem right_f (kd : Int) (n : Nat) (hd : Kind kd n) (p : List Int) (hp : Places n p) {k : Nat} (hk : 30 ≤ k) : model_Right.f k kd p [] [] [] [] 0 [] 256 = some 0 := by
  have hn : n ≤ 4 := by unfold Kind at hd; omega
  have hs : model_Shape.f kd = some (shape n) := by rcases hd with ⟨rfl, rfl⟩ | ⟨rfl, rfl⟩ | ⟨rfl, rfl⟩ <;> decide +kernel
  have hne : ¬ (shape n).toList = ([] : List UInt8) := by rcases hd with ⟨rfl, rfl⟩ | ⟨rfl, rfl⟩ | ⟨rfl, rfl⟩ <;> decide +kernel
  have ha : model_alike.f kd p [] [] [] [] 0 [] = some true := by
    unfold model_alike.f
    rcases hd with ⟨rfl, rfl⟩ | ⟨rfl, rfl⟩ | ⟨rfl, rfl⟩ <;>
    rw [if_neg (by decide), if_neg (by decide), if_neg (by decide), if_neg (by decide), if_neg (by decide), if_neg (by decide), if_neg (by decide), if_neg (by decide), if_neg (by decide)]
  have hi : slices_ContainsFunc_int_int_70_at_model_Right_1.f k p 256 = some false := by
    unfold slices_ContainsFunc_int_int_70_at_model_Right_1.f slices_IndexFunc_int_int_101_at_model_Right_1.f
    have h := idx_right p hp.2 (by rw [hp.1]; omega) p.length 0 k (by omega) (by rw [hp.1]; omega)
    have h' : slices_IndexFunc_int_int_101_at_model_Right_1.l0 k p (p.length : Int) 0 256 = some (-1) := h
    rw [h', Option.bind_some]
    rfl
  have h3 : kd ≠ 19 ∧ kd ≠ 21 := by unfold Kind at hd; omega
  have hb : model_numbers.f k kd p [] [] [] [] 0 [] = some true := by
    obtain ⟨k, rfl⟩ : ∃ k', k = k' + 1 := ⟨k - 1, by omega⟩
    unfold model_numbers.f
    rw [if_neg h3.1, if_neg h3.2, model_numbers.l0, if_neg (by decide), bounded_f (by omega), Option.bind_some, if_pos rfl, Option.bind_some, if_pos rfl, Option.bind_some, if_pos rfl, if_pos (by decide)]
    rfl
  have hn' : model_counts.f kd p [] [] [] [] 0 [] = some true := by unfold model_counts.f; rw [if_neg h3.2]
  unfold model_Right.f
  rw [hs, Option.bind_some, if_neg hne, counted_f kd n hd p hp.1, Option.bind_some, if_pos rfl, ha, Option.bind_some, if_pos rfl, if_pos rfl, vars_f kd p n hp.1 hn (by omega), Option.bind_some, hi, Option.bind_some, if_neg (by decide), hb, Option.bind_some, if_pos rfl, hn', Option.bind_some, if_pos rfl]
theorem fits_f (kd : Int) (n : Nat) (hd : Kind kd n) (p vs : List Int) (hp : Places n p) (hv : vs.length = n) {k : Nat} (hk : 30 ≤ k) : prop_Fits.f k kd p [] [] [] [] 0 [] (vs.map D) 5 7 = some true := by
  have hn : n ≤ 4 := by unfold Kind at hd; omega
  have hi : dom_Dom_61_at_prop_Fits_1.f k (vs.map D) = some false := by
    unfold dom_Dom_61_at_prop_Fits_1.f dom_Dom_86_at_prop_Fits_1.f
    have h' : dom_Dom_86_at_prop_Fits_1.l0 k (vs.map D) (((vs.map D).length : Nat) : Int) 0 = some (-1) := by
      rw [List.length_map]
      exact idx_fits vs (by omega) vs.length 0 k (by omega) (by omega)
    rw [h', Option.bind_some]
    rfl
  have hr : kd ≥ 5 ∧ kd ≤ 7 := by unfold Kind at hd; omega
  have hw : wrap64 ((n : Int) + (([] : List Int).length : Int)) = (n : Int) := by rw [wrap_id (by simp <;> omega) (by simp <;> omega)]; simp
  unfold prop_Fits.f
  rw [hi, Option.bind_some, if_pos hr.1, if_pos hr.2, right_f kd n hd p hp hk, Option.bind_some, if_pos rfl, hp.1, hw, List.length_map, if_pos (by omega)]
  rfl
theorem two {vs : List Int} (h : vs.length = 2) : ∃ x y, vs = [x, y] := by
  match vs, h with
  | [x, y], _ => exact ⟨x, y, rfl⟩
theorem three {vs : List Int} (h : vs.length = 3) : ∃ x y z, vs = [x, y, z] := by
  match vs, h with
  | [x, y, z], _ => exact ⟨x, y, z, rfl⟩
theorem rdT0 (a : S61) (l : List S61) : rd_T61 (a :: l) 0 = a := rfl
theorem rdT1 (a b : S61) (l : List S61) : rd_T61 (a :: b :: l) 1 = b := rfl
theorem rdT2 (a b c : S61) (l : List S61) : rd_T61 (a :: b :: c :: l) 2 = c := rfl
theorem filter_f (kd : Int) (n : Nat) (hd : Kind kd n) (p vs : List Int) (hp : Places n p) (hv : vs.length = n) (hs : ∀ v ∈ vs, Small v) {k : Nat} (hk : 300 ≤ k) :
    mul_Filter.f k kd p [] [] [] [] 0 [] (vs.map D) = some (if fit kd vs then (vs.map D, true) else ([], false)) := by
  have hf := fits_f kd n hd p vs hp hv (k := k) (by omega)
  have hn3 : n = 3 := by unfold Kind at hd; omega
  obtain ⟨x, y, z, rfl⟩ := three (hv.trans hn3)
  have hx := hs x (by simp)
  have hy := hs y (by simp)
  have hz := hs z (by simp)
  unfold mul_Filter.f
  rw [hf, Option.bind_some, if_pos rfl]
  have w1 : wrap64 (1 * 1) = 1 := by decide +kernel
  rcases hd with ⟨rfl, _⟩ | ⟨rfl, _⟩ | ⟨rfl, _⟩
  · rw [if_pos (by simp), show dom_Dom_Size.f (rd_T61 ([x, y, z].map D) 0).f0 (rd_T61 ([x, y, z].map D) 0).f1 (rd_T61 ([x, y, z].map D) 0).f2 (rd_T61 ([x, y, z].map D) 0).f3 (rd_T61 ([x, y, z].map D) 0).f4 = some 1 from rfl, Option.bind_some, if_pos (by simp), show dom_Dom_Size.f (rd_T61 ([x, y, z].map D) 1).f0 (rd_T61 ([x, y, z].map D) 1).f1 (rd_T61 ([x, y, z].map D) 1).f2 (rd_T61 ([x, y, z].map D) 1).f3 (rd_T61 ([x, y, z].map D) 1).f4 = some 1 from rfl, Option.bind_some, w1, if_neg (by decide), if_neg (by decide), if_neg (by decide), if_pos (by simp)]
    show (prop_Pairs_at_num_Mul.f k (offv x) [bitv x] x x 1 (offv y) [bitv y] y y 1 (offv z) [bitv z] z z 1).bind _ = _
    rw [pairs_Mul hx hy hz hk, Option.bind_some]
    show some (_, _) = some (if ((((x * y, true) : Int × Bool)).2 && z == (((x * y, true) : Int × Bool)).1) = true then ([D x, D y, D z], true) else ([], false))
    cases ((((x * y, true) : Int × Bool)).2 && z == (((x * y, true) : Int × Bool)).1) <;> rfl
  · rw [if_pos (by simp), show dom_Dom_Size.f (rd_T61 ([x, y, z].map D) 0).f0 (rd_T61 ([x, y, z].map D) 0).f1 (rd_T61 ([x, y, z].map D) 0).f2 (rd_T61 ([x, y, z].map D) 0).f3 (rd_T61 ([x, y, z].map D) 0).f4 = some 1 from rfl, Option.bind_some, if_pos (by simp), show dom_Dom_Size.f (rd_T61 ([x, y, z].map D) 1).f0 (rd_T61 ([x, y, z].map D) 1).f1 (rd_T61 ([x, y, z].map D) 1).f2 (rd_T61 ([x, y, z].map D) 1).f3 (rd_T61 ([x, y, z].map D) 1).f4 = some 1 from rfl, Option.bind_some, w1, if_neg (by decide), if_pos rfl, if_pos (by simp)]
    show (prop_Pairs_at_num_Quo.f k (offv x) [bitv x] x x 1 (offv y) [bitv y] y y 1 (offv z) [bitv z] z z 1).bind _ = _
    rw [pairs_Quo hx hy hz hk, Option.bind_some]
    show some (_, _) = some (if ((quo x y).2 && z == (quo x y).1) = true then ([D x, D y, D z], true) else ([], false))
    cases ((quo x y).2 && z == (quo x y).1) <;> rfl
  · rw [if_pos (by simp), show dom_Dom_Size.f (rd_T61 ([x, y, z].map D) 0).f0 (rd_T61 ([x, y, z].map D) 0).f1 (rd_T61 ([x, y, z].map D) 0).f2 (rd_T61 ([x, y, z].map D) 0).f3 (rd_T61 ([x, y, z].map D) 0).f4 = some 1 from rfl, Option.bind_some, if_pos (by simp), show dom_Dom_Size.f (rd_T61 ([x, y, z].map D) 1).f0 (rd_T61 ([x, y, z].map D) 1).f1 (rd_T61 ([x, y, z].map D) 1).f2 (rd_T61 ([x, y, z].map D) 1).f3 (rd_T61 ([x, y, z].map D) 1).f4 = some 1 from rfl, Option.bind_some, w1, if_neg (by decide), if_neg (by decide), if_pos rfl, if_pos (by simp)]
    show (prop_Pairs_at_num_Rem.f k (offv x) [bitv x] x x 1 (offv y) [bitv y] y y 1 (offv z) [bitv z] z z 1).bind _ = _
    rw [pairs_Rem hx hy hz hk, Option.bind_some]
    show some (_, _) = some (if ((rmd x y).2 && z == (rmd x y).1) = true then ([D x, D y, D z], true) else ([], false))
    cases ((rmd x y).2 && z == (rmd x y).1) <;> rfl
theorem holds_f (kd : Int) (n : Nat) (hd : Kind kd n) (vs : List Int) (hv : vs.length = n) (hs : ∀ v ∈ vs, Small v) {k : Nat} (hk : 5 ≤ k) : jigsawref09_Holds.f k kd (iota 0 n) [] [] [] [] 0 [] vs = some (fit kd vs) := by
  have hn3 : n = 3 := by unfold Kind at hd; omega
  subst hn3
  obtain ⟨x, y, z, rfl⟩ := three hv
  have hx := hs x (by simp)
  have hy := hs y (by simp)
  rcases hd with ⟨rfl, _⟩ | ⟨rfl, _⟩ | ⟨rfl, _⟩
  · exact holds5 z hx hy k
  · exact holds6 z hx hy hk
  · exact holds7 z hx hy hk
/-- The law's own loop: the values, and then the end. -/
theorem law_l0 (kd : Int) (p l2 : List Int) (h2 : ∀ x ∈ l2, Small x) (n : Nat) (hd : Kind kd n) (hp : Places n p) : ∀ (m j k : Nat) (vs : List Int), n = j + m → m + 500 < k → vs.length = j → (∀ v ∈ vs, Small v) →
    jigsawlaw11_MulFixed.l0 k l2 (vs.map fun v => [v]) vs (n : Int) (j : Int) kd p [] [] [] [] 0 [] kd (iota 0 n) [] [] [] [] 0 [] = some true
  | 0, j, k + 1, vs, e, hk, hl, hs => by
    have hn : n ≤ 4 := by unfold Kind at hd; omega
    rw [jigsawlaw11_MulFixed.l0, if_neg (nge (by omega)), doms_f vs hs (by omega) (by omega), Option.bind_some, filter_f kd n hd p vs hp (by omega) hs (by omega), Option.bind_some, wakes_true (by omega), Option.bind_some, if_pos rfl, holds_f kd n hd vs (by omega) hs (by omega), Option.bind_some]
    cases fit kd vs with
    | false => rfl
    | true =>
      show (if ((true : Bool) == true) = true then (if (true : Bool) = true then (jigsawlaw11_lists.f k (vs.map D)).bind _ else some true) else none) = some true
      rw [if_pos (show ((true : Bool) == true) = true from rfl), if_pos rfl, lists_f vs hs (by omega) (by omega), Option.bind_some, same_f vs (by omega) (by omega), Option.bind_some]
  | m + 1, j, k + 1, vs, e, hk, hl, hs => by
    have hn : n ≤ 4 := by unfold Kind at hd; omega
    have step : ∀ v, Small v → jigsawlaw11_MulFixed.l0 k l2 ((vs.map fun v => [v]) ++ [[v]]) (vs ++ [v]) (n : Int) (wrap64 ((j : Int) + 1)) kd p [] [] [] [] 0 [] kd (iota 0 n) [] [] [] [] 0 [] = some true := by
      intro v hv
      have h := law_l0 kd p l2 h2 n hd hp m (j + 1) k (vs ++ [v]) (by omega) (by omega) (by simp [hl]) (fun x hx => by
        rcases List.mem_append.1 hx with h | h
        · exact hs x h
        · rw [List.mem_singleton] at h; rw [h]; exact hv)
      rw [wrap_succ (by omega)]
      rw [List.map_append] at h
      exact h
    rw [jigsawlaw11_MulFixed.l0, if_pos (nlt (by omega))]
    by_cases hx : j < l2.length
    · have hv := h2 (l2.getD j 0) (by rw [getD_lt _ _ hx]; exact List.getElem_mem _)
      have e1 : wrap64 (rd l2 (j : Int)) = l2.getD j 0 := by rw [rd_at]; unfold Small at hv; exact wrap_id (by omega) (by omega)
      rw [if_pos (nlt hx), if_pos (by omega), if_pos (by simp; omega), if_pos (by omega), e1]
      exact step _ hv
    · have e1 : wrap64 (1 + (j : Int)) = 1 + (j : Int) := wrap_id (by omega) (by omega)
      rw [if_neg (nge hx), if_pos (by simp; omega), if_pos (by omega), e1]
      exact step _ ⟨by omega, by omega⟩
theorem wf_u8 {x : Int} (h : (Lit.int .u8 x).wf = true) : 0 ≤ x ∧ x ≤ 255 := by
  simp only [Lit.wf, IntKind.min, IntKind.max, IntKind.signed, IntKind.bits, Bool.and_eq_true] at h
  simp at h
  omega
theorem wf_i8 {x : Int} (h : (Lit.int .i8 x).wf = true) : Small x := by
  simp only [Lit.wf, IntKind.min, IntKind.max, IntKind.signed, IntKind.bits, Bool.and_eq_true] at h
  simp at h
  exact ⟨by omega, by omega⟩
theorem kind_f (a1 : Int) (h : 0 ≤ a1 ∧ a1 ≤ 255) : ∃ kd n, Kind kd n ∧ jigsawlaw11_kind.f a1 = some kd := by
  have e1 : Int.tmod a1 3 = a1 % 3 := Int.tmod_eq_emod_of_nonneg (by omega)
  have e2 : wrap64 (Int.tmod a1 3) = a1 % 3 := by rw [e1]; exact wrap_id (by omega) (by omega)
  have e3 : wrap64 (5 + a1 % 3) = 5 + a1 % 3 := wrap_id (by omega) (by omega)
  refine ⟨5 + a1 % 3, 3, ?_, by unfold jigsawlaw11_kind.f; rw [e2, e3]⟩
  unfold Kind
  omega
/-- THE PLAIN LAW: whatever the input, the answer is true. -/
theorem mulFixed (a0 : Int) (l1 l3 l4 : List Int) (a4 a5 a1 : Int) (l2 : List Int) (_ : (Lit.int .u8 a0).wf = true) (hw1 : ∀ x ∈ l1, (Lit.int .u8 x).wf = true) (_ : ∀ x ∈ l3, (Lit.int .u8 x).wf = true) (_ : ∀ x ∈ l4, (Lit.int .i8 x).wf = true) (_ : (Lit.int .i16 a4).wf = true) (_ : (Lit.int .u8 a5).wf = true) (hwa : (Lit.int .u8 a1).wf = true) (hw2 : ∀ x ∈ l2, (Lit.int .i8 x).wf = true) :
    ∃ k, jigsawlaw11_MulFixed.f k a0 l1 l3 l4 a4 a5 a1 l2 = some true := by
  refine ⟨1000, ?_⟩
  obtain ⟨kd, n, hd, hk⟩ := kind_f a1 (wf_u8 hwa)
  obtain ⟨p, hp, hm⟩ := make_f kd n hd l1 l3 l4 a4 a5 (fun x hx => wf_u8 (hw1 x hx)) (k := 1000) (by decide)
  have hn : n ≤ 4 := by unfold Kind at hd; omega
  have hs : wrap64 ((n : Int) + (([] : List Int).length : Int)) = (n : Int) := by rw [wrap_id (by simp <;> omega) (by simp <;> omega)]; simp
  unfold jigsawlaw11_MulFixed.f
  rw [hk, Option.bind_some, hm, Option.bind_some]
  show (jigsawref10_Local.f 1000 kd p [] [] [] [] 0 []).bind _ = _
  rw [local_f kd p n hp.1 hn (by decide), Option.bind_some]
  show jigsawlaw11_MulFixed.l0 1000 l2 [] [] (wrap64 ((p.length : Int) + (([] : List Int).length : Int))) 0 kd p [] [] [] [] 0 [] kd (iota 0 n) [] [] [] [] 0 [] = some true
  rw [hp.1, hs]
  exact law_l0 kd p l2 (fun x hx => wf_i8 (hw2 x hx)) n hd hp n 0 1000 [] (by omega) (by omega) rfl (fun v hv => by simp at hv)
end Go.Proofs.YtbhhbgoamomacaaGreatDoor.Pure
