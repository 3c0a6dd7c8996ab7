/- The plain law of AllDiffFixed: what the walk computes answers true, for every input. -/
import Derived.Test.YtckfbfdnlpnllaaGreatDoorXAFxx15
namespace Go.Proofs.YtckfbfdnlpnllaaGreatDoor.Pure
open Go.RowKit Go.Proofs.YtckfbfdnlpnllaaGreatDoor.XAllDiffFixed Go.Proofs.YtckfbfdnlpnllaaGreatDoorW.PrintWords Go.Proofs.YtckfbfdnlpnllaaGreatDoorW.PrintLast Go.Proofs.YtckfbfdnlpnllaaGreatDoorW.PrintMore Go.Proofs.YtckfbfdnlpnllaaGreatDoor.Ad
set_option linter.unusedVariables false
theorem wrap_id {n : Int} (h : -9223372036854775808 ≤ n) (h2 : n ≤ 9223372036854775807) : wrap64 n = n := by unfold wrap64; omega
theorem wrap_succ {j : Nat} (h : j ≤ 1000) : wrap64 ((j : Int) + 1) = ((j + 1 : Nat) : Int) := by rw [wrap_id (by omega) (by omega)]; omega
theorem up {α : Type} {f : Nat → Option α} (hm : ∀ k, LeO (f k) (f (k + 1))) {k : Nat} {r : α} (h : f k = some r) : ∀ {k'}, k ≤ k' → f k' = some r := by
  intro k' hk
  induction hk with
  | refl => exact h
  | step _ ih => exact hm _ _ ih
/-- A number of 8 bits. -/
def Small (v : Int) : Prop := -128 ≤ v ∧ v ≤ 127
def offv (v : Int) : Int := Go.bits .andNot .i64 v 63
def bitv (v : Int) : Int := shl .u64 1 (v - offv v)
/-- The domain of one number. -/
def D (v : Int) : S57 := ⟨offv v, [bitv v], v, v, 1⟩
theorem by_fin {P : Int → Prop} (h : ∀ i : Fin 256, P ((i.val : Int) - 128)) {v : Int} (hv : Small v) : P v := by
  unfold Small at hv
  have := h ⟨(v + 128).toNat, by omega⟩
  simp only [] at this
  rwa [show (((v + 128).toNat : Nat) : Int) - 128 = v by omega] at this
instance dq3 : DecidableEq (Int × Int × Int) := inferInstance
instance dq4 : DecidableEq (Int × Int × Int × Int) := fun a b => instDecidableEqProd a b
instance dq5 : DecidableEq (List Int × Int × Int × Int × Int) := fun a b => instDecidableEqProd a b
instance dq6 : DecidableEq (Int × List Int × Int × Int × Int × Int) := fun a b => instDecidableEqProd a b
theorem of_all : ∀ i : Fin 256, dom_Of.f 10 [(i.val : Int) - 128] = some (offv ((i.val : Int) - 128), [bitv ((i.val : Int) - 128)], (i.val : Int) - 128, (i.val : Int) - 128, 1, 0) := by decide +kernel
theorem list_all : ∀ i : Fin 256, dom_Dom_List.f 10 (offv ((i.val : Int) - 128)) [bitv ((i.val : Int) - 128)] ((i.val : Int) - 128) ((i.val : Int) - 128) 1 = some [(i.val : Int) - 128] := by decide +kernel
theorem each_all : ∀ i : Fin 256, eachF 10 (D ((i.val : Int) - 128)) 10 ((i.val : Int) - 128) = some [(i.val : Int) - 128] := by decide +kernel
theorem of_one {v : Int} (hv : Small v) {k : Nat} (hk : 10 ≤ k) : dom_Of.f k [v] = some (offv v, [bitv v], v, v, 1, 0) :=
  up (f := fun k => dom_Of.f k [v]) (dom_Of.mono [v]) (by_fin (P := fun v => dom_Of.f 10 [v] = some (offv v, [bitv v], v, v, 1, 0)) of_all hv) hk
theorem list_one {v : Int} (hv : Small v) {k : Nat} (hk : 10 ≤ k) : dom_Dom_List.f k (offv v) [bitv v] v v 1 = some [v] :=
  up (f := fun k => dom_Dom_List.f k (offv v) [bitv v] v v 1) (dom_Dom_List.mono _ _ _ _ _) (by_fin (P := fun v => dom_Dom_List.f 10 (offv v) [bitv v] v v 1 = some [v]) list_all hv) hk
theorem wakes_true {k : Nat} (hk : 60 ≤ k) : jigsawlaw16_wakes.f k = some true :=
  up (f := fun k => jigsawlaw16_wakes.f k) jigsawlaw16_wakes.mono (by decide +kernel) hk
theorem rd_at (l : List Int) (j : Nat) : rd l (j : Int) = l.getD j 0 := rfl
theorem rdL_at (l : List (List Int)) (j : Nat) : rd_L3 l (j : Int) = l.getD j [] := rfl
theorem rdD_at (l : List S57) (j : Nat) : rd_T57 l (j : Int) = l.getD j z57 := rfl
theorem getD_lt {α : Type} (l : List α) (z : α) {j : Nat} (h : j < l.length) : l.getD j z = l[j] := by
  rw [List.getD_eq_getElem?_getD, List.getElem?_eq_getElem h]; rfl
theorem getD_map {α β : Type} (f : α → β) (l : List α) (z : α) (y : β) {j : Nat} (h : j < l.length) : (l.map f).getD j y = f (l.getD j z) := by
  rw [getD_lt _ _ (by simpa using h), getD_lt _ _ h]; simp
theorem take_step {α : Type} (l : List α) (z : α) {j : Nat} (h : j < l.length) : l.take j ++ [l.getD j z] = l.take (j + 1) := by
  rw [getD_lt _ _ h]; simp
theorem nlt {a b : Nat} (h : a < b) : (a : Int) < (b : Int) := by omega
theorem nge {a b : Nat} (h : ¬ a < b) : ¬ (a : Int) < (b : Int) := by omega
/-- The places: so many, each below 4, none below 0. -/
def Places (n : Nat) (r : List Int) : Prop := r.length = n ∧ ∀ x ∈ r, 0 ≤ x ∧ x ≤ 3
theorem places_l0 (l : List Int) (hl : ∀ x ∈ l, 0 ≤ x ∧ x ≤ 255) (n : Nat) (hn : n ≤ 4) : ∀ (m j k : Nat) (acc : List Int), n = j + m → m < k → Places j acc → ∃ r, jigsawref06_places.l0 k l (n : Int) 4 acc (j : Int) = some r ∧ Places n r
  | 0, j, k + 1, acc, e, _, ha => by
    obtain rfl : n = j := by omega
    refine ⟨acc, ?_, ha⟩
    rw [jigsawref06_places.l0, if_neg (nge (by omega))]
  | m + 1, j, k + 1, acc, e, hk, ha => by
    have hj : j < n := by omega
    obtain ⟨h1, h2⟩ := ha
    have hlen : acc.length < 17592186044416 := by omega
    by_cases hx : j < l.length
    · have hm := hl (l.getD j 0) (by rw [getD_lt _ _ hx]; exact List.getElem_mem _)
      obtain ⟨r, hr, hp⟩ := places_l0 l hl n hn m (j + 1) k (acc ++ [Int.tmod (wrap64 (rd l (j : Int))) 4]) (by omega) (by omega) ⟨by simp [h1], fun x hx => by
        rcases List.mem_append.1 hx with h | h
        · exact h2 x h
        · rw [List.mem_singleton] at h
          rw [h, rd_at, wrap_id (by omega) (by omega), Int.tmod_eq_emod_of_nonneg (by omega)]
          omega⟩
      refine ⟨r, ?_, hp⟩
      rw [jigsawref06_places.l0, if_pos (nlt hj), if_pos (nlt hx), if_pos (by omega), if_neg (by decide), if_pos hlen, wrap_succ (by omega)]
      exact hr
    · obtain ⟨r, hr, hp⟩ := places_l0 l hl n hn m (j + 1) k (acc ++ [Int.tmod (j : Int) 4]) (by omega) (by omega) ⟨by simp [h1], fun x hx => by
        rcases List.mem_append.1 hx with h | h
        · exact h2 x h
        · rw [List.mem_singleton] at h
          rw [h, Int.tmod_eq_emod_of_nonneg (by omega)]
          omega⟩
      refine ⟨r, ?_, hp⟩
      rw [jigsawref06_places.l0, if_pos (nlt hj), if_neg (nge hx), if_neg (by decide), if_pos hlen, wrap_succ (by omega)]
      exact hr
theorem places_f (l : List Int) (hl : ∀ x ∈ l, 0 ≤ x ∧ x ≤ 255) (n : Nat) (hn : n ≤ 4) {k : Nat} (hk : 5 ≤ k) : ∃ r, jigsawref06_places.f k l (n : Int) 4 = some r ∧ Places n r :=
  places_l0 l hl n hn n 0 k [] (by omega) (by omega) ⟨rfl, fun x hx => by simp at hx⟩
theorem has_f {s : ByteArray} {c r : Int} (h : jigsawref06_has.f 6 s c = some r) {k : Nat} (hk : 6 ≤ k) : jigsawref06_has.f k s c = some r :=
  up (f := fun k => jigsawref06_has.f k s c) (jigsawref06_has.mono _ _) h hk
theorem make_f (l1 l2 l3 : List Int) (a4 a5 : Int) (h1 : ∀ x ∈ l1, 0 ≤ x ∧ x ≤ 255) {k : Nat} (hk : 20 ≤ k) :
    ∃ (n : Nat) (p : List Int), 1 ≤ n ∧ n ≤ 4 ∧ Places n p ∧ jigsawref06_Make.f k 16 l1 l2 l3 a4 a5 4 = some (17, p, [], [], [], [], 0, []) := by
  have hw : wrap64 (1 + Int.tmod (wrap64 16) 23) = 17 := by decide +kernel
  have hs : jigsawref06_Shapes.f = some ((jigsawref06_Shapes.f).getD []) := by rfl
  have hlen : ((jigsawref06_Shapes.f).getD []).length = 24 := by decide +kernel
  have hvw : rdOf ByteArray.empty ((jigsawref06_Shapes.f).getD []) 17 = (⟨#[86]⟩ : ByteArray) := by rfl
  have key : ∀ n : Nat, n ≤ 4 → ∀ k, 10 ≤ k → ∃ p, Places n p ∧ jigsawref06_Make.j1 k 4 (⟨#[86]⟩ : ByteArray) (n : Int) 16 l1 l2 l3 a4 a5 17 0 = some (17, p, [], [], [], [], 0, []) := by
    intro n hn k hk
    obtain ⟨k, rfl⟩ : ∃ k', k = k' + 1 := ⟨k - 1, by omega⟩
    obtain ⟨p, hp, hpp⟩ := places_f l1 h1 n hn (k := k) (by omega)
    refine ⟨p, hpp, ?_⟩
    rw [jigsawref06_Make.j1, has_f (r := 0) (by decide +kernel) (by omega), Option.bind_some, if_neg (by decide), hp, Option.bind_some, has_f (r := 0) (by decide +kernel) (by omega), Option.bind_some, if_neg (by decide), has_f (r := 0) (by decide +kernel) (by omega), Option.bind_some, if_neg (by decide), has_f (r := 0) (by decide +kernel) (by omega), Option.bind_some, if_neg (by decide), if_neg (by decide), has_f (r := 0) (by decide +kernel) (by omega), Option.bind_some, if_neg (by decide), if_neg (by decide), if_neg (by decide), if_neg (by decide)]
  have key0 : ∀ n : Nat, 1 ≤ n → ∃ (m : Nat) (p : List Int), 1 ≤ m ∧ m ≤ 4 ∧ Places m p ∧ jigsawref06_Make.j0 k 4 (⟨#[86]⟩ : ByteArray) (n : Int) 16 l1 l2 l3 a4 a5 17 0 = some (17, p, [], [], [], [], 0, []) := by
    intro n hn
    obtain ⟨k, rfl⟩ : ∃ k', k = k' + 1 := ⟨k - 1, by omega⟩
    by_cases h4 : n ≤ 4
    · obtain ⟨p, hp, e⟩ := key n h4 k (by omega)
      exact ⟨n, p, hn, h4, hp, by rw [jigsawref06_Make.j0, if_neg (by omega)]; exact e⟩
    · obtain ⟨p, hp, e⟩ := key 4 (by decide) k (by omega)
      exact ⟨4, p, by decide, by decide, hp, by rw [jigsawref06_Make.j0, if_pos (by omega)]; exact e⟩
  unfold jigsawref06_Make.f
  rw [hs, Option.bind_some, hw, hlen, if_pos (by decide), if_pos (by decide), hvw]
  by_cases h0 : l1.length < 1
  · rw [if_pos (by omega)]
    exact key0 1 (by decide)
  · rw [if_neg (by omega)]
    exact key0 l1.length (by omega)
/-- So many numbers from a first one on. -/
def iota (a n : Nat) : List Int := (List.range n).map fun i => ((a + i : Nat) : Int)
theorem iota_len (a n : Nat) : (iota a n).length = n := by simp [iota]
theorem iota_at (a n j : Nat) (h : j < n) : (iota a n).getD j 0 = ((a + j : Nat) : Int) := by
  rw [getD_lt _ _ (by rw [iota_len]; exact h)]; simp [iota]
theorem iota_succ (a n : Nat) : iota a n ++ [((a + n : Nat) : Int)] = iota a (n + 1) := by simp [iota, List.range_succ]
theorem local_l0 (kd : Int) (p : List Int) (n : Nat) (hp : p.length = n) (hn : n ≤ 4) : ∀ (m j k : Nat), n = j + m → m + 2 < k →
    jigsawref10_Local.l0 k (j : Int) kd p [] [] [] [] 0 [] kd (iota 0 j) [] [] [] 0 [] = some (kd, iota 0 n, [], [], [], [], 0, [])
  | 0, j, k + 1, e, hk => by
    obtain rfl : n = j := by omega
    obtain ⟨k, rfl⟩ : ∃ k', k = k' + 1 := ⟨k - 1, by omega⟩
    rw [jigsawref10_Local.l0, hp, if_neg (nge (by omega)), jigsawref10_Local.l1, if_neg (by decide)]
  | m + 1, j, k + 1, e, hk => by
    have h := iota_succ 0 j
    rw [Nat.zero_add] at h
    rw [jigsawref10_Local.l0, hp, if_pos (nlt (by omega)), if_pos (by rw [iota_len]; omega), wrap_succ (by omega), h]
    exact local_l0 kd p n hp hn m (j + 1) k (by omega) (by omega)
theorem local_f (kd : Int) (p : List Int) (n : Nat) (hp : p.length = n) (hn : n ≤ 4) {k : Nat} (hk : 11 ≤ k) :
    jigsawref10_Local.f k kd p [] [] [] [] 0 [] = some (kd, iota 0 n, [], [], [], [], 0, []) :=
  local_l0 kd p n hp hn n 0 k (by omega) (by omega)
theorem doms_l0 (vs : List Int) (hs : ∀ v ∈ vs, Small v) (hl : vs.length ≤ 100) : ∀ (m j k : Nat), vs.length = j + m → m + 11 < k →
    jigsawlaw16_doms.l0 k ((vs.take j).map D) (vs.map fun v => [v]) (vs.length : Int) (j : Int) = some (vs.map D)
  | 0, j, k + 1, e, _ => by
    rw [jigsawlaw16_doms.l0, if_neg (nge (by omega)), List.take_of_length_le (by omega)]
  | m + 1, j, k + 1, e, hk => by
    have hj : j < vs.length := by omega
    have hv := hs (vs.getD j 0) (by rw [getD_lt _ _ hj]; exact List.getElem_mem _)
    rw [jigsawlaw16_doms.l0, if_pos (nlt hj), if_pos (by omega), if_pos (by rw [List.length_map]; exact nlt hj), rdL_at, getD_map (fun v => [v]) vs 0 [] hj, of_one hv (by omega), Option.bind_some, if_pos (by simp; omega), wrap_succ (by omega)]
    have h := doms_l0 vs hs hl m (j + 1) k (by omega) (by omega)
    rw [← take_step vs 0 hj, List.map_append] at h
    exact h
theorem doms_f (vs : List Int) (hs : ∀ v ∈ vs, Small v) (hl : vs.length ≤ 100) {k : Nat} (hk : 200 ≤ k) : jigsawlaw16_doms.f k (vs.map fun v => [v]) = some (vs.map D) := by
  have h := doms_l0 vs hs hl vs.length 0 k (by omega) (by omega)
  unfold jigsawlaw16_doms.f
  rw [List.length_map]
  exact h
theorem lists_l0 (vs : List Int) (hs : ∀ v ∈ vs, Small v) (hl : vs.length ≤ 100) : ∀ (m j k : Nat), vs.length = j + m → m + 11 < k →
    jigsawlaw16_lists.l0 k ((vs.take j).map fun v => [v]) (vs.map D) (vs.length : Int) (j : Int) = some (vs.map fun v => [v])
  | 0, j, k + 1, e, _ => by
    rw [jigsawlaw16_lists.l0, if_neg (nge (by omega)), List.take_of_length_le (by omega)]
  | m + 1, j, k + 1, e, hk => by
    have hj : j < vs.length := by omega
    have hv := hs (vs.getD j 0) (by rw [getD_lt _ _ hj]; exact List.getElem_mem _)
    rw [jigsawlaw16_lists.l0, if_pos (nlt hj), if_pos (by omega), if_pos (by rw [List.length_map]; exact nlt hj), rdD_at, getD_map D vs 0 z57 hj]
    show (dom_Dom_List.f k (offv (vs.getD j 0)) [bitv (vs.getD j 0)] (vs.getD j 0) (vs.getD j 0) 1).bind _ = _
    rw [list_one hv (by omega), Option.bind_some, if_pos (by simp; omega), wrap_succ (by omega)]
    have h := lists_l0 vs hs hl m (j + 1) k (by omega) (by omega)
    rw [← take_step vs 0 hj, List.map_append] at h
    exact h
theorem lists_f (vs : List Int) (hs : ∀ v ∈ vs, Small v) (hl : vs.length ≤ 100) {k : Nat} (hk : 200 ≤ k) : jigsawlaw16_lists.f k (vs.map D) = some (vs.map fun v => [v]) := by
  have h := lists_l0 vs hs hl vs.length 0 k (by omega) (by omega)
  unfold jigsawlaw16_lists.f
  rw [List.length_map]
  exact h
theorem same_l0 (vs : List Int) (hl : vs.length ≤ 100) : ∀ (m j k : Nat), vs.length = j + m → 3 * m < k →
    jigsawref10_Same.l0 k (vs.map fun v => [v]) (vs.map fun v => [v]) (j : Int) = some true
  | 0, j, k + 1, e, _ => by
    rw [jigsawref10_Same.l0, List.length_map, if_neg (nge (by omega))]
  | m + 1, j, k + 1, e, hk => by
    have hj : j < vs.length := by omega
    obtain ⟨k, rfl⟩ : ∃ k', k = k' + 2 := ⟨k - 2, by omega⟩
    have hr : rd_L3 (vs.map fun v => [v]) (j : Int) = [vs.getD j 0] := by rw [rdL_at, getD_map (fun v => [v]) vs 0 [] hj]
    rw [jigsawref10_Same.l0, List.length_map, if_pos (nlt hj), if_pos (by omega), if_pos rfl]
    rw [jigsawref10_Same.l1, if_pos (by omega), List.length_map, if_pos (nlt hj), hr, if_pos (show (0 : Int) < (([vs.getD j 0] : List Int).length : Int) by simp), if_pos (show (0 : Int) ≤ 0 by decide), if_pos (nlt hj), if_pos (show (0 : Int) < (([vs.getD j 0] : List Int).length : Int) by simp), if_pos rfl]
    rw [jigsawref10_Same.l1, if_pos (by omega), List.length_map, if_pos (nlt hj), hr, if_neg (show ¬ wrap64 (0 + 1) < (([vs.getD j 0] : List Int).length : Int) by simp [wrap64]), wrap_succ (by omega)]
    exact same_l0 vs hl m (j + 1) k (by omega) (by omega)
theorem same_f (vs : List Int) (hl : vs.length ≤ 100) {k : Nat} (hk : 400 ≤ k) : jigsawref10_Same.f k (vs.map fun v => [v]) (vs.map fun v => [v]) = some true := by
  unfold jigsawref10_Same.f
  rw [if_pos rfl]
  exact same_l0 vs hl vs.length 0 k (by omega) (by omega)
/-- No two are alike. -/
def Unlike (vs : List Int) : Prop := ∀ i j : Nat, i < vs.length → j < i → vs.getD i 0 ≠ vs.getD j 0
theorem rd_iota (n j : Nat) (h : j < n) : rd (iota 0 n) (j : Int) = (j : Int) := by rw [rd_at, iota_at 0 n j h, Nat.zero_add]
theorem holds_l1 (vs : List Int) (n : Nat) (hv : vs.length = n) (hn : n ≤ 100) (i : Nat) (hi : i < n) : ∀ (m j k : Nat), i = j + m → m < k → (∀ b, b < j → vs.getD i 0 ≠ vs.getD b 0) →
    (jigsawref09_Holds.l1 k vs (i : Int) (j : Int) 17 (iota 0 n) [] [] [] [] 0 [] = some false ∧ ¬ Unlike vs) ∨
    ∃ k', k' + m + 1 = k ∧ jigsawref09_Holds.l1 k vs (i : Int) (j : Int) 17 (iota 0 n) [] [] [] [] 0 [] = jigsawref09_Holds.l0 k' vs ((i + 1 : Nat) : Int) 17 (iota 0 n) [] [] [] [] 0 [] ∧ ∀ b, b < i → vs.getD i 0 ≠ vs.getD b 0
  | 0, j, k + 1, e, hk, h => by
    obtain rfl : i = j := by omega
    refine .inr ⟨k, rfl, ?_, h⟩
    rw [jigsawref09_Holds.l1, if_neg (nge (by omega)), wrap_succ (by omega)]
  | m + 1, j, k + 1, e, hk, h => by
    have hj : j < n := by omega
    rw [jigsawref09_Holds.l1, if_pos (nlt (by omega)), if_pos (by omega), iota_len, if_pos (nlt hi), rd_iota n i hi, if_pos (by omega), if_pos (by omega), if_pos (by omega), if_pos (nlt hj), rd_iota n j hj, if_pos (by omega), if_pos (by omega), rd_at, rd_at, wrap_succ (by omega)]
    by_cases c : vs.getD i 0 = vs.getD j 0
    · rw [if_pos c]
      exact .inl ⟨rfl, fun u => u i j (by omega) (by omega) c⟩
    · rw [if_neg c]
      rcases holds_l1 vs n hv hn i hi m (j + 1) k (by omega) (by omega) (fun b hb => by
        by_cases e2 : b = j
        · rw [e2]; exact c
        · exact h b (by omega)) with r | ⟨k', r1, r2, r3⟩
      · exact .inl r
      · exact .inr ⟨k', by omega, r2, r3⟩
theorem holds_l0 (vs : List Int) (n : Nat) (hv : vs.length = n) (hn : n ≤ 4) : ∀ (m i k : Nat), n = i + m → 6 * m + 6 < k → (∀ a b, a < i → b < a → vs.getD a 0 ≠ vs.getD b 0) →
    ∃ b : Bool, (b = true ↔ Unlike vs) ∧ jigsawref09_Holds.l0 k vs (i : Int) 17 (iota 0 n) [] [] [] [] 0 [] = some b
  | 0, i, k + 1, e, hk, h => by
    refine ⟨true, ⟨fun _ a b ha hb => h a b (by omega) hb, fun _ => rfl⟩, ?_⟩
    rw [jigsawref09_Holds.l0, iota_len, if_neg (nge (by omega))]
  | m + 1, i, k + 1, e, hk, h => by
    rw [jigsawref09_Holds.l0, iota_len, if_pos (nlt (by omega))]
    rcases holds_l1 vs n hv (by omega) i (by omega) i 0 k (by omega) (by omega) (fun b hb => absurd hb (Nat.not_lt_zero _)) with ⟨r1, r2⟩ | ⟨k', r1, r2, r3⟩
    · exact ⟨false, ⟨fun h => absurd h (by decide), fun u => absurd u r2⟩, r1⟩
    · have r2' : jigsawref09_Holds.l1 k vs (i : Int) 0 17 (iota 0 n) [] [] [] [] 0 [] = _ := r2
      rw [r2']
      exact holds_l0 vs n hv hn m (i + 1) k' (by omega) (by omega) (fun a b ha hb => by
        by_cases e2 : a = i
        · rw [e2]; exact r3 b (by omega)
        · exact h a b (by omega) hb)
theorem holds_f (vs : List Int) (n : Nat) (hv : vs.length = n) (hn : n ≤ 4) {k : Nat} (hk : 31 ≤ k) : ∃ b : Bool, (b = true ↔ Unlike vs) ∧ jigsawref09_Holds.f k 17 (iota 0 n) [] [] [] [] 0 [] vs = some b := by
  obtain ⟨b, h1, h2⟩ := holds_l0 vs n hv hn n 0 k (by omega) (by omega) (fun a b ha => absurd ha (Nat.not_lt_zero _))
  refine ⟨b, h1, ?_⟩
  unfold jigsawref09_Holds.f
  rw [if_neg (by decide), if_neg (by decide), if_neg (by decide), if_pos rfl]
  exact h2
theorem made_f (vs : List Int) (hs : ∀ v ∈ vs, Small v) (hl : vs.length ≤ 100) : ∀ (m j k : Nat), vs.length = j + m → m + 11 < k →
    prop_Made.l0 k ((vs.take j).map D) (vs.map fun v => [v]) (vs.length : Int) (j : Int) = some (vs.map D, true)
  | 0, j, k + 1, e, _ => by
    rw [prop_Made.l0, if_neg (nge (by omega)), List.take_of_length_le (by omega)]
  | m + 1, j, k + 1, e, hk => by
    have hj : j < vs.length := by omega
    have hv := hs (vs.getD j 0) (by rw [getD_lt _ _ hj]; exact List.getElem_mem _)
    rw [prop_Made.l0, if_pos (nlt hj), if_pos (by omega), if_pos (by rw [List.length_map]; exact nlt hj), rdL_at, getD_map (fun v => [v]) vs 0 [] hj, of_one hv (by omega), Option.bind_some, if_pos rfl, if_pos (by simp; omega), wrap_succ (by omega)]
    have h := made_f vs hs hl m (j + 1) k (by omega) (by omega)
    rw [← take_step vs 0 hj, List.map_append] at h
    exact h
theorem made_some (vs : List Int) (hs : ∀ v ∈ vs, Small v) (hl : vs.length ≤ 100) {k : Nat} (hk : 200 ≤ k) : prop_Made.f k (vs.map fun v => [v]) = some (vs.map D, true) := by
  have h := made_f vs hs hl vs.length 0 k (by omega) (by omega)
  unfold prop_Made.f
  rw [List.length_map]
  exact h
/-- The parts of what may be. -/
theorem idx_fits (vs : List Int) (hl : vs.length ≤ 100) : ∀ (m j k : Nat), vs.length = j + m → m < k → dom_Dom_73_at_prop_Fits_1.l0 k (vs.map D) (vs.length : Int) (j : Int) = some (-1)
  | 0, j, k + 1, e, _ => by rw [dom_Dom_73_at_prop_Fits_1.l0, if_neg (nge (by omega))]
  | m + 1, j, k + 1, e, hk => by
    have hj : j < vs.length := by omega
    rw [dom_Dom_73_at_prop_Fits_1.l0, if_pos (nlt hj), if_pos (by omega), List.length_map, if_pos (nlt hj), rdD_at, getD_map D vs 0 z57 hj]
    show (prop_Fits_1.f (offv (vs.getD j 0)) [bitv (vs.getD j 0)] (vs.getD j 0) (vs.getD j 0) 1).bind _ = _
    rw [show prop_Fits_1.f (offv (vs.getD j 0)) [bitv (vs.getD j 0)] (vs.getD j 0) (vs.getD j 0) 1 = some false from rfl, Option.bind_some, if_neg (by decide), wrap_succ (by omega)]
    exact idx_fits vs hl m (j + 1) k (by omega) (by omega)
theorem idx_right (l : List Int) (hp : ∀ x ∈ l, 0 ≤ x ∧ x ≤ 3) (hl : l.length ≤ 100) : ∀ (m j k : Nat), l.length = j + m → m < k → slices_IndexFunc_int_int_83_at_model_Right_1.l0 k l (l.length : Int) (j : Int) 256 = some (-1)
  | 0, j, k + 1, e, _ => by rw [slices_IndexFunc_int_int_83_at_model_Right_1.l0, if_neg (nge (by omega))]
  | m + 1, j, k + 1, e, hk => by
    have hj : j < l.length := by omega
    have hv := hp (l.getD j 0) (by rw [getD_lt _ _ hj]; exact List.getElem_mem _)
    rw [slices_IndexFunc_int_int_83_at_model_Right_1.l0, if_pos (nlt hj), if_pos (by omega), if_pos (nlt hj), rd_at]
    have hf : model_Right_1.f (l.getD j 0) 256 = some false := by
      unfold model_Right_1.f
      rw [if_neg (by omega), decide_eq_false (by omega)]
    rw [hf, Option.bind_some, if_neg (by decide), wrap_succ (by omega)]
    exact idx_right l hp hl m (j + 1) k (by omega) (by omega)
theorem vars_f (kd : Int) (p : List Int) (n : Nat) (hp : p.length = n) (hn : n ≤ 4) {k : Nat} (hk : 20 ≤ k) : model_Vars.f k kd p [] [] [] [] 0 [] = some p := by
  obtain ⟨k, rfl⟩ : ∃ k', k = k' + 6 := ⟨k - 6, by omega⟩
  have r0 : rd_L3 [p, []] 0 = p := rfl
  have r1 : rd_L3 [p, []] 1 = [] := rfl
  have e1 : wrap64 (0 + (n : Int)) = (n : Int) := by rw [wrap_id (by omega) (by omega)]; omega
  have e2 : wrap64 ((n : Int) + (([] : List Int).length : Int)) = (n : Int) := by rw [wrap_id (by simp <;> omega) (by simp <;> omega)]; simp
  have w1 : wrap64 (0 + 1) = 1 := by decide +kernel
  have w2 : wrap64 (1 + 1) = 2 := by decide +kernel
  have hlen : (([p, []] : List (List Int)).length : Int) = 2 := rfl
  unfold model_Vars.f slices_Concat_int_int.f
  rw [hlen, slices_Concat_int_int.l0, if_pos (by decide), if_pos (by decide), hlen, if_pos (by decide), r0, hp, e1, if_neg (by omega), w1, slices_Concat_int_int.l0, if_pos (by decide), if_pos (by decide), hlen, if_pos (by decide), r1, e2, if_neg (by omega), w2, slices_Concat_int_int.l0, if_neg (by decide)]
  have hg : slices_GrowNil.f (n : Int) = some [] := by unfold slices_GrowNil.f; rw [if_pos ⟨by omega, by omega⟩]
  rw [hg, Option.bind_some, hlen, slices_Concat_int_int.l1, if_pos (by decide), if_pos (by decide), hlen, if_pos (by decide), r0, if_pos (by simp [hp]; omega), w1, slices_Concat_int_int.l1, if_pos (by decide), if_pos (by decide), hlen, if_pos (by decide), r1, if_pos (by simp [hp]; omega), w2, slices_Concat_int_int.l1, if_neg (by decide), Option.bind_some]
  simp
theorem bounded_f {a : Int} {k : Nat} (hk : 5 ≤ k) : model_bounded.f k [] a = some true := by
  obtain ⟨k, rfl⟩ : ∃ k', k = k' + 1 := ⟨k - 1, by omega⟩
  unfold model_bounded.f slices_ContainsFunc_int_int_60_at_model_bounded_1.f slices_IndexFunc_int_int_83_at_model_bounded_1.f
  rw [slices_IndexFunc_int_int_83_at_model_bounded_1.l0, if_neg (by decide), Option.bind_some, Option.bind_some]
  rfl
theorem right_f (p : List Int) (n : Nat) (h1 : 1 ≤ n) (hn : n ≤ 4) (hp : Places n p) {k : Nat} (hk : 30 ≤ k) : model_Right.f k 17 p [] [] [] [] 0 [] 256 = some 0 := by
  have hs : model_Shape.f 17 = some (⟨#[86]⟩ : ByteArray) := by decide +kernel
  have hc : model_counted.f 17 p [] [] [] [] 0 [] (⟨#[86]⟩ : ByteArray) = some true := by
    have e0 : strings_Contains.f (⟨#[86]⟩ : ByteArray) (⟨#[114]⟩ : ByteArray) = some false := by decide +kernel
    have e1 : strings_Contains.f (⟨#[86]⟩ : ByteArray) (⟨#[86]⟩ : ByteArray) = some true := by decide +kernel
    have e2 : model_named.f ((p.length : Nat) : Int) (⟨#[86]⟩ : ByteArray) (⟨#[118]⟩ : ByteArray) (⟨#[86]⟩ : ByteArray) = some true := by
      unfold model_named.f model_within.f
      rw [e1, Option.bind_some, if_pos rfl, hp.1, if_pos (by omega), Option.bind_some, decide_eq_true (by omega)]
    have e3 : model_named.f ((([] : List Int).length : Nat) : Int) (⟨#[86]⟩ : ByteArray) (⟨#[119]⟩ : ByteArray) (⟨#[87]⟩ : ByteArray) = some true := by decide +kernel
    have e4 : model_named.f ((([] : List Int).length : Nat) : Int) (⟨#[86]⟩ : ByteArray) (⟨#[45]⟩ : ByteArray) (⟨#[99]⟩ : ByteArray) = some true := by decide +kernel
    have e5 : model_named.f ((([] : List Int).length : Nat) : Int) (⟨#[86]⟩ : ByteArray) (⟨#[45]⟩ : ByteArray) (⟨#[100]⟩ : ByteArray) = some true := by decide +kernel
    have e6 : model_named.f ((([] : List Int).length : Nat) : Int) (⟨#[86]⟩ : ByteArray) (⟨#[45]⟩ : ByteArray) (⟨#[101]⟩ : ByteArray) = some true := by decide +kernel
    unfold model_counted.f
    rw [if_neg (by decide), e0, Option.bind_some, if_neg (by decide), if_pos (by decide), e2, Option.bind_some, if_pos rfl, e3, Option.bind_some, if_pos rfl, e4, Option.bind_some, if_pos rfl, e5, Option.bind_some, if_pos rfl, e6, Option.bind_some]
  have ha : model_alike.f 17 p [] [] [] [] 0 [] = some true := by
    unfold model_alike.f
    rw [if_neg (by decide), if_neg (by decide), if_neg (by decide), if_neg (by decide), if_neg (by decide), if_neg (by decide), if_neg (by decide), if_neg (by decide), if_neg (by decide)]
  have hi : slices_ContainsFunc_int_int_60_at_model_Right_1.f k p 256 = some false := by
    unfold slices_ContainsFunc_int_int_60_at_model_Right_1.f slices_IndexFunc_int_int_83_at_model_Right_1.f
    have h := idx_right p hp.2 (by rw [hp.1]; omega) p.length 0 k (by omega) (by rw [hp.1]; omega)
    have h' : slices_IndexFunc_int_int_83_at_model_Right_1.l0 k p (p.length : Int) 0 256 = some (-1) := h
    rw [h', Option.bind_some]
    rfl
  have hb : model_numbers.f k 17 p [] [] [] [] 0 [] = some true := by
    obtain ⟨k, rfl⟩ : ∃ k', k = k' + 1 := ⟨k - 1, by omega⟩
    unfold model_numbers.f
    rw [if_neg (by decide), if_neg (by decide), model_numbers.l0, if_neg (by decide), bounded_f (by omega), Option.bind_some, if_pos rfl, Option.bind_some, if_pos rfl, Option.bind_some, if_pos rfl, if_pos (by decide)]
    rfl
  have hn' : model_counts.f 17 p [] [] [] [] 0 [] = some true := by unfold model_counts.f; rw [if_neg (by decide)]
  unfold model_Right.f
  rw [hs, Option.bind_some, if_neg (by decide +kernel), hc, Option.bind_some, if_pos rfl, ha, Option.bind_some, if_pos rfl, if_pos rfl, vars_f 17 p n hp.1 hn (by omega), Option.bind_some, hi, Option.bind_some, if_neg (by decide), hb, Option.bind_some, if_pos rfl, hn', Option.bind_some, if_pos rfl]
theorem fits_f (p vs : List Int) (n : Nat) (h1 : 1 ≤ n) (hn : n ≤ 4) (hp : Places n p) (hv : vs.length = n) {k : Nat} (hk : 30 ≤ k) : prop_Fits.f k 17 p [] [] [] [] 0 [] (vs.map D) 17 17 = some true := by
  have hi : dom_Dom_55_at_prop_Fits_1.f k (vs.map D) = some false := by
    unfold dom_Dom_55_at_prop_Fits_1.f dom_Dom_73_at_prop_Fits_1.f
    have h' : dom_Dom_73_at_prop_Fits_1.l0 k (vs.map D) (((vs.map D).length : Nat) : Int) 0 = some (-1) := by rw [List.length_map]; exact idx_fits vs (by omega) vs.length 0 k (by omega) (by omega)
    rw [h', Option.bind_some]
    rfl
  have hw : wrap64 ((n : Int) + (([] : List Int).length : Int)) = (n : Int) := by rw [wrap_id (by simp <;> omega) (by simp <;> omega)]; simp
  unfold prop_Fits.f
  rw [hi, Option.bind_some, if_pos (by decide), if_pos (by decide), right_f p n h1 hn hp hk, Option.bind_some, if_pos rfl, hp.1, hw, if_pos (by simp [hv])]
  rfl
theorem vals_one {v : Int} (hv : Small v) {k : Nat} (hk : 10 ≤ k) : valsF k (D v) = some [v] := by
  have h := up (f := fun k => eachF k (D v) k (D v).f2) (fun k r h => eachF_mono k _ _ h) (by_fin (P := fun v => eachF 10 (D v) 10 v = some [v]) each_all hv) hk
  unfold valsF
  rw [show dom_Dom_List.f k (D v).f0 (D v).f1 (D v).f2 (D v).f3 (D v).f4 = some [v] from list_one hv hk, Option.bind_some, if_pos ⟨h, by unfold Small at hv; simp; omega⟩]
theorem all_vals {k : Nat} (hk : 10 ≤ k) : ∀ (vs : List Int), (∀ v ∈ vs, Small v) → allVals k (vs.map D) = some (vs.map fun v => [v])
  | [], _ => rfl
  | v :: vs, h => by
    rw [List.map_cons, allVals, vals_one (h v (List.mem_cons_self ..)) hk, Option.bind_some, all_vals hk vs (fun c hc => h c (List.mem_cons_of_mem _ hc)), Option.bind_some]
    rfl
theorem val_at (vs : List Int) (i : Nat) (hi : i < vs.length) : valAt (vs.map fun v => [v]) (i : Int) = [vs.getD i 0] := by
  unfold valAt
  rw [Int.toNat_natCast, getD_map (fun v : Int => [v]) vs 0 [] hi]
theorem sol_one {vs : List Int} (u : Unlike vs) : Sol (valAt (vs.map fun v => [v])) vs.length (fun q => vs.getD q.toNat 0) := by
  refine ⟨fun i h0 h1 => ?_, fun i j i0 i1 j0 j1 e => ?_⟩
  · have h := val_at vs i.toNat (by omega)
    rw [Int.toNat_of_nonneg h0] at h
    rw [h]; exact List.mem_singleton.2 rfl
  · have e' : vs.getD i.toNat 0 = vs.getD j.toNat 0 := e
    rcases Int.lt_trichotomy i j with c | c | c
    · exact absurd e'.symm (u j.toNat i.toNat (by omega) (by omega))
    · exact c
    · exact absurd e' (u i.toNat j.toNat (by omega) (by omega))
theorem one_sol {vs : List Int} {a : Int → Int} (h : Sol (valAt (vs.map fun v => [v])) vs.length a) : (∀ i : Nat, i < vs.length → a i = vs.getD i 0) ∧ Unlike vs := by
  have e : ∀ i : Nat, i < vs.length → a i = vs.getD i 0 := fun i hi => by
    have h1 := h.1 (i : Int) (by omega) (by omega)
    rw [val_at vs i hi] at h1
    exact List.mem_singleton.1 h1
  refine ⟨e, fun i j hi hj c => ?_⟩
  rw [← e i hi, ← e j (by omega)] at c
  have := h.2 (i : Int) (j : Int) (by omega) (by omega) (by omega) (by omega) c
  omega
theorem mem_left {Df : Int → List Int} {n : Nat} {i v : Int} : v ∈ left Df n i ↔ v ∈ Df i ∧ ∃ a, Sol Df n a ∧ a i = v := by
  unfold left
  rw [List.mem_filter]
  simp only [decide_eq_true_eq]
theorem left_one {vs : List Int} (u : Unlike vs) (i : Nat) (hi : i < vs.length) : left (valAt (vs.map fun v => [v])) vs.length (i : Int) = [vs.getD i 0] := by
  have h : vs.getD i 0 ∈ left (valAt (vs.map fun v => [v])) vs.length (i : Int) := mem_left.2 ⟨by rw [val_at vs i hi]; exact List.mem_singleton.2 rfl, _, sol_one u, by show vs.getD ((i : Int)).toNat 0 = _; rw [Int.toNat_natCast]⟩
  unfold left at h ⊢
  rw [val_at vs i hi] at h ⊢
  rw [List.mem_filter] at h
  exact List.filter_eq_self.2 fun x hx => by rw [List.mem_singleton] at hx; rw [hx]; exact h.2
theorem filter_f (p vs : List Int) (n : Nat) (h1 : 1 ≤ n) (hn : n ≤ 4) (hp : Places n p) (hv : vs.length = n) (hs : ∀ v ∈ vs, Small v) {k : Nat} (hk : 300 ≤ k) (b : Bool) (hb : b = true ↔ Unlike vs) :
    alldiff_Filter.f k 17 p [] [] [] [] 0 [] (vs.map D) = some (if b = true then (vs.map D, true) else ([], false)) := by
  obtain ⟨s, t, c, w1, w2, w3⟩ := whole (D := valAt (vs.map fun v => [v])) (n := n) (c := 1) (k := n + 1) (by omega) (fun i h0 h1 => by
    obtain ⟨j, rfl⟩ := Int.eq_ofNat_of_zero_le h0
    have hj : j < vs.length := by omega
    show (valAt (vs.map fun v => [v]) ((j : Nat) : Int)).length ≤ 1
    rw [val_at vs j hj]; simp) (by omega)
  have hlen : (vs.map D).length = n := by simp [hv]
  have hall : (vs.map fun v => [v]).all (fun L => decide (L.length ≤ 1048576)) = true := List.all_eq_true.2 fun L hL => by
    obtain ⟨m, _, rfl⟩ := List.mem_map.1 hL
    exact decide_eq_true (by simp)
  unfold alldiff_Filter.f
  rw [fits_f p vs n h1 hn hp hv (by omega), Option.bind_some, if_pos rfl]
  unfold alldiff_Filter.g
  rw [hlen, if_pos ⟨by omega, by omega⟩, all_vals (by omega) vs hs, Option.bind_some, if_pos hall, w1, Option.bind_some]
  cases c with
  | false =>
    rw [if_neg (fun h => Bool.noConfusion h)]
    have : ¬ Unlike vs := fun u => w2 rfl _ (hv ▸ sol_one u)
    rw [if_neg (fun h => this (hb.1 h))]
  | true =>
    obtain ⟨⟨a, ha⟩, h2⟩ := w3 rfl
    have u : Unlike vs := (one_sol (vs := vs) (a := a) (by rw [hv]; exact ha)).2
    have e : ((List.range n).map fun j : Nat => left (valAt (vs.map fun v => [v])) n (j : Int)) = vs.map fun v => [v] := by
      apply List.ext_getElem (by simp [hv])
      intro i x1 x2
      have hi : i < vs.length := by simpa using x2
      have h := left_one u i hi
      rw [hv] at h
      simp only [List.getElem_map, List.getElem_range]
      rw [h, getD_lt _ _ hi]
    have h2' : filtL (valAt (vs.map fun v => [v])) (n + 1) n 0 [] s t = some ((List.range n).map fun j : Nat => left (valAt (vs.map fun v => [v])) n (j : Int)) := h2
    rw [if_pos rfl, h2', Option.bind_some, e, made_some vs hs (by omega) (by omega), if_pos (hb.2 u)]
/-- The law's own loop: the values, and then the end. -/
theorem law_l0 (p l2 : List Int) (h2 : ∀ x ∈ l2, Small x) (n : Nat) (g1 : 1 ≤ n) (hn : n ≤ 4) (hp : Places n p) : ∀ (m j k : Nat) (vs : List Int), n = j + m → m + 500 < k → vs.length = j → (∀ v ∈ vs, Small v) →
    jigsawlaw16_AllDiffFixed.l0 k l2 (vs.map fun v => [v]) vs (n : Int) (j : Int) 17 p [] [] [] [] 0 [] 17 (iota 0 n) [] [] [] [] 0 [] = some true
  | 0, j, k + 1, vs, e, hk, hl, hs => by
    obtain ⟨b, hb, hh⟩ := holds_f vs n (by omega) hn (k := k) (by omega)
    rw [jigsawlaw16_AllDiffFixed.l0, if_neg (nge (by omega)), doms_f vs hs (by omega) (by omega), Option.bind_some, filter_f p vs n g1 hn hp (by omega) hs (by omega) b hb, Option.bind_some, wakes_true (by omega), Option.bind_some, if_pos rfl, hh, Option.bind_some]
    cases b with
    | false => rfl
    | true =>
      show (if ((true : Bool) == true) = true then (if (true : Bool) = true then (jigsawlaw16_lists.f k (vs.map D)).bind _ else some true) else none) = some true
      rw [if_pos (show ((true : Bool) == true) = true from rfl), if_pos rfl, lists_f vs hs (by omega) (by omega), Option.bind_some, same_f vs (by omega) (by omega), Option.bind_some]
  | m + 1, j, k + 1, vs, e, hk, hl, hs => by
    have step : ∀ v, Small v → jigsawlaw16_AllDiffFixed.l0 k l2 ((vs.map fun v => [v]) ++ [[v]]) (vs ++ [v]) (n : Int) (wrap64 ((j : Int) + 1)) 17 p [] [] [] [] 0 [] 17 (iota 0 n) [] [] [] [] 0 [] = some true := by
      intro v hv
      have h := law_l0 p l2 h2 n g1 hn hp m (j + 1) k (vs ++ [v]) (by omega) (by omega) (by simp [hl]) (fun x hx => by
        rcases List.mem_append.1 hx with h | h
        · exact hs x h
        · rw [List.mem_singleton] at h; rw [h]; exact hv)
      rw [wrap_succ (by omega)]
      rw [List.map_append] at h
      exact h
    rw [jigsawlaw16_AllDiffFixed.l0, if_pos (nlt (by omega))]
    by_cases hx : j < l2.length
    · have hv := h2 (l2.getD j 0) (by rw [getD_lt _ _ hx]; exact List.getElem_mem _)
      have e1 : wrap64 (rd l2 (j : Int)) = l2.getD j 0 := by rw [rd_at]; unfold Small at hv; exact wrap_id (by omega) (by omega)
      rw [if_pos (nlt hx), if_pos (by omega), if_pos (by simp; omega), if_pos (by omega), e1]
      exact step _ hv
    · have e1 : wrap64 (1 + (j : Int)) = 1 + (j : Int) := wrap_id (by omega) (by omega)
      rw [if_neg (nge hx), if_pos (by simp; omega), if_pos (by omega), e1]
      exact step _ ⟨by omega, by omega⟩
theorem wf_u8 {x : Int} (h : (Lit.int .u8 x).wf = true) : 0 ≤ x ∧ x ≤ 255 := by
  simp only [Lit.wf, IntKind.min, IntKind.max, IntKind.signed, IntKind.bits, Bool.and_eq_true] at h
  simp at h
  omega
theorem wf_i8 {x : Int} (h : (Lit.int .i8 x).wf = true) : Small x := by
  simp only [Lit.wf, IntKind.min, IntKind.max, IntKind.signed, IntKind.bits, Bool.and_eq_true] at h
  simp at h
  exact ⟨by omega, by omega⟩
/-- THE PLAIN LAW: whatever the input, the answer is true. -/
theorem allDiffFixed (a0 : Int) (l1 l3 l4 : List Int) (a4 a5 a1 : Int) (l2 : List Int) (_ : (Lit.int .u8 a0).wf = true) (hw1 : ∀ x ∈ l1, (Lit.int .u8 x).wf = true) (_ : ∀ x ∈ l3, (Lit.int .u8 x).wf = true) (_ : ∀ x ∈ l4, (Lit.int .i8 x).wf = true) (_ : (Lit.int .i16 a4).wf = true) (_ : (Lit.int .u8 a5).wf = true) (hwa : (Lit.int .u8 a1).wf = true) (hw2 : ∀ x ∈ l2, (Lit.int .i8 x).wf = true) :
    ∃ k, jigsawlaw16_AllDiffFixed.f k a0 l1 l3 l4 a4 a5 a1 l2 = some true := by
  refine ⟨1000, ?_⟩
  obtain ⟨n, p, g1, hn, hp, hm⟩ := make_f l1 l3 l4 a4 a5 (fun x hx => wf_u8 (hw1 x hx)) (k := 1000) (by decide)
  have hs : wrap64 ((n : Int) + (([] : List Int).length : Int)) = (n : Int) := by rw [wrap_id (by simp <;> omega) (by simp <;> omega)]; simp
  have hw : (wrap64 (17 - 1)) % 256 = 16 := by decide +kernel
  unfold jigsawlaw16_AllDiffFixed.f
  rw [show jigsawlaw16_kind.f a1 = some 17 from rfl, Option.bind_some, hw, hm, Option.bind_some]
  show (jigsawref10_Local.f 1000 17 p [] [] [] [] 0 []).bind _ = _
  rw [local_f 17 p n hp.1 hn (by decide), Option.bind_some]
  show jigsawlaw16_AllDiffFixed.l0 1000 l2 [] [] (wrap64 ((p.length : Int) + (([] : List Int).length : Int))) 0 17 p [] [] [] [] 0 [] 17 (iota 0 n) [] [] [] [] 0 [] = some true
  rw [hp.1, hs]
  exact law_l0 p l2 (fun x hx => wf_i8 (hw2 x hx)) n g1 hn hp n 0 1000 [] (by omega) (by omega) rfl (fun v hv => by simp at hv)
end Go.Proofs.YtckfbfdnlpnllaaGreatDoor.Pure
