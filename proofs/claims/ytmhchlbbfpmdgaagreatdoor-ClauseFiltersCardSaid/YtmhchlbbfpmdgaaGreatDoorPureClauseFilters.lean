/- The plain law of ClauseFilters: what the walk computes answers true, for every input. -/
import Derived.Test.YtmhchlbbfpmdgaaGreatDoorXCFmx5
import Derived.Test.YtmhchlbbfpmdgaaGreatDoorKMa
import Derived.Test.YtmhchlbbfpmdgaaGreatDoorKMb
import Derived.Test.YtmhchlbbfpmdgaaGreatDoorKMc
namespace Go.Proofs.YtmhchlbbfpmdgaaGreatDoor.Pure
open Go.RowKit Go.Proofs.YtmhchlbbfpmdgaaGreatDoor.XClauseFilters Go.Proofs.YtmhchlbbfpmdgaaGreatDoorW.PrintWords Go.Proofs.YtmhchlbbfpmdgaaGreatDoorW.PrintLast Go.Proofs.YtmhchlbbfpmdgaaGreatDoorW.PrintMore
set_option linter.unusedVariables false
theorem wrap_id {n : Int} (h : -9223372036854775808 ≤ n) (h2 : n ≤ 9223372036854775807) : wrap64 n = n := by unfold wrap64; omega
theorem wrap_succ {j : Nat} (h : j ≤ 1000) : wrap64 ((j : Int) + 1) = ((j + 1 : Nat) : Int) := by rw [wrap_id (by omega) (by omega)]; omega
theorem ind_ {c : Prop} [Decidable c] {α : Type} {a b : α} (h : ¬ c := by decide) : (if c then a else b) = b := if_neg h
theorem obs_ {α β : Type} (a : α) (f : α → Option β) : (some a).bind f = f a := rfl
theorem ino_ {c : Prop} [Decidable c] {α : Type} {a b : α} (h : ¬ c := by omega) : (if c then a else b) = b := if_neg h
theorem ipo_ {c : Prop} [Decidable c] {α : Type} {a b : α} (h : c := by omega) : (if c then a else b) = a := if_pos h
theorem wsu_ {j : Nat} (h : j ≤ 1000 := by omega) : wrap64 ((j : Int) + 1) = ((j + 1 : Nat) : Int) := wrap_succ h
theorem up {α : Type} {f : Nat → Option α} (hm : ∀ k, LeO (f k) (f (k + 1))) {k : Nat} {r : α} (h : f k = some r) : ∀ {k'}, k ≤ k' → f k' = some r := by
 intro k' hk
 induction hk with
 | refl => exact h
 | step _ ih => exact hm _ _ ih
theorem of_one {m : Fin 2048} (hm : m.val ≠ 0) {k : Nat} (hk : 40 ≤ k) : dom_Of.f k (LL m) = some ((D m).f0, (D m).f1, (D m).f2, (D m).f3, (D m).f4, 0) :=
 up (f := fun k => dom_Of.f k (LL m)) (dom_Of.mono _) (of_all m hm) hk
theorem list_one (m : Fin 2048) {k : Nat} (hk : 40 ≤ k) : dom_Dom_List.f k (D m).f0 (D m).f1 (D m).f2 (D m).f3 (D m).f4 = some (LL m) :=
 up (f := fun k => dom_Dom_List.f k _ _ _ _ _) (dom_Dom_List.mono _ _ _ _ _) (list_all m) hk
theorem xlist_one {m : Fin 2048} {b : Bool} (hb : bi b ∈ LL m) {k : Nat} (hk : 40 ≤ k) : dom_Dom_List.f k (XM m b).f0 (XM m b).f1 (XM m b).f2 (XM m b).f3 (XM m b).f4 = some [bi b] :=
 up (f := fun k => dom_Dom_List.f k _ _ _ _ _) (dom_Dom_List.mono _ _ _ _ _) (xlist_all m b hb) hk
theorem has_one (m : Fin 2048) {v : Int} (hv : -5 ≤ v ∧ v ≤ 5) : dom_Dom_Has.f (D m).f0 (D m).f1 (D m).f2 (D m).f3 (D m).f4 v = some (decide (v ∈ LL m)) := by
 have h := has_all m ⟨(v + 5).toNat, by omega⟩
 simp only [] at h
 rwa [show (((v + 5).toNat : Nat) : Int) - 5 = v by omega] at h
theorem only_one {m : Fin 2048} {b : Bool} (hb : bi b ∈ LL m) {k : Nat} (hk : 40 ≤ k) : ∃ e, dom_Dom_Only.f k (D m).f0 (D m).f1 (D m).f2 (D m).f3 (D m).f4 (bi b) = some ((XM m b).f0, (XM m b).f1, (XM m b).f2, (XM m b).f3, (XM m b).f4, e) := by
 have h := only_all m b hb
 obtain ⟨r, hr⟩ := Option.isSome_iff_exists.1 h
 obtain ⟨x0, x1, x2, x3, x4, e⟩ := r
 refine ⟨e, ?_⟩
 have hx : XM m b = ⟨x0, x1, x2, x3, x4⟩ := by unfold XM; rw [hr]
 rw [hx]
 exact up (f := fun k => dom_Dom_Only.f k _ _ _ _ _ _) (dom_Dom_Only.mono _ _ _ _ _ _) hr hk
theorem wakes_true {k : Nat} (hk : 60 ≤ k) : jigsawlaw14_wakes.f k = some true :=
 up (f := fun k => jigsawlaw14_wakes.f k) jigsawlaw14_wakes.mono (by decide +kernel) hk
theorem rd_at (l : List Int) (j : Nat) : rd l (j : Int) = l.getD j 0 := rfl
theorem rdL_at (l : List (List Int)) (j : Nat) : rd_L7 l (j : Int) = l.getD j [] := rfl
theorem rdD_at (l : List S58) (j : Nat) : rd_T58 l (j : Int) = l.getD j z58 := rfl
theorem getD_lt {α : Type} (l : List α) (z : α) {j : Nat} (h : j < l.length) : l.getD j z = l[j] := by
 rw [List.getD_eq_getElem?_getD, List.getElem?_eq_getElem h]; rfl
theorem getD_map {α β : Type} (f : α → β) (l : List α) (z : α) (y : β) {j : Nat} (h : j < l.length) : (l.map f).getD j y = f (l.getD j z) := by
 rw [getD_lt _ _ (by simpa using h), getD_lt _ _ h]; simp
theorem take_step {α : Type} (l : List α) (z : α) {j : Nat} (h : j < l.length) : l.take j ++ [l.getD j z] = l.take (j + 1) := by
 rw [getD_lt _ _ h]; simp
theorem nlt {a b : Nat} (h : a < b) : (a : Int) < (b : Int) := by omega
theorem nge {a b : Nat} (h : ¬ a < b) : ¬ (a : Int) < (b : Int) := by omega
/-- The places: so many, each below 5, none below 0. -/
def Places (n : Nat) (r : List Int) : Prop := r.length = n ∧ ∀ x ∈ r, 0 ≤ x ∧ x ≤ 4
theorem places_l0 (l : List Int) (hl : ∀ x ∈ l, 0 ≤ x ∧ x ≤ 255) (n : Nat) (hn : n ≤ 4) : ∀ (m j k : Nat) (acc : List Int), n = j + m → m < k → Places j acc → ∃ r, jigsawref06_places.l0 k l (n : Int) 5 acc (j : Int) = some r ∧ Places n r
 | 0, j, k + 1, acc, e, _, ha => by
  obtain rfl : n = j := by omega
  refine ⟨acc, ?_, ha⟩
  rw [jigsawref06_places.l0, ino_]
 | m + 1, j, k + 1, acc, e, hk, ha => by
  have hj : j < n := by omega
  obtain ⟨h1, h2⟩ := ha
  have hlen : acc.length < 17592186044416 := by omega
  by_cases hx : j < l.length
  ·
   have hm := hl (l.getD j 0) (by rw [getD_lt _ _ hx]; exact List.getElem_mem _)
   obtain ⟨r, hr, hp⟩ := places_l0 l hl n hn m (j + 1) k (acc ++ [Int.tmod (wrap64 (rd l (j : Int))) 5]) (by omega) (by omega) ⟨by simp [h1], fun x hx => by
    rcases List.mem_append.1 hx with h | h
    ·
     exact h2 x h
    ·
     rw [List.mem_singleton] at h
     rw [h, rd_at, wrap_id (by omega) (by omega), Int.tmod_eq_emod_of_nonneg (by omega)]
     omega⟩
   refine ⟨r, ?_, hp⟩
   rw [jigsawref06_places.l0, if_pos (nlt hj), if_pos (nlt hx), ipo_, ind_, if_pos hlen, wsu_]
   exact hr
  ·
   obtain ⟨r, hr, hp⟩ := places_l0 l hl n hn m (j + 1) k (acc ++ [Int.tmod (j : Int) 5]) (by omega) (by omega) ⟨by simp [h1], fun x hx => by
    rcases List.mem_append.1 hx with h | h
    ·
     exact h2 x h
    ·
     rw [List.mem_singleton] at h
     rw [h, Int.tmod_eq_emod_of_nonneg (by omega)]
     omega⟩
   refine ⟨r, ?_, hp⟩
   rw [jigsawref06_places.l0, if_pos (nlt hj), if_neg (nge hx), ind_, if_pos hlen, wsu_]
   exact hr
theorem places_f (l : List Int) (hl : ∀ x ∈ l, 0 ≤ x ∧ x ≤ 255) (n : Nat) (hn : n ≤ 4) {k : Nat} (hk : 5 ≤ k) : ∃ r, jigsawref06_places.f k l (n : Int) 5 = some r ∧ Places n r :=
 places_l0 l hl n hn n 0 k [] (by omega) (by omega) ⟨rfl, fun x hx => by simp at hx⟩
theorem has_f {s : ByteArray} {c r : Int} (h : jigsawref06_has.f 6 s c = some r) {k : Nat} (hk : 6 ≤ k) : jigsawref06_has.f k s c = some r :=
 up (f := fun k => jigsawref06_has.f k s c) (jigsawref06_has.mono _ _) h hk
/-- A constraint that is made: a clause, of places. -/
theorem make_f (l1 l2 l3 : List Int) (a4 a5 : Int) (h1 : ∀ x ∈ l1, 0 ≤ x ∧ x ≤ 255) (h2 : ∀ x ∈ l2, 0 ≤ x ∧ x ≤ 255) {k : Nat} (hk : 20 ≤ k) :
  ∃ (n : Nat) (p q : List Int), 1 ≤ n ∧ n ≤ 4 ∧ Places n p ∧ Places n q ∧ jigsawref06_Make.f k 11 l1 l2 l3 a4 a5 5 = some (12, p, q, [], [], [], 0, []) := by
 have hw : wrap64 (1 + Int.tmod (wrap64 11) 23) = 12 := by decide +kernel
 have hs : jigsawref06_Shapes.f = some ((jigsawref06_Shapes.f).getD []) := by rfl
 have hlen : ((jigsawref06_Shapes.f).getD []).length = 24 := by decide +kernel
 have hvw : rdOf ByteArray.empty ((jigsawref06_Shapes.f).getD []) 12 = (⟨#[86, 87]⟩ : ByteArray) := by rfl
 have key : ∀ n : Nat, n ≤ 4 → ∀ k, 10 ≤ k → ∃ p q, Places n p ∧ Places n q ∧ jigsawref06_Make.j1 k 5 (⟨#[86, 87]⟩ : ByteArray) (n : Int) 11 l1 l2 l3 a4 a5 12 0 = some (12, p, q, [], [], [], 0, []) := by
  intro n hn k hk
  obtain ⟨k, rfl⟩ : ∃ k', k = k' + 1 := ⟨k - 1, by omega⟩
  obtain ⟨p, hp, hpp⟩ := places_f l1 h1 n hn (k := k) (by omega)
  obtain ⟨q, hq, hqq⟩ := places_f l2 h2 n hn (k := k) (by omega)
  refine ⟨p, q, hpp, hqq, ?_⟩
  rw [jigsawref06_Make.j1, has_f (r := 0) (by decide +kernel) (by omega), obs_, ind_, hp, obs_, has_f (r := 0) (by decide +kernel) (by omega), obs_, ind_, has_f (r := 1) (by decide +kernel) (by omega), obs_, if_pos (by decide), hq, obs_, has_f (r := 0) (by decide +kernel) (by omega), obs_, ind_, ind_, has_f (r := 0) (by decide +kernel) (by omega), obs_, ind_, ind_, ind_, ind_]
 have key0 : ∀ n : Nat, 1 ≤ n → ∃ (m : Nat) (p q : List Int), 1 ≤ m ∧ m ≤ 4 ∧ Places m p ∧ Places m q ∧ jigsawref06_Make.j0 k 5 (⟨#[86, 87]⟩ : ByteArray) (n : Int) 11 l1 l2 l3 a4 a5 12 0 = some (12, p, q, [], [], [], 0, []) := by
  intro n hn
  obtain ⟨k, rfl⟩ : ∃ k', k = k' + 1 := ⟨k - 1, by omega⟩
  by_cases h4 : n ≤ 4
  ·
   obtain ⟨p, q, hp, hq, e⟩ := key n h4 k (by omega)
   exact ⟨n, p, q, hn, h4, hp, hq, by rw [jigsawref06_Make.j0, ino_]; exact e⟩
  ·
   obtain ⟨p, q, hp, hq, e⟩ := key 4 (by decide) k (by omega)
   exact ⟨4, p, q, by decide, by decide, hp, hq, by rw [jigsawref06_Make.j0, ipo_]; exact e⟩
 unfold jigsawref06_Make.f
 rw [hs, obs_, hw, hlen, if_pos (by decide), if_pos (by decide), hvw]
 by_cases h0 : l1.length < 1
 ·
  rw [ipo_]
  exact key0 1 (by decide)
 ·
  rw [ino_]
  exact key0 l1.length (by omega)
/-- So many numbers from a first one on. -/
def iota (a n : Nat) : List Int := (List.range n).map fun i => ((a + i : Nat) : Int)
theorem iota_len (a n : Nat) : (iota a n).length = n := by simp [iota]
theorem iota_at (a n j : Nat) (h : j < n) : (iota a n).getD j 0 = ((a + j : Nat) : Int) := by
 rw [getD_lt _ _ (by rw [iota_len]; exact h)]; simp [iota]
theorem iota_succ (a n : Nat) : iota a n ++ [((a + n : Nat) : Int)] = iota a (n + 1) := by simp [iota, List.range_succ]
theorem local_l1 (p q : List Int) (n : Nat) (hp : p.length = n) (hq : q.length = n) (hn : n ≤ 4) : ∀ (m j k : Nat), n = j + m → m < k →
  jigsawref10_Local.l1 k (j : Int) 12 p q [] [] [] 0 [] 12 (iota 0 n) (iota n j) [] [] [] 0 [] = some (12, iota 0 n, iota n n, [], [], [], 0, [])
 | 0, j, k + 1, e, _ => by
  obtain rfl : n = j := by omega
  rw [jigsawref10_Local.l1, hq, ino_]
 | m + 1, j, k + 1, e, hk => by
  rw [jigsawref10_Local.l1, hq, ipo_, if_pos (by rw [iota_len]; omega), wsu_, hp, wrap_id (by omega) (by omega), show ((n : Int) + (j : Int)) = ((n + j : Nat) : Int) by omega, iota_succ]
  exact local_l1 p q n hp hq hn m (j + 1) k (by omega) (by omega)
theorem local_l0 (p q : List Int) (n : Nat) (hp : p.length = n) (hq : q.length = n) (hn : n ≤ 4) : ∀ (m j k : Nat), n = j + m → m + 6 < k →
  jigsawref10_Local.l0 k (j : Int) 12 p q [] [] [] 0 [] 12 (iota 0 j) [] [] [] 0 [] = some (12, iota 0 n, iota n n, [], [], [], 0, [])
 | 0, j, k + 1, e, _ => by
  obtain rfl : n = j := by omega
  rw [jigsawref10_Local.l0, hp, ino_]
  exact local_l1 p q n hp hq hn n 0 k (by omega) (by omega)
 | m + 1, j, k + 1, e, hk => by
  have h := iota_succ 0 j
  rw [Nat.zero_add] at h
  rw [jigsawref10_Local.l0, hp, ipo_, if_pos (by rw [iota_len]; omega), wsu_, h]
  exact local_l0 p q n hp hq hn m (j + 1) k (by omega) (by omega)
theorem local_f (p q : List Int) (n : Nat) (hp : p.length = n) (hq : q.length = n) (hn : n ≤ 4) {k : Nat} (hk : 11 ≤ k) :
  jigsawref10_Local.f k 12 p q [] [] [] 0 [] = some (12, iota 0 n, iota n n, [], [], [], 0, []) :=
 local_l0 p q n hp hq hn n 0 k (by omega) (by omega)
/-- What makes the clause hold at a place. -/
def want (n i : Nat) : Int := if i < n then 1 else 0
def hit (n : Nat) (vs : List Int) (i : Nat) : Bool := vs.getD i 0 == want n i
theorem hit_lo {n i : Nat} (vs : List Int) (h : i < n) : hit n vs i = true ↔ vs.getD i 0 = 1 := by unfold hit want; rw [if_pos h]; exact beq_iff_eq
theorem hit_hi {n i : Nat} (vs : List Int) (h : ¬ i < n) : hit n vs i = true ↔ vs.getD i 0 = 0 := by unfold hit want; rw [if_neg h]; exact beq_iff_eq
theorem want_f (p q : List Int) (n : Nat) (hp : p.length = n) (j : Nat) : clause_want.f 12 p q [] [] [] 0 [] (j : Int) = some (want n j) := by
 unfold clause_want.f want
 rw [hp]
 by_cases h : j < n
 ·
  rw [if_pos (nlt h), if_pos h]
 ·
  rw [if_neg (nge h), if_neg h]
theorem want_bool (n i : Nat) : want n i = if decide (i < n) then 1 else 0 := by simp [want]
/-- The document's answer, of fixed values. -/
theorem logic_l1 (vs : List Int) (n : Nat) (hv : vs.length = 2 * n) (hn : n ≤ 4) : ∀ (m j k : Nat), n = j + m → m < k → (∀ i, i < n + j → hit n vs i = false) →
  ∃ b : Bool, (b = true ↔ ∃ i, i < vs.length ∧ hit n vs i = true) ∧ jigsawref09_logic.l1 k vs (j : Int) 12 (iota 0 n) (iota n n) [] [] [] 0 [] = some b
 | 0, j, k + 1, e, hk, h => by
  rw [jigsawref09_logic.l1, iota_len, ino_]
  exact ⟨false, ⟨fun h => absurd h (by decide), fun ⟨i, hi, h'⟩ => by rw [h i (by omega)] at h'; exact h'⟩, rfl⟩
 | m + 1, j, k + 1, e, hk, h => by
  have hj : j < n := by omega
  have hr : rd (iota n n) (j : Int) = ((n + j : Nat) : Int) := by rw [rd_at, iota_at n n j hj]
  rw [jigsawref09_logic.l1, iota_len, if_pos (nlt hj), ipo_, hr, ipo_, ipo_, rd_at]
  by_cases h1 : vs.getD (n + j) 0 = 0
  ·
   rw [if_pos h1]
   exact ⟨true, ⟨fun _ => ⟨n + j, by omega, (hit_hi vs (by omega)).2 h1⟩, fun _ => rfl⟩, rfl⟩
  ·
   rw [if_neg h1, wsu_]
   refine logic_l1 vs n hv hn m (j + 1) k (by omega) (by omega) (fun i hi => ?_)
   by_cases hi' : i = n + j
   ·
    rw [hi']; exact Bool.eq_false_iff.2 (fun h => h1 ((hit_hi vs (by omega)).1 h))
   ·
    exact h i (by omega)
theorem logic_l0 (vs : List Int) (n : Nat) (hv : vs.length = 2 * n) (hn : n ≤ 4) : ∀ (m j k : Nat), n = j + m → m + 6 < k → (∀ i, i < j → hit n vs i = false) →
  ∃ b : Bool, (b = true ↔ ∃ i, i < vs.length ∧ hit n vs i = true) ∧ jigsawref09_logic.l0 k vs (j : Int) 12 (iota 0 n) (iota n n) [] [] [] 0 [] = some b
 | 0, j, k + 1, e, hk, h => by
  rw [jigsawref09_logic.l0, iota_len, ino_]
  exact logic_l1 vs n hv hn n 0 k (by omega) (by omega) (fun i hi => h i (by omega))
 | m + 1, j, k + 1, e, hk, h => by
  have hj : j < n := by omega
  have hr : rd (iota 0 n) (j : Int) = ((j : Nat) : Int) := by rw [rd_at, iota_at 0 n j hj, Nat.zero_add]
  rw [jigsawref09_logic.l0, iota_len, if_pos (nlt hj), ipo_, hr, ipo_, ipo_, rd_at]
  by_cases h1 : vs.getD j 0 = 1
  ·
   rw [if_pos h1]
   exact ⟨true, ⟨fun _ => ⟨j, by omega, (hit_lo vs hj).2 h1⟩, fun _ => rfl⟩, rfl⟩
  ·
   rw [if_neg h1, wsu_]
   refine logic_l0 vs n hv hn m (j + 1) k (by omega) (by omega) (fun i hi => ?_)
   by_cases hi' : i = j
   ·
    rw [hi']; exact Bool.eq_false_iff.2 (fun h => h1 ((hit_lo vs hj).1 h))
   ·
    exact h i (by omega)
theorem holds_f (vs : List Int) (n : Nat) (hv : vs.length = 2 * n) (hn : n ≤ 4) {k : Nat} (hk : 20 ≤ k) :
  ∃ b : Bool, (b = true ↔ ∃ i, i < vs.length ∧ hit n vs i = true) ∧ jigsawref09_Holds.f k 12 (iota 0 n) (iota n n) [] [] [] 0 [] vs = some b := by
 obtain ⟨b, hb, e⟩ := logic_l0 vs n hv hn n 0 k (by omega) (by omega) (fun i hi => by omega)
 refine ⟨b, hb, ?_⟩
 have e' : jigsawref09_logic.l0 k vs 0 12 (iota 0 n) (iota n n) [] [] [] 0 [] = some b := e
 unfold jigsawref09_Holds.f jigsawref09_logic.f
 rw [ind_, ind_, if_pos (by decide), if_pos rfl, e', obs_]
/-- The document's list of small numbers: some mask's. -/
theorem rhas_l0 (l : List Int) (v : Int) (hl : l.length ≤ 100) : ∀ (m j k : Nat), l.length = j + m → m < k → jigsawref02_Has.l0 k l v (j : Int) = some (decide (v ∈ l.drop j))
 | 0, j, k + 1, e, _ => by
  rw [jigsawref02_Has.l0, ino_, List.drop_eq_nil_of_le (by omega)]; rfl
 | m + 1, j, k + 1, e, hk => by
  have hj : j < l.length := by omega
  have hd : l.drop j = l[j] :: l.drop (j + 1) := List.drop_eq_getElem_cons hj
  rw [jigsawref02_Has.l0, if_pos (nlt hj), ipo_, rd_at, getD_lt _ _ hj]
  by_cases h : l[j] = v
  ·
   rw [if_pos h, hd]; congr 1; symm; exact decide_eq_true (by rw [h]; exact List.mem_cons_self)
  ·
   rw [if_neg h, wsu_, rhas_l0 l v hl m (j + 1) k (by omega) (by omega), hd]
   congr 1
   rw [decide_eq_decide]
   constructor
   ·
    exact fun h' => List.mem_cons_of_mem _ h'
   ·
    intro h'
    rcases List.mem_cons.1 h' with h2 | h2
    ·
     exact absurd h2.symm h
    ·
     exact h2
theorem rhas_f (l : List Int) (v : Int) (hl : l.length ≤ 100) {k : Nat} (hk : 200 ≤ k) : jigsawref02_Has.f k l v = some (decide (v ∈ l)) := by
 have h := rhas_l0 l v hl l.length 0 k (by omega) (by omega)
 exact h
/-- What is put in, seen from a place on: the number once, ahead of the first greater one. -/
def insR : Bool → Int → List Int → List Int
 | true, _, r => r
 | false, v, r => ins v r
theorem of_l2 (x : List Int) (hx : x.length ≤ 100) (i : Nat) (hi : i < x.length) (l : List Int) (hl : l.length ≤ 100) : ∀ (m j k : Nat) (acc : List Int) (done : Bool), l.length = j + m → acc.length ≤ 2 * j → m < k →
  ∃ k', k' + m + 1 = k ∧ jigsawref02_Of.l2 k x l (i : Int) acc done (j : Int) = jigsawref02_Of.l1 k' x (acc ++ insR done (x.getD i 0) (l.drop j)) (((i + 1 : Nat)) : Int)
 | 0, j, k + 1, acc, done, e, ha, hk => by
  refine ⟨k, rfl, ?_⟩
  rw [jigsawref02_Of.l2, ino_, List.drop_eq_nil_of_le (by omega)]
  cases done with
  | true => rw [if_pos rfl, wsu_]; simp [insR]
  | false => rw [ind_, ipo_, if_pos (nlt hi), ipo_, wsu_, rd_at]; rfl
 | m + 1, j, k + 1, acc, done, e, ha, hk => by
  have hj : j < l.length := by omega
  have hd : l.drop j = l.getD j 0 :: l.drop (j + 1) := by rw [getD_lt _ _ hj]; exact List.drop_eq_getElem_cons hj
  rw [jigsawref02_Of.l2, if_pos (nlt hj), ipo_, ipo_, if_pos (nlt hi), rd_at, rd_at, wsu_, hd]
  by_cases h : l.getD j 0 > x.getD i 0
  ·
   rw [if_pos h]
   cases done with
   | true =>
    rw [if_pos rfl, ipo_]
    obtain ⟨k', hk', h'⟩ := of_l2 x hx i hi l hl m (j + 1) k (acc ++ [l.getD j 0]) true (by omega) (by simp; omega) (by omega)
    refine ⟨k', by omega, ?_⟩
    rw [h']; simp [insR]
   | false =>
    rw [ind_, ipo_, obs_, if_pos (by simp; omega)]
    obtain ⟨k', hk', h'⟩ := of_l2 x hx i hi l hl m (j + 1) k ((acc ++ [x.getD i 0]) ++ [l.getD j 0]) true (by omega) (by simp; omega) (by omega)
    refine ⟨k', by omega, ?_⟩
    have e1 : insR false (x.getD i 0) (l.getD j 0 :: l.drop (j + 1)) = x.getD i 0 :: l.getD j 0 :: l.drop (j + 1) := by show ins _ _ = _; rw [ins, if_pos h]
    rw [h', e1]; simp [insR]
  ·
   rw [if_neg h, ipo_]
   obtain ⟨k', hk', h'⟩ := of_l2 x hx i hi l hl m (j + 1) k (acc ++ [l.getD j 0]) done (by omega) (by simp; omega) (by omega)
   refine ⟨k', by omega, ?_⟩
   rw [h']
   cases done with
   | true => simp [insR]
   | false =>
    have e1 : insR false (x.getD i 0) (l.getD j 0 :: l.drop (j + 1)) = l.getD j 0 :: ins (x.getD i 0) (l.drop (j + 1)) := by show ins _ _ = _; rw [ins, if_neg h]
    rw [e1]; simp [insR]
def Near (x : List Int) : Prop := ∀ v ∈ x, -5 ≤ v ∧ v ≤ 5
theorem of_l1 (x : List Int) (hx : x.length ≤ 6) (hn : Near x) : ∀ (m j k : Nat) (b : Fin 2048), x.length = j + m → 300 * m + 300 < k → (0 < j → b.val ≠ 0) →
  ∃ c : Fin 2048, (0 < x.length → c.val ≠ 0) ∧ jigsawref02_Of.l1 k x (LL b) (j : Int) = some (LL c, 0)
 | 0, j, k + 1, b, e, hk, hb => by
  refine ⟨b, fun h => hb (by omega), ?_⟩
  rw [jigsawref02_Of.l1, ino_]
 | m + 1, j, k + 1, b, e, hk, hb => by
  have hj : j < x.length := by omega
  have hv := hn (x.getD j 0) (by rw [getD_lt _ _ hj]; exact List.getElem_mem _)
  have hl := (len_all b).1
  rw [jigsawref02_Of.l1, if_pos (nlt hj), ipo_, rd_at, rhas_f (LL b) _ (by omega) (by omega), obs_]
  by_cases h : x.getD j 0 ∈ LL b
  ·
   rw [if_pos (decide_eq_true h), wsu_]
   refine of_l1 x hx hn m (j + 1) k b (by omega) (by omega) (fun _ h0 => ?_)
   have : LL b = [] := by unfold LL; rw [h0]; decide +kernel
   rw [this] at h; cases h
  ·
   rw [if_neg (by simpa using h)]
   obtain ⟨k', hk', h'⟩ := of_l2 x (by omega) j hj (LL b) (by omega) (LL b).length 0 k [] false (by omega) (by simp) (by omega)
   have e0 : jigsawref02_Of.l2 k x (LL b) (j : Int) [] false 0 = _ := h'
   rw [e0]
   have hins := ins_all b ⟨(x.getD j 0 + 5).toNat, by omega⟩
   simp only [] at hins
   rw [show (((x.getD j 0 + 5).toNat : Nat) : Int) - 5 = x.getD j 0 by omega] at hins
   obtain ⟨h1, h2⟩ := hins h
   rw [List.nil_append, List.drop_zero, insR, h1]
   exact of_l1 x hx hn m (j + 1) k' _ (by omega) (by omega) (fun _ => h2)
theorem of_l0 (x : List Int) (hx : x.length ≤ 6) (hn : Near x) : ∀ (m j k : Nat) (lo hi : Int), x.length = j + m → m + 3000 < k → -5 ≤ lo → lo ≤ 5 → -5 ≤ hi → hi ≤ 5 →
  ∃ c : Fin 2048, (0 < x.length → c.val ≠ 0) ∧ jigsawref02_Of.l0 k x lo hi (j : Int) = some (LL c, 0)
 | 0, j, k + 1, lo, hi, e, hk, h1, h2, h3, h4 => by
  have ew : wrap64 (hi - lo) = hi - lo := wrap_id (by omega) (by omega)
  rw [jigsawref02_Of.l0, ino_, ew, ino_]
  have h0 : LL 0 = [] := by decide +kernel
  have h := of_l1 x hx hn x.length 0 k 0 (by omega) (by omega) (fun h => absurd h (by decide))
  rw [h0] at h
  exact h
 | m + 1, j, k + 1, lo, hi, e, hk, h1, h2, h3, h4 => by
  have hj : j < x.length := by omega
  have hv := hn (x.getD j 0) (by rw [getD_lt _ _ hj]; exact List.getElem_mem _)
  rw [jigsawref02_Of.l0, if_pos (nlt hj), ipo_, rd_at, ino_, ino_, wsu_]
  split <;> split <;> exact of_l0 x hx hn m (j + 1) k _ _ (by omega) (by omega) (by omega) (by omega) (by omega) (by omega)
theorem of_f (x : List Int) (hx : x.length ≤ 6) (h0 : 0 < x.length) (hn : Near x) {k : Nat} (hk : 4000 ≤ k) : ∃ c : Fin 2048, c.val ≠ 0 ∧ jigsawref02_Of.f k x = some (LL c, 0) := by
 have hv := hn (x.getD 0 0) (by rw [getD_lt _ _ h0]; exact List.getElem_mem _)
 obtain ⟨c, h1, h2⟩ := of_l0 x hx hn x.length 0 k (x.getD 0 0) (x.getD 0 0) (by omega) (by omega) hv.1 hv.2 hv.1 hv.2
 refine ⟨c, h1 h0, ?_⟩
 unfold jigsawref02_Of.f
 rw [ino_, ipo_]
 exact h2
theorem mod_near (v : Int) : -5 ≤ Int.tmod v 6 ∧ Int.tmod v 6 ≤ 5 := by
 have h1 := Int.tmod_lt_of_pos v (show (0 : Int) < 6 by decide)
 have h2 := Int.lt_tmod_of_pos v (show (0 : Int) < 6 by decide)
 omega
theorem small_l0 (l : List Int) (h0 : 0 < l.length) : ∀ (m j k : Nat) (acc : List Int), 6 = j + m → j ≤ l.length → m + 4100 < k → acc.length = j → Near acc →
  ∃ c : Fin 2048, c.val ≠ 0 ∧ jigsawref02_Small.l0 k l 6 6 acc (j : Int) = some (LL c)
 | m, j, k + 1, acc, e, hjl, hk, ha, hn => by
  have fin : ∀ (hx : 0 < acc.length), ∃ c : Fin 2048, c.val ≠ 0 ∧ ((jigsawref02_Of.f k acc).bind fun bt => some bt.1) = some (LL c) := by
   intro hx
   obtain ⟨c, h1, h2⟩ := of_f acc (by omega) hx hn (k := k) (by omega)
   exact ⟨c, h1, by rw [h2, obs_]⟩
  rw [jigsawref02_Small.l0]
  by_cases hj : j < l.length
  ·
   rw [if_pos (nlt hj)]
   by_cases h6 : j < 6
   ·
    obtain ⟨m, rfl⟩ : ∃ m', m = m' + 1 := ⟨m - 1, by omega⟩
    rw [ipo_, ipo_, ind_, ipo_, wsu_]
    refine small_l0 l h0 m (j + 1) k _ (by omega) (by omega) (by omega) (by simp [ha]) (fun v hv => ?_)
    rcases List.mem_append.1 hv with h | h
    ·
     exact hn v h
    ·
     rw [List.mem_singleton] at h; rw [h]; exact mod_near _
   ·
    rw [ino_]
    exact fin (by omega)
  ·
   rw [if_neg (nge hj)]
   exact fin (by omega)
theorem small_f (l : List Int) (h0 : 0 < l.length) {k : Nat} (hk : 4200 ≤ k) : ∃ c : Fin 2048, c.val ≠ 0 ∧ jigsawref02_Small.f k l 6 6 = some (LL c) :=
 small_l0 l h0 6 0 k [] rfl (by omega) (by omega) rfl (fun v hv => by simp at hv)
theorem case_l0 (p q : List Int) (n : Nat) (hp : p.length = n) (hq : q.length = n) (hn : n ≤ 4) (a0 a4 a5 : Int) (l1 l2 l3 : List Int) (l6 : List (List Int)) : ∀ (m j k : Nat) (ms : List (Fin 2048)), 2 * n = j + m → m + 4300 < k → ms.length = j → (∀ c ∈ ms, c.val ≠ 0) →
  ∃ ms' : List (Fin 2048), ms'.length = 2 * n ∧ (∀ c ∈ ms', c.val ≠ 0) ∧ jigsawref10_Make.l0 k 6 (ms.map LL) (j : Int) a0 l1 l2 l3 a4 a5 l6 12 p q [] [] [] 0 [] = some (12, p, q, [], [], [], 0, [], ms'.map LL)
 | 0, j, k + 1, ms, e, hk, hl, hs => by
  have hw : wrap64 ((n : Int) + (n : Int)) = ((2 * n : Nat) : Int) := by rw [wrap_id (by omega) (by omega)]; omega
  refine ⟨ms, by omega, hs, ?_⟩
  rw [jigsawref10_Make.l0, hp, hq, hw, ino_]
 | m + 1, j, k + 1, ms, e, hk, hl, hs => by
  have hw : wrap64 ((n : Int) + (n : Int)) = ((2 * n : Nat) : Int) := by rw [wrap_id (by omega) (by omega)]; omega
  have step : ∀ c : Fin 2048, c.val ≠ 0 → ∃ ms' : List (Fin 2048), ms'.length = 2 * n ∧ (∀ c ∈ ms', c.val ≠ 0) ∧ jigsawref10_Make.l0 k 6 ((ms.map LL) ++ [LL c]) (wrap64 ((j : Int) + 1)) a0 l1 l2 l3 a4 a5 l6 12 p q [] [] [] 0 [] = some (12, p, q, [], [], [], 0, [], ms'.map LL) := by
   intro c hc
   have h := case_l0 p q n hp hq hn a0 a4 a5 l1 l2 l3 l6 m (j + 1) k (ms ++ [c]) (by omega) (by omega) (by simp [hl]) (fun x hx => by
    rcases List.mem_append.1 hx with h | h
    ·
     exact hs x h
    ·
     rw [List.mem_singleton] at h; rw [h]; exact hc)
   rw [wsu_]
   rwa [List.map_append] at h
  have hlm : (ms.map LL).length < 5864062014805 := by simp; omega
  rw [jigsawref10_Make.l0, hp, hq, hw, ipo_, obs_]
  have dflt : ∃ c : Fin 2048, c.val ≠ 0 ∧ jigsawref02_Small.f k [Int.tmod (j : Int) 3, 1] 6 6 = some (LL c) := small_f _ (by simp) (by omega)
  by_cases hx : j < l6.length
  ·
   rw [if_pos (nlt hx), ipo_, rdL_at]
   by_cases hz : ((l6.getD j []).length : Int) > 0
   ·
    obtain ⟨c, hc, h⟩ := small_f (l6.getD j []) (by omega) (k := k) (by omega)
    rw [if_pos hz, h, obs_, if_pos hlm]
    exact step c hc
   ·
    obtain ⟨c, hc, h⟩ := dflt
    rw [if_neg hz, h, obs_, if_pos hlm]
    exact step c hc
  ·
   obtain ⟨c, hc, h⟩ := dflt
   rw [if_neg (nge hx), h, obs_, if_pos hlm]
   exact step c hc
/-- A constraint with small domains. -/
theorem case_f (a0 a4 a5 : Int) (l1 l2 l3 : List Int) (l6 : List (List Int)) (h1 : ∀ x ∈ l1, 0 ≤ x ∧ x ≤ 255) (h2 : ∀ x ∈ l2, 0 ≤ x ∧ x ≤ 255) {k : Nat} (hk : 4400 ≤ k) :
  ∃ (n : Nat) (p q : List Int) (ms : List (Fin 2048)), 1 ≤ n ∧ n ≤ 4 ∧ Places n p ∧ Places n q ∧ ms.length = 2 * n ∧ (∀ c ∈ ms, c.val ≠ 0) ∧ jigsawref10_Make.f k a0 l1 l2 l3 a4 a5 l6 12 6 = some (12, p, q, [], [], [], 0, [], ms.map LL) := by
 obtain ⟨n, p, q, e1, e2, e3, e4, e5⟩ := make_f l1 l2 l3 a4 a5 h1 h2 (k := k) (by omega)
 have hw : (wrap64 ((12 : Int) - 1)) % 256 = 11 := by decide +kernel
 obtain ⟨ms, f1, f2, f3⟩ := case_l0 p q n e3.1 e4.1 e2 11 a4 a5 l1 l2 l3 l6 (2 * n) 0 k [] (by omega) (by omega) rfl (fun c hc => by simp at hc)
 refine ⟨n, p, q, ms, e1, e2, e3, e4, f1, f2, ?_⟩
 unfold jigsawref10_Make.f
 rw [hw, e5, obs_]
 exact f3
theorem wrap_succ' {j : Nat} (h : j ≤ 100000) : wrap64 ((j : Int) + 1) = ((j + 1 : Nat) : Int) := by rw [wrap_id (by omega) (by omega)]; omega
theorem getD_set {α : Type} (l : List α) (z y : α) (c i : Nat) (hi : i < l.length) : (l.set c y).getD i z = if c = i then y else l.getD i z := by
 rw [List.getD_eq_getElem?_getD, List.getElem?_set]
 by_cases h : c = i
 ·
  subst h; rw [if_pos rfl, if_pos hi, if_pos rfl]; rfl
 ·
  rw [if_neg h, if_neg h, ← List.getD_eq_getElem?_getD]
/-- A row of the product: one number of each list. -/
def Row (ls : List (List Int)) (r : List Int) : Prop := r.length = ls.length ∧ ∀ i, i < ls.length → r.getD i 0 ∈ ls.getD i []
def Lists (ls : List (List Int)) : Prop := ls.length ≤ 8 ∧ ∀ l ∈ ls, 0 < l.length ∧ l.length ≤ 11
theorem Lists.at {ls : List (List Int)} (h : Lists ls) {i : Nat} (hi : i < ls.length) : 0 < (ls.getD i []).length ∧ (ls.getD i []).length ≤ 11 :=
 h.2 _ (by rw [getD_lt _ _ hi]; exact List.getElem_mem _)
/-- A solution: a row that makes the clause hold at some place. -/
def Good (n : Nat) (ls : List (List Int)) (r : List Int) : Prop := Row ls r ∧ ∃ i, i < r.length ∧ hit n r i = true
/-- The parts of what may be. -/
theorem idx_fits (ds : List S58) (hd : ∀ d ∈ ds, d.f4 ≠ 0) (hl : ds.length ≤ 100) : ∀ (m j k : Nat), ds.length = j + m → m < k → dom_Dom_73_at_prop_Fits_1.l0 k ds (ds.length : Int) (j : Int) = some (-1)
 | 0, j, k + 1, e, _ => by rw [dom_Dom_73_at_prop_Fits_1.l0, ino_]
 | m + 1, j, k + 1, e, hk => by
  have hj : j < ds.length := by omega
  have hv := hd (ds.getD j z58) (by rw [getD_lt _ _ hj]; exact List.getElem_mem _)
  rw [dom_Dom_73_at_prop_Fits_1.l0, if_pos (nlt hj), ipo_, if_pos (nlt hj), rdD_at]
  have hf : prop_Fits_1.f (ds.getD j z58).f0 (ds.getD j z58).f1 (ds.getD j z58).f2 (ds.getD j z58).f3 (ds.getD j z58).f4 = some false := by
   unfold prop_Fits_1.f dom_Dom_Size.f
   rw [obs_]
   congr 1
   exact beq_eq_false_iff_ne.2 hv
  rw [hf, obs_, ind_, wsu_]
  exact idx_fits ds hd hl m (j + 1) k (by omega) (by omega)
theorem idx_right (l : List Int) (hp : ∀ x ∈ l, 0 ≤ x ∧ x ≤ 4) (hl : l.length ≤ 100) : ∀ (m j k : Nat), l.length = j + m → m < k → slices_IndexFunc_int_int_83_at_model_Right_1.l0 k l (l.length : Int) (j : Int) 256 = some (-1)
 | 0, j, k + 1, e, _ => by rw [slices_IndexFunc_int_int_83_at_model_Right_1.l0, ino_]
 | m + 1, j, k + 1, e, hk => by
  have hj : j < l.length := by omega
  have hv := hp (l.getD j 0) (by rw [getD_lt _ _ hj]; exact List.getElem_mem _)
  rw [slices_IndexFunc_int_int_83_at_model_Right_1.l0, if_pos (nlt hj), ipo_, if_pos (nlt hj), rd_at]
  have hf : model_Right_1.f (l.getD j 0) 256 = some false := by
   unfold model_Right_1.f
   rw [ino_, decide_eq_false (by omega)]
  rw [hf, obs_, ind_, wsu_]
  exact idx_right l hp hl m (j + 1) k (by omega) (by omega)
theorem vars_f (p q : List Int) (n : Nat) (hp : p.length = n) (hq : q.length = n) (hn : n ≤ 4) {k : Nat} (hk : 20 ≤ k) : model_Vars.f k 12 p q [] [] [] 0 [] = some (p ++ q) := by
 obtain ⟨k, rfl⟩ : ∃ k', k = k' + 6 := ⟨k - 6, by omega⟩
 have r0 : rd_L7 [p, q] 0 = p := rfl
 have r1 : rd_L7 [p, q] 1 = q := rfl
 have e1 : wrap64 (0 + (n : Int)) = (n : Int) := by rw [wrap_id (by omega) (by omega)]; omega
 have e2 : wrap64 ((n : Int) + (n : Int)) = (n : Int) + n := wrap_id (by omega) (by omega)
 have w1 : wrap64 (0 + 1) = 1 := by decide +kernel
 have w2 : wrap64 (1 + 1) = 2 := by decide +kernel
 have hlen : (([p, q] : List (List Int)).length : Int) = 2 := rfl
 unfold model_Vars.f slices_Concat_int_int.f
 rw [hlen, slices_Concat_int_int.l0, if_pos (by decide), if_pos (by decide), hlen, if_pos (by decide), r0, hp, e1, ino_, w1, slices_Concat_int_int.l0, if_pos (by decide), if_pos (by decide), hlen, if_pos (by decide), r1, hq, e2, ino_, w2, slices_Concat_int_int.l0, ind_]
 have hg : slices_GrowNil.f ((n : Int) + n) = some [] := by unfold slices_GrowNil.f; rw [if_pos ⟨by omega, by omega⟩]
 rw [hg, obs_, hlen, slices_Concat_int_int.l1, if_pos (by decide), if_pos (by decide), hlen, if_pos (by decide), r0, if_pos (by simp [hp]; omega), w1, slices_Concat_int_int.l1, if_pos (by decide), if_pos (by decide), hlen, if_pos (by decide), r1, if_pos (by simp [hp, hq]; omega), w2, slices_Concat_int_int.l1, ind_, obs_]
 simp
theorem bounded_f {a : Int} {k : Nat} (hk : 5 ≤ k) : model_bounded.f k [] a = some true := by
 obtain ⟨k, rfl⟩ : ∃ k', k = k' + 1 := ⟨k - 1, by omega⟩
 unfold model_bounded.f slices_ContainsFunc_int_int_60_at_model_bounded_1.f slices_IndexFunc_int_int_83_at_model_bounded_1.f
 rw [slices_IndexFunc_int_int_83_at_model_bounded_1.l0, ind_, obs_, obs_]
 rfl
theorem right_f (p q : List Int) (n : Nat) (h1 : 1 ≤ n) (hn : n ≤ 4) (hp : Places n p) (hq : Places n q) {k : Nat} (hk : 30 ≤ k) : model_Right.f k 12 p q [] [] [] 0 [] 256 = some 0 := by
 have hs : model_Shape.f 12 = some (⟨#[86, 87]⟩ : ByteArray) := by decide +kernel
 have hw : wrap64 ((n : Int) + (n : Int)) = (n : Int) + n := wrap_id (by omega) (by omega)
 have hc : model_counted.f 12 p q [] [] [] 0 [] (⟨#[86, 87]⟩ : ByteArray) = some true := by
  unfold model_counted.f model_within.f
  rw [if_pos rfl, hp.1, hq.1, hw, ipo_, obs_, if_pos (by simp; omega), if_pos (by unfold mx; split <;> omega)]
  decide +kernel
 have ha : model_alike.f 12 p q [] [] [] 0 [] = some true := by
  unfold model_alike.f
  rw [ind_, ind_, ind_, ind_, ind_, ind_, ind_, ind_, ind_]
 have hi : slices_ContainsFunc_int_int_60_at_model_Right_1.f k (p ++ q) 256 = some false := by
  unfold slices_ContainsFunc_int_int_60_at_model_Right_1.f slices_IndexFunc_int_int_83_at_model_Right_1.f
  have h := idx_right (p ++ q) (fun x hx => by rcases List.mem_append.1 hx with h | h; exact hp.2 x h; exact hq.2 x h) (by simp [hp.1, hq.1]; omega) (p ++ q).length 0 k (by omega) (by simp [hp.1, hq.1]; omega)
  have h' : slices_IndexFunc_int_int_83_at_model_Right_1.l0 k (p ++ q) ((p ++ q).length : Int) 0 256 = some (-1) := h
  rw [h', obs_]
  rfl
 have hb : model_numbers.f k 12 p q [] [] [] 0 [] = some true := by
  obtain ⟨k, rfl⟩ : ∃ k', k = k' + 1 := ⟨k - 1, by omega⟩
  unfold model_numbers.f
  rw [ind_, ind_, model_numbers.l0, ind_, bounded_f (by omega), obs_, if_pos rfl, obs_, if_pos rfl, obs_, if_pos rfl, if_pos (by decide)]
  rfl
 have hn' : model_counts.f 12 p q [] [] [] 0 [] = some true := by unfold model_counts.f; rw [ind_]
 unfold model_Right.f
 rw [hs, obs_, if_neg (by decide +kernel), hc, obs_, if_pos rfl, ha, obs_, if_pos rfl, if_pos rfl, vars_f p q n hp.1 hq.1 hn (by omega), obs_, hi, obs_, ind_, hb, obs_, if_pos rfl, hn', obs_, if_pos rfl]
theorem fits_f (p q : List Int) (ds : List S58) (n : Nat) (h1 : 1 ≤ n) (hn : n ≤ 4) (hp : Places n p) (hq : Places n q) (hv : ds.length = 2 * n) (hd : ∀ d ∈ ds, d.f4 ≠ 0) {k : Nat} (hk : 30 ≤ k) : prop_Fits.f k 12 p q [] [] [] 0 [] ds 12 12 = some true := by
 have hi : dom_Dom_54_at_prop_Fits_1.f k ds = some false := by
  unfold dom_Dom_54_at_prop_Fits_1.f dom_Dom_73_at_prop_Fits_1.f
  have h' : dom_Dom_73_at_prop_Fits_1.l0 k ds ((ds.length : Nat) : Int) 0 = some (-1) := idx_fits ds hd (by omega) ds.length 0 k (by omega) (by omega)
  rw [h', obs_]
  rfl
 have hw : wrap64 ((n : Int) + (n : Int)) = (n : Int) + n := wrap_id (by omega) (by omega)
 unfold prop_Fits.f
 rw [hi, obs_, if_pos (by decide), if_pos (by decide), right_f p q n h1 hn hp hq hk, obs_, if_pos rfl, hp.1, hq.1, hw, ipo_]
 rfl
/-- What the filter hands back, by whether each domain can make the clause hold. -/
def Out (ds : List S58) (h : Nat → Bool) (Y : Nat → S58) (r : List S58 × Bool) : Prop :=
 (r = ([], false) ∧ ∀ i, i < ds.length → h i = false) ∨ (r = (ds, true) ∧ ∃ a b, a < b ∧ b < ds.length ∧ h a = true ∧ h b = true) ∨
 (∃ c, c < ds.length ∧ h c = true ∧ (∀ i, i < ds.length → h i = true → i = c) ∧ r = (ds.set c (Y c), true))
def Hits (n : Nat) (ds : List S58) (h : Nat → Bool) : Prop := ∀ i, i < ds.length → dom_Dom_Has.f (ds.getD i z58).f0 (ds.getD i z58).f1 (ds.getD i z58).f2 (ds.getD i z58).f3 (ds.getD i z58).f4 (want n i) = some (h i)
def Onlys (n : Nat) (ds : List S58) (h : Nat → Bool) (Y : Nat → S58) : Prop := ∀ i, i < ds.length → h i = true → ∀ k, 40 ≤ k → ∃ e, dom_Dom_Only.f k (ds.getD i z58).f0 (ds.getD i z58).f1 (ds.getD i z58).f2 (ds.getD i z58).f3 (ds.getD i z58).f4 (want n i) = some ((Y i).f0, (Y i).f1, (Y i).f2, (Y i).f3, (Y i).f4, e)
theorem filt_l0 (p q : List Int) (n : Nat) (hp : p.length = n) (ds : List S58) (hl : ds.length ≤ 100) (h : Nat → Bool) (Y : Nat → S58) (hH : Hits n ds h) (hO : Onlys n ds h Y) : ∀ (m j k : Nat) (x7 : Int), ds.length = j + m → 2 * m + 50 < k →
  ((x7 = -1 ∧ ∀ i, i < j → h i = false) ∨ ∃ c : Nat, x7 = (c : Int) ∧ c < j ∧ h c = true ∧ ∀ i, i < j → h i = true → i = c) →
  ∃ r, Out ds h Y r ∧ clause_Filter.l0 k ds ds x7 ds (ds.length : Int) (j : Int) 12 p q [] [] [] 0 [] = some r
 | 0, j, k + 1, x7, e, hk, hx => by
  rw [clause_Filter.l0, ino_]
  rcases hx with ⟨rfl, h0⟩ | ⟨c, rfl, hc, hh, h0⟩
  ·
   exact ⟨_, Or.inl ⟨rfl, fun i hi => h0 i (by omega)⟩, by rw [if_pos (by decide)]⟩
  ·
   have hc' : c < ds.length := by omega
   obtain ⟨e', he⟩ := hO c hc' hh k (by omega)
   refine ⟨_, Or.inr (Or.inr ⟨c, hc', hh, fun i hi => h0 i (by omega), rfl⟩), ?_⟩
   rw [ino_, ipo_, if_pos (nlt hc'), want_f p q n hp, obs_, rdD_at, he, obs_, if_pos (nlt hc'), Int.toNat_natCast]
 | m + 1, j, k + 1, x7, e, hk, hx => by
  have hj : j < ds.length := by omega
  obtain ⟨k, rfl⟩ : ∃ k', k = k' + 1 := ⟨k - 1, by omega⟩
  rw [clause_Filter.l0, if_pos (nlt hj), ipo_, if_pos (nlt hj), want_f p q n hp, obs_, rdD_at, hH j hj, obs_, clause_Filter.j1]
  cases hh : h j with
  | false =>
   rw [if_pos (show (!false) = true from rfl), wsu_]
   refine filt_l0 p q n hp ds hl h Y hH hO m (j + 1) k x7 (by omega) (by omega) ?_
   rcases hx with ⟨rfl, h0⟩ | ⟨c, rfl, hc, h1, h0⟩
   ·
    exact Or.inl ⟨rfl, fun i hi => by rcases Nat.lt_succ_iff_lt_or_eq.1 hi with h' | rfl; exact h0 i h'; exact hh⟩
   ·
    exact Or.inr ⟨c, rfl, by omega, h1, fun i hi hi' => by rcases Nat.lt_succ_iff_lt_or_eq.1 hi with h' | rfl; exact h0 i h' hi'; rw [hh] at hi'; cases hi'⟩
  | true =>
   rw [ind_]
   rcases hx with ⟨rfl, h0⟩ | ⟨c, rfl, hc, h1, h0⟩
   ·
    rw [ind_, wsu_]
    exact filt_l0 p q n hp ds hl h Y hH hO m (j + 1) k j (by omega) (by omega) (Or.inr ⟨j, rfl, by omega, hh, fun i hi hi' => by rcases Nat.lt_succ_iff_lt_or_eq.1 hi with h' | rfl; rw [h0 i h'] at hi'; cases hi'; rfl⟩)
   ·
    rw [ipo_]
    exact ⟨_, Or.inr (Or.inl ⟨rfl, c, j, hc, hj, h1, hh⟩), rfl⟩
theorem filt_f (p q : List Int) (n : Nat) (h1 : 1 ≤ n) (hn : n ≤ 4) (hp : Places n p) (hq : Places n q) (ds : List S58) (hv : ds.length = 2 * n) (hd : ∀ d ∈ ds, d.f4 ≠ 0) (h : Nat → Bool) (Y : Nat → S58) (hH : Hits n ds h) (hO : Onlys n ds h Y) {k : Nat} (hk : 200 ≤ k) :
  ∃ r, Out ds h Y r ∧ clause_Filter.f k 12 p q [] [] [] 0 [] ds = some r := by
 obtain ⟨r, hr, e⟩ := filt_l0 p q n hp.1 ds (by omega) h Y hH hO ds.length 0 k (-1) (by omega) (by omega) (Or.inl ⟨rfl, fun i hi => by omega⟩)
 refine ⟨r, hr, ?_⟩
 have e' : clause_Filter.l0 k ds ds (-1) ds (ds.length : Int) 0 12 p q [] [] [] 0 [] = some r := e
 unfold clause_Filter.f slices_CloneDom.f
 rw [fits_f p q ds n h1 hn hp hq hv hd (by omega), obs_, if_pos rfl, ipo_, obs_, e']
theorem doms_l0 (ms : List (Fin 2048)) (hs : ∀ c ∈ ms, c.val ≠ 0) (hl : ms.length ≤ 100) : ∀ (m j k : Nat), ms.length = j + m → m + 50 < k →
  jigsawlaw14_doms.l0 k ((ms.take j).map D) (ms.map LL) (ms.length : Int) (j : Int) = some (ms.map D)
 | 0, j, k + 1, e, _ => by
  rw [jigsawlaw14_doms.l0, ino_, List.take_of_length_le (by omega)]
 | m + 1, j, k + 1, e, hk => by
  have hj : j < ms.length := by omega
  have hv := hs (ms.getD j 0) (by rw [getD_lt _ _ hj]; exact List.getElem_mem _)
  rw [jigsawlaw14_doms.l0, if_pos (nlt hj), ipo_, if_pos (by rw [List.length_map]; exact nlt hj), rdL_at, getD_map LL ms 0 [] hj, of_one hv (by omega), obs_, if_pos (by simp; omega), wsu_]
  have h := doms_l0 ms hs hl m (j + 1) k (by omega) (by omega)
  rw [← take_step ms 0 hj, List.map_append] at h
  exact h
theorem doms_f (ms : List (Fin 2048)) (hs : ∀ c ∈ ms, c.val ≠ 0) (hl : ms.length ≤ 100) {k : Nat} (hk : 200 ≤ k) : jigsawlaw14_doms.f k (ms.map LL) = some (ms.map D) := by
 have h := doms_l0 ms hs hl ms.length 0 k (by omega) (by omega)
 unfold jigsawlaw14_doms.f
 rw [List.length_map]
 exact h
/-- Domains and their lists. -/
def Listed (ds : List S58) (ls : List (List Int)) : Prop := ds.length = ls.length ∧ ∀ i, i < ds.length → ∀ k, 40 ≤ k → dom_Dom_List.f k (ds.getD i z58).f0 (ds.getD i z58).f1 (ds.getD i z58).f2 (ds.getD i z58).f3 (ds.getD i z58).f4 = some (ls.getD i [])
theorem lists_l0 (ds : List S58) (ls : List (List Int)) (hL : Listed ds ls) (hl : ds.length ≤ 100) : ∀ (m j k : Nat), ds.length = j + m → m + 50 < k →
  jigsawlaw14_lists.l0 k (ls.take j) ds (ds.length : Int) (j : Int) = some ls
 | 0, j, k + 1, e, _ => by
  have := hL.1
  rw [jigsawlaw14_lists.l0, ino_, List.take_of_length_le (by omega)]
 | m + 1, j, k + 1, e, hk => by
  have hj : j < ds.length := by omega
  have hl2 := hL.1
  rw [jigsawlaw14_lists.l0, if_pos (nlt hj), ipo_, if_pos (nlt hj), rdD_at, hL.2 j hj k (by omega), obs_, if_pos (by simp; omega), wsu_, take_step ls [] (by omega)]
  exact lists_l0 ds ls hL hl m (j + 1) k (by omega) (by omega)
theorem lists_f (ds : List S58) (ls : List (List Int)) (hL : Listed ds ls) (hl : ds.length ≤ 100) {k : Nat} (hk : 200 ≤ k) : jigsawlaw14_lists.f k ds = some ls :=
 lists_l0 ds ls hL hl ds.length 0 k (by omega) (by omega)
theorem same_l1 (ls : List (List Int)) (hl : ls.length ≤ 100) (i : Nat) (hi : i < ls.length) (hb : (ls.getD i []).length ≤ 11) : ∀ (m j k : Nat), (ls.getD i []).length = j + m → m < k →
  ∃ k', k' + m + 1 = k ∧ jigsawref10_Same.l1 k ls ls (i : Int) (j : Int) = jigsawref10_Same.l0 k' ls ls (((i + 1 : Nat)) : Int)
 | 0, j, k + 1, e, hk => by
  refine ⟨k, rfl, ?_⟩
  rw [jigsawref10_Same.l1, ipo_, if_pos (nlt hi), rdL_at, ino_, wsu_]
 | m + 1, j, k + 1, e, hk => by
  obtain ⟨k', h1, h2⟩ := same_l1 ls hl i hi hb m (j + 1) k (by omega) (by omega)
  refine ⟨k', by omega, ?_⟩
  rw [jigsawref10_Same.l1, ipo_, if_pos (nlt hi), rdL_at, ipo_, ipo_, if_pos (nlt hi), ipo_, if_pos rfl, wsu_]
  exact h2
theorem same_l0 (ls : List (List Int)) (hl : ls.length ≤ 100) (hb : ∀ i, i < ls.length → (ls.getD i []).length ≤ 11) : ∀ (m j k : Nat), ls.length = j + m → 14 * m < k →
  jigsawref10_Same.l0 k ls ls (j : Int) = some true
 | 0, j, k + 1, e, _ => by
  rw [jigsawref10_Same.l0, ino_]
 | m + 1, j, k + 1, e, hk => by
  have hj : j < ls.length := by omega
  have hb' := hb j hj
  obtain ⟨k', h1, h2⟩ := same_l1 ls hl j hj hb' (ls.getD j []).length 0 k (by omega) (by omega)
  have h3 : jigsawref10_Same.l1 k ls ls (j : Int) 0 = _ := h2
  rw [jigsawref10_Same.l0, if_pos (nlt hj), ipo_, if_pos (nlt hj), if_pos rfl, h3]
  exact same_l0 ls hl hb m (j + 1) k' (by omega) (by omega)
theorem same_f (ls : List (List Int)) (hl : ls.length ≤ 100) (hb : ∀ i, i < ls.length → (ls.getD i []).length ≤ 11) {k : Nat} (hk : 2000 ≤ k) : jigsawref10_Same.f k ls ls = some true := by
 unfold jigsawref10_Same.f
 rw [if_pos rfl]
 exact same_l0 ls hl hb ls.length 0 k (by omega) (by omega)
theorem wf_u8 {x : Int} (h : (Lit.int .u8 x).wf = true) : 0 ≤ x ∧ x ≤ 255 := by
 simp only [Lit.wf, IntKind.min, IntKind.max, IntKind.signed, IntKind.bits, Bool.and_eq_true] at h
 simp at h
 omega
/-- Can the clause hold, with a value at a place, by the places from j on? -/
def Can (n : Nat) (ls : List (List Int)) (a : Nat) (v : Int) (i : Nat) : Prop := (i = a ∧ v = want n i) ∨ (i ≠ a ∧ want n i ∈ ls.getD i [])
theorem can_l0 (p q : List Int) (n : Nat) (hp : p.length = n) (ls : List (List Int)) (hls : Lists ls) (a : Nat) (v : Int) : ∀ (m j k : Nat), ls.length = j + m → m + 300 < k →
  ∃ b : Bool, (b = true ↔ ∃ i, j ≤ i ∧ i < ls.length ∧ Can n ls a v i) ∧ jigsawref14_can.l0 k ls (a : Int) v (j : Int) 12 p q [] [] [] 0 [] = some b
 | 0, j, k + 1, e, _ => by
  refine ⟨false, ⟨fun h => absurd h (by decide), fun ⟨i, h1, h2, _⟩ => by omega⟩, ?_⟩
  rw [jigsawref14_can.l0, ino_]
 | m + 1, j, k + 1, e, hk => by
  have hj : j < ls.length := by omega
  have h8 := hls.1
  have hlen := (hls.at hj).2
  obtain ⟨b, hb, hr⟩ := can_l0 p q n hp ls hls a v m (j + 1) k (by omega) (by omega)
  have next : ¬ Can n ls a v j → (b = true ↔ ∃ i, j ≤ i ∧ i < ls.length ∧ Can n ls a v i) := fun hc => by
   rw [hb]
   constructor
   ·
    exact fun ⟨i, h1, h2, h3⟩ => ⟨i, by omega, h2, h3⟩
   ·
    rintro ⟨i, h1, h2, h3⟩
    by_cases hij : i = j
    ·
     rw [hij] at h3; exact absurd h3 hc
    ·
     exact ⟨i, by omega, h2, h3⟩
  have now : Can n ls a v j → (true = true ↔ ∃ i, j ≤ i ∧ i < ls.length ∧ Can n ls a v i) := fun hc => ⟨fun _ => ⟨j, Nat.le_refl _, hj, hc⟩, fun _ => rfl⟩
  have step : ∀ w : Int, want n j = w → ∃ b : Bool, (b = true ↔ ∃ i, j ≤ i ∧ i < ls.length ∧ Can n ls a v i) ∧ ((jigsawref02_Has.f k (ls.getD j []) w).bind fun t => (if (j : Int) = (a : Int) then (if v = w then some true else jigsawref14_can.l0 k ls (a : Int) v (wrap64 ((j : Int) + 1)) 12 p q [] [] [] 0 []) else (if t = true then some true else jigsawref14_can.l0 k ls (a : Int) v (wrap64 ((j : Int) + 1)) 12 p q [] [] [] 0 []))) = some b := by
   intro w hw
   rw [rhas_f _ _ (by omega) (by omega), obs_, wsu_, hr]
   by_cases hja : j = a
   ·
    rw [ipo_]
    by_cases hv : v = w
    ·
     exact ⟨true, now (Or.inl ⟨hja, by rw [hw]; exact hv⟩), by rw [if_pos hv]⟩
    ·
     exact ⟨b, next (by rintro (⟨_, h⟩ | ⟨h, _⟩); exact hv (by rw [← hw]; exact h); exact h hja), by rw [if_neg hv]⟩
   ·
    rw [ino_]
    by_cases hin : w ∈ ls.getD j []
    ·
     exact ⟨true, now (Or.inr ⟨hja, by rw [hw]; exact hin⟩), by rw [if_pos (decide_eq_true hin)]⟩
    ·
     exact ⟨b, next (by rintro (⟨h, _⟩ | ⟨_, h⟩); exact hja h; exact hin (by rw [← hw]; exact h)), by rw [if_neg (by simpa using hin)]⟩
  rw [jigsawref14_can.l0, if_pos (nlt hj), hp]
  by_cases hjn : j < n
  ·
   rw [if_pos (nlt hjn), ipo_, rdL_at]
   exact step 1 (by unfold want; rw [if_pos hjn])
  ·
   rw [if_neg (nge hjn), ipo_, rdL_at]
   exact step 0 (by unfold want; rw [if_neg hjn])
theorem can_f (p q : List Int) (n : Nat) (hp : p.length = n) (ls : List (List Int)) (hls : Lists ls) (a : Nat) (v : Int) {k : Nat} (hk : 400 ≤ k) :
  ∃ b : Bool, (b = true ↔ ∃ i, i < ls.length ∧ Can n ls a v i) ∧ jigsawref14_can.f k 12 p q [] [] [] 0 [] ls (a : Int) v = some b := by
 obtain ⟨b, hb, h⟩ := can_l0 p q n hp ls hls a v ls.length 0 k (by omega) (by have := hls.1; omega)
 exact ⟨b, hb.trans ⟨fun ⟨i, _, h2, h3⟩ => ⟨i, h2, h3⟩, fun ⟨i, h2, h3⟩ => ⟨i, Nat.zero_le _, h2, h3⟩⟩, h⟩
theorem in_l0 (l : List Int) (lo hi : Int) (hl : l.length ≤ 100) (hb : ∀ x ∈ l, lo ≤ x ∧ x ≤ hi) : ∀ (m j k : Nat), l.length = j + m → m < k → jigsawref06_in.l0 k l lo hi (j : Int) = some true
 | 0, j, k + 1, e, _ => by rw [jigsawref06_in.l0, ino_]
 | m + 1, j, k + 1, e, hk => by
  have hj : j < l.length := by omega
  have hv := hb (l.getD j 0) (by rw [getD_lt _ _ hj]; exact List.getElem_mem _)
  rw [jigsawref06_in.l0, if_pos (nlt hj), ipo_, rd_at, ino_, ino_, wsu_]
  exact in_l0 l lo hi hl hb m (j + 1) k (by omega) (by omega)
theorem in_f (l : List Int) (lo hi : Int) (hl : l.length ≤ 100) (hb : ∀ x ∈ l, lo ≤ x ∧ x ≤ hi) {k : Nat} (hk : 200 ≤ k) : jigsawref06_in.f k l lo hi = some true :=
 in_l0 l lo hi hl hb l.length 0 k (by omega) (by omega)
theorem rcoefs_f (p q : List Int) {k : Nat} (hk : 300 ≤ k) : jigsawref06_Coefs.f k 12 p q [] [] [] 0 [] = some true := by
 obtain ⟨k, rfl⟩ : ∃ k', k = k' + 2 := ⟨k - 2, by omega⟩
 have h := in_f [] (-1000000) 1000000 (by simp) (fun x hx => by simp at hx) (k := k + 2) (by omega)
 unfold jigsawref06_Coefs.f
 rw [ind_, ind_, h, obs_, obs_, obs_, if_pos rfl, if_pos rfl, if_pos rfl, ind_, ind_, jigsawref06_Coefs.l0, ind_, jigsawref06_Coefs.l1, ind_]
theorem rright_f (p q : List Int) (n : Nat) (h1 : 1 ≤ n) (hn : n ≤ 4) (hp : Places n p) (hq : Places n q) {k : Nat} (hk : 400 ≤ k) : jigsawref06_Right.f k 12 p q [] [] [] 0 [] 256 = some 0 := by
 have hs : jigsawref06_Shapes.f = some ((jigsawref06_Shapes.f).getD []) := by rfl
 have hlen : ((jigsawref06_Shapes.f).getD []).length = 24 := by decide +kernel
 have hw : wrap64 ((n : Int) + (n : Int)) = (n : Int) + n := wrap_id (by omega) (by omega)
 have ha : ∀ s, jigsawref06_Arity.f 12 p q [] [] [] 0 [] s = some true := fun s => by
  unfold jigsawref06_Arity.f
  rw [if_pos rfl, if_pos rfl, hp.1, hq.1, hw, ipo_, ipo_, ipo_, if_pos (by decide), if_pos (by decide), if_pos (by decide)]
  rfl
 have e : wrap64 (256 - 1) = 255 := by decide +kernel
 have hip := in_f p 0 255 (by rw [hp.1]; omega) (fun x hx => by have := hp.2 x hx; omega) (k := k) (by omega)
 have hiq := in_f q 0 255 (by rw [hq.1]; omega) (fun x hx => by have := hq.2 x hx; omega) (k := k) (by omega)
 unfold jigsawref06_Right.f
 rw [ind_, ind_, hs, obs_, hlen, if_pos (by decide), if_pos (by decide), ha, obs_, if_pos rfl, if_pos (by decide), e, hip, obs_, hiq, obs_, if_pos rfl, if_pos rfl, rcoefs_f p q (by omega), obs_, if_pos rfl]
theorem rfits_l0 (ls : List (List Int)) (hls : Lists ls) : ∀ (m j k : Nat), ls.length = j + m → m < k → jigsawref10_Fits.l0 k ls (j : Int) = some true
 | 0, j, k + 1, e, _ => by rw [jigsawref10_Fits.l0, ino_]
 | m + 1, j, k + 1, e, hk => by
  have hj : j < ls.length := by omega
  have h8 := hls.1
  have hlen := hls.at hj
  rw [jigsawref10_Fits.l0, if_pos (nlt hj), ipo_, rdL_at, ino_, wsu_]
  exact rfits_l0 ls hls m (j + 1) k (by omega) (by omega)
theorem rfits_f (p q : List Int) (n : Nat) (h1 : 1 ≤ n) (hn : n ≤ 4) (hp : Places n p) (hq : Places n q) (ls : List (List Int)) (hls : Lists ls) (hl : ls.length = 2 * n) {k : Nat} (hk : 500 ≤ k) : jigsawref10_Fits.f k 12 p q [] [] [] 0 [] ls 12 12 = some true := by
 have hw : wrap64 ((n : Int) + (n : Int)) = (n : Int) + n := wrap_id (by omega) (by omega)
 unfold jigsawref10_Fits.f
 rw [ind_, ind_, hp.1, hq.1, hw, ipo_, rright_f p q n h1 hn hp hq (by omega), obs_, if_pos rfl]
 exact rfits_l0 ls hls ls.length 0 k (by omega) (by omega)
/-- The values of a list that are left by the document. -/
noncomputable def canB (n : Nat) (ls : List (List Int)) (a : Nat) (v : Int) : Bool := @decide (∃ i, i < ls.length ∧ Can n ls a v i) (Classical.propDecidable _)
theorem canB_iff (n : Nat) (ls : List (List Int)) (a : Nat) (v : Int) : canB n ls a v = true ↔ ∃ i, i < ls.length ∧ Can n ls a v i := by
 unfold canB; exact @decide_eq_true_iff _ (Classical.propDecidable _)
theorem can_b (p q : List Int) (n : Nat) (hp : p.length = n) (ls : List (List Int)) (hls : Lists ls) (a : Nat) (v : Int) {k : Nat} (hk : 400 ≤ k) : jigsawref14_can.f k 12 p q [] [] [] 0 [] ls (a : Int) v = some (canB n ls a v) := by
 obtain ⟨b, hb, h⟩ := can_f p q n hp ls hls a v hk
 have e : b = canB n ls a v := by rw [Bool.eq_iff_iff, hb, canB_iff]
 rw [h, e]
noncomputable def left (n : Nat) (ls : List (List Int)) (i : Nat) : List Int := (ls.getD i []).filter (canB n ls i)
theorem rfil_l1 (p q : List Int) (n : Nat) (hp : p.length = n) (ls : List (List Int)) (hls : Lists ls) (out : List (List Int)) (ho : out.length ≤ 100) (i : Nat) (hi : i < ls.length) : ∀ (m j k : Nat) (acc : List Int), (ls.getD i []).length = j + m → m + 500 < k → acc.length ≤ j →
  ∃ k', k' + m + 1 = k ∧ jigsawref14_Filter.l1 k ls out (i : Int) acc (j : Int) 12 p q [] [] [] 0 [] = (if ((acc ++ ((ls.getD i []).drop j).filter (canB n ls i)).length : Int) = 0 then some ([], false) else jigsawref14_Filter.l0 k' ls (out ++ [acc ++ ((ls.getD i []).drop j).filter (canB n ls i)]) (((i + 1 : Nat)) : Int) 12 p q [] [] [] 0 [])
 | 0, j, k + 1, acc, e, hk, ha => by
  have h8 := hls.1
  refine ⟨k, rfl, ?_⟩
  rw [jigsawref14_Filter.l1, ipo_, if_pos (nlt hi), rdL_at, ino_, List.drop_eq_nil_of_le (by omega), if_pos (show out.length < 5864062014805 by omega), wsu_]
  simp
 | m + 1, j, k + 1, acc, e, hk, ha => by
  have h8 := hls.1
  have hlen := (hls.at hi).2
  have hj : j < (ls.getD i []).length := by omega
  have hd : (ls.getD i []).drop j = (ls.getD i []).getD j 0 :: (ls.getD i []).drop (j + 1) := by rw [getD_lt (ls.getD i []) 0 hj]; exact List.drop_eq_getElem_cons hj
  rw [jigsawref14_Filter.l1, ipo_, if_pos (nlt hi), rdL_at, if_pos (nlt hj), ipo_, rd_at, can_b p q n hp ls hls i _ (by omega), obs_, wsu_, hd]
  by_cases h : canB n ls i ((ls.getD i []).getD j 0) = true
  ·
   obtain ⟨k', h1, h2⟩ := rfil_l1 p q n hp ls hls out ho i hi m (j + 1) k (acc ++ [(ls.getD i []).getD j 0]) (by omega) (by omega) (by simp; omega)
   refine ⟨k', by omega, ?_⟩
   rw [if_pos h, ipo_, h2, List.filter_cons_of_pos h, List.append_assoc, List.singleton_append]
  ·
   obtain ⟨k', h1, h2⟩ := rfil_l1 p q n hp ls hls out ho i hi m (j + 1) k acc (by omega) (by omega) (by omega)
   refine ⟨k', by omega, ?_⟩
   rw [if_neg h, h2, List.filter_cons_of_neg h]
theorem rfil_l0 (p q : List Int) (n : Nat) (hp : p.length = n) (ls : List (List Int)) (hls : Lists ls) : ∀ (m j k : Nat) (out : List (List Int)), ls.length = j + m → 20 * m + 600 < k → out = (List.range j).map (left n ls) →
  ∃ r, ((r = ((List.range ls.length).map (left n ls), true) ∧ ∀ i, j ≤ i → i < ls.length → left n ls i ≠ []) ∨ (r = ([], false) ∧ ∃ i, j ≤ i ∧ i < ls.length ∧ left n ls i = [])) ∧ jigsawref14_Filter.l0 k ls out (j : Int) 12 p q [] [] [] 0 [] = some r
 | 0, j, k + 1, out, e, hk, ho => by
  obtain rfl : ls.length = j := by omega
  refine ⟨_, Or.inl ⟨rfl, fun i h1 h2 => by omega⟩, ?_⟩
  rw [jigsawref14_Filter.l0, ino_, ho]
 | m + 1, j, k + 1, out, e, hk, ho => by
  have hj : j < ls.length := by omega
  have h8 := hls.1
  have hlen := (hls.at hj).2
  have hol : out.length = j := by rw [ho]; simp
  obtain ⟨k', h1, h2⟩ := rfil_l1 p q n hp ls hls out (by omega) j hj (ls.getD j []).length 0 k [] (by omega) (by omega) (by simp)
  have h3 : jigsawref14_Filter.l1 k ls out (j : Int) [] 0 12 p q [] [] [] 0 [] = _ := h2
  rw [List.nil_append, List.drop_zero] at h3
  rw [jigsawref14_Filter.l0, if_pos (nlt hj), h3]
  by_cases hz : left n ls j = []
  ·
   refine ⟨_, Or.inr ⟨rfl, j, Nat.le_refl _, hj, hz⟩, ?_⟩
   have hz' : (ls.getD j []).filter (canB n ls j) = [] := hz
   rw [hz', if_pos (by simp)]
  ·
   have hz' : ¬ (((ls.getD j []).filter (canB n ls j)).length : Int) = 0 := by
    intro h
    exact hz (List.length_eq_zero_iff.1 (Int.ofNat_eq_zero.1 h))
   rw [if_neg hz']
   obtain ⟨r, hr, he⟩ := rfil_l0 p q n hp ls hls m (j + 1) k' (out ++ [left n ls j]) (by omega) (by omega) (by rw [ho, List.range_succ, List.map_append]; rfl)
   refine ⟨r, ?_, he⟩
   rcases hr with ⟨rfl, h0⟩ | ⟨rfl, i, h4, h5, h6⟩
   ·
    refine Or.inl ⟨rfl, fun i h7 h8 => ?_⟩
    by_cases hij : i = j
    ·
     rw [hij]; exact hz
    ·
     exact h0 i (by omega) h8
   ·
    exact Or.inr ⟨rfl, i, by omega, h5, h6⟩
/-- The document's filter: what can be had of each list; nothing, if one has none. -/
theorem rfil_f (p q : List Int) (n : Nat) (h1 : 1 ≤ n) (hn : n ≤ 4) (hp : Places n p) (hq : Places n q) (ls : List (List Int)) (hls : Lists ls) (hl : ls.length = 2 * n) {k : Nat} (hk : 1000 ≤ k) :
  ∃ r, ((r = ((List.range ls.length).map (left n ls), true) ∧ ∀ i, i < ls.length → left n ls i ≠ []) ∨ (r = ([], false) ∧ ∃ i, i < ls.length ∧ left n ls i = [])) ∧ jigsawref14_Filter.f k 12 p q [] [] [] 0 [] ls = some r := by
 obtain ⟨r, hr, he⟩ := rfil_l0 p q n hp.1 ls hls ls.length 0 k [] (by omega) (by have := hls.1; omega) (by simp)
 refine ⟨r, ?_, ?_⟩
 ·
  rcases hr with ⟨rfl, h0⟩ | ⟨rfl, i, _, h5, h6⟩
  ·
   exact Or.inl ⟨rfl, fun i hi => h0 i (Nat.zero_le _) hi⟩
  ·
   exact Or.inr ⟨rfl, i, h5, h6⟩
 ·
  unfold jigsawref14_Filter.f
  rw [rfits_f p q n h1 hn hp hq ls hls hl (by omega), obs_, if_pos rfl]
  exact he
def hasAt (rows : List (List Int)) (i : Nat) (v : Int) : Bool := rows.any fun r => r.getD i 0 == v
theorem ex_l2 (ls rows : List (List Int)) (hls : Lists ls) (hr : rows.length ≤ 4000) (hw : ∀ r ∈ rows, r.length = ls.length) (out : List (List Int)) (i : Nat) (hi : i < ls.length) (acc : List Int) (ha : acc.length ≤ 100) (j : Nat) (hj : j < (ls.getD i []).length) : ∀ (m t k : Nat) (b : Bool), rows.length = t + m → m < k →
  ∃ k', k' + m + 1 = k ∧ jigsawref10_Exact.l2 k ls rows out (i : Int) acc (j : Int) b (t : Int) = jigsawref10_Exact.l1 k' ls rows out (i : Int) (if b || hasAt (rows.drop t) i ((ls.getD i []).getD j 0) then acc ++ [(ls.getD i []).getD j 0] else acc) (((j + 1 : Nat)) : Int)
 | 0, t, k + 1, b, e, hk => by
  have h8 := hls.1
  have hlen := (hls.at hi).2
  refine ⟨k, rfl, ?_⟩
  rw [jigsawref10_Exact.l2, ino_, List.drop_eq_nil_of_le (by omega), wsu_]
  cases b with
  | true => rw [if_pos rfl, ipo_, if_pos (nlt hi), ipo_, rdL_at, if_pos (nlt hj), ipo_, rd_at]; rfl
  | false => rw [ind_]; rfl
 | m + 1, t, k + 1, b, e, hk => by
  have h8 := hls.1
  have ht : t < rows.length := by omega
  have hrow := hw (rows.getD t []) (by rw [getD_lt _ _ ht]; exact List.getElem_mem _)
  have hd : rows.drop t = rows.getD t [] :: rows.drop (t + 1) := by rw [getD_lt rows [] ht]; exact List.drop_eq_getElem_cons ht
  rw [jigsawref10_Exact.l2, if_pos (nlt ht), wrap_succ' (by omega)]
  cases b with
  | true =>
   obtain ⟨k', h1, h2⟩ := ex_l2 ls rows hls hr hw out i hi acc ha j hj m (t + 1) k true (by omega) (by omega)
   refine ⟨k', by omega, ?_⟩
   rw [if_pos rfl, h2]; rfl
  | false =>
   obtain ⟨k', h1, h2⟩ := ex_l2 ls rows hls hr hw out i hi acc ha j hj m (t + 1) k ((rows.getD t []).getD i 0 == (ls.getD i []).getD j 0) (by omega) (by omega)
   refine ⟨k', by omega, ?_⟩
   rw [ind_, ipo_, ipo_, rdL_at, ipo_, if_pos (nlt hi), ipo_, rdL_at, if_pos (nlt hj), rd_at, rd_at, h2, hd]
   rfl
theorem ex_l1 (ls rows : List (List Int)) (hls : Lists ls) (hr : rows.length ≤ 4000) (hw : ∀ r ∈ rows, r.length = ls.length) (out : List (List Int)) (ho : out.length ≤ 100) (i : Nat) (hi : i < ls.length) : ∀ (m j k : Nat) (acc : List Int), (ls.getD i []).length = j + m → 4010 * m + 10 < k → acc.length ≤ j →
  ∃ k', k ≤ k' + 4010 * m + 1 ∧ jigsawref10_Exact.l1 k ls rows out (i : Int) acc (j : Int) = jigsawref10_Exact.l0 k' ls rows (out ++ [acc ++ ((ls.getD i []).drop j).filter (hasAt rows i)]) (((i + 1 : Nat)) : Int)
 | 0, j, k + 1, acc, e, hk, ha => by
  have h8 := hls.1
  refine ⟨k, by omega, ?_⟩
  rw [jigsawref10_Exact.l1, ipo_, if_pos (nlt hi), rdL_at, ino_, ipo_, List.drop_eq_nil_of_le (by omega), wsu_]
  simp
 | m + 1, j, k + 1, acc, e, hk, ha => by
  have h8 := hls.1
  have hlen := (hls.at hi).2
  have hj : j < (ls.getD i []).length := by omega
  have hd : (ls.getD i []).drop j = (ls.getD i []).getD j 0 :: (ls.getD i []).drop (j + 1) := by rw [getD_lt (ls.getD i []) 0 hj]; exact List.drop_eq_getElem_cons hj
  obtain ⟨k1, h1, h2⟩ := ex_l2 ls rows hls hr hw out i hi acc (by omega) j hj rows.length 0 k false (by omega) (by omega)
  have h3 : jigsawref10_Exact.l2 k ls rows out (i : Int) acc (j : Int) false 0 = _ := h2
  rw [Bool.false_or, List.drop_zero] at h3
  rw [jigsawref10_Exact.l1, ipo_, if_pos (nlt hi), rdL_at, if_pos (nlt hj), h3, hd]
  by_cases h : hasAt rows i ((ls.getD i []).getD j 0) = true
  ·
   obtain ⟨k', h4, h5⟩ := ex_l1 ls rows hls hr hw out ho i hi m (j + 1) k1 (acc ++ [(ls.getD i []).getD j 0]) (by omega) (by omega) (by simp; omega)
   refine ⟨k', by omega, ?_⟩
   rw [if_pos h, h5, List.filter_cons_of_pos h, List.append_assoc, List.singleton_append]
  ·
   obtain ⟨k', h4, h5⟩ := ex_l1 ls rows hls hr hw out ho i hi m (j + 1) k1 acc (by omega) (by omega) (by omega)
   refine ⟨k', by omega, ?_⟩
   rw [if_neg h, h5, List.filter_cons_of_neg h]
def kept (ls rows : List (List Int)) (i : Nat) : List Int := (ls.getD i []).filter (hasAt rows i)
theorem ex_l0 (ls rows : List (List Int)) (hls : Lists ls) (hr : rows.length ≤ 4000) (hw : ∀ r ∈ rows, r.length = ls.length) : ∀ (m j k : Nat) (out : List (List Int)), ls.length = j + m → 50000 * m + 10 < k → out = (List.range j).map (kept ls rows) →
  jigsawref10_Exact.l0 k ls rows out (j : Int) = some (if rows.length = 0 then ([], false) else ((List.range ls.length).map (kept ls rows), true))
 | 0, j, k + 1, out, e, hk, ho => by
  obtain rfl : ls.length = j := by omega
  rw [jigsawref10_Exact.l0, ino_, ho]
  by_cases h : rows.length = 0
  ·
   rw [ipo_, if_pos h]
  ·
   rw [ino_, if_neg h]
 | m + 1, j, k + 1, out, e, hk, ho => by
  have hj : j < ls.length := by omega
  have h8 := hls.1
  have hlen := (hls.at hj).2
  have hol : out.length = j := by rw [ho]; simp
  obtain ⟨k', h1, h2⟩ := ex_l1 ls rows hls hr hw out (by omega) j hj (ls.getD j []).length 0 k [] (by omega) (by omega) (by simp)
  have h3 : jigsawref10_Exact.l1 k ls rows out (j : Int) [] 0 = _ := h2
  rw [List.nil_append, List.drop_zero] at h3
  rw [jigsawref10_Exact.l0, if_pos (nlt hj), h3]
  exact ex_l0 ls rows hls hr hw m (j + 1) k' (out ++ [kept ls rows j]) (by omega) (by omega) (by rw [ho, List.range_succ, List.map_append]; rfl)
theorem mem_getD {α : Type} {l : List α} (z : α) {x : α} (h : x ∈ l) : ∃ i, i < l.length ∧ l.getD i z = x := by
 obtain ⟨i, hi, e⟩ := List.getElem_of_mem h
 exact ⟨i, hi, by rw [getD_lt _ _ hi]; exact e⟩
theorem dig_mod {r a d : Nat} (h : d < a) : (r * a + d) % a = d := by rw [Nat.add_comm, Nat.add_mul_mod_self_right, Nat.mod_eq_of_lt h]
theorem dig_div {r a d : Nat} (h : d < a) : (r * a + d) / a = r := by rw [Nat.add_comm, Nat.add_mul_div_right _ _ (by omega), Nat.div_eq_of_lt h, Nat.zero_add]
/-- The row of a number: its digits, from the last list on. -/
def rowOf (ls : List (List Int)) : Nat → Nat → List Int → List Int
 | 0, _, row => row
 | m + 1, r, row => rowOf ls m (r / (ls.getD m []).length) (row.set m ((ls.getD m []).getD (r % (ls.getD m []).length) 0))
def size (ls : List (List Int)) : Nat → Nat
 | 0 => 1
 | m + 1 => size ls m * (ls.getD m []).length
/-- Each row of the lists is the row of some number. -/
theorem row_of (ls : List (List Int)) (hls : Lists ls) (x : List Int) (hx : Row ls x) : ∀ (m : Nat) (row : List Int), m ≤ ls.length → row.length = ls.length → (∀ i, m ≤ i → i < ls.length → row.getD i 0 = x.getD i 0) → ∃ r, r < size ls m ∧ rowOf ls m r row = x
 | 0, row, _, hl, he => by
  refine ⟨0, Nat.one_pos, ?_⟩
  show row = x
  apply List.ext_getElem (by rw [hl, hx.1])
  intro i h1 h2
  have h := he i (Nat.zero_le _) (by omega)
  rwa [getD_lt _ _ h1, getD_lt _ _ h2] at h
 | m + 1, row, hm, hl, he => by
  have hi : m < ls.length := by omega
  have hlen := hls.at hi
  obtain ⟨d, hd, hxd⟩ := mem_getD (0 : Int) (hx.2 m hi)
  obtain ⟨r, hr, hrow⟩ := row_of ls hls x hx m (row.set m ((ls.getD m []).getD d 0)) (by omega) (by rw [List.length_set]; exact hl) (fun i h1 h2 => by
   rw [getD_set _ _ _ _ _ (by omega)]
   by_cases hmi : m = i
   ·
    rw [if_pos hmi, hxd, hmi]
   ·
    rw [if_neg hmi]; exact he i (by omega) h2)
  refine ⟨r * (ls.getD m []).length + d, ?_, ?_⟩
  ·
   show _ < size ls m * (ls.getD m []).length
   have h1 : (r + 1) * (ls.getD m []).length ≤ size ls m * (ls.getD m []).length := Nat.mul_le_mul_right _ hr
   rw [Nat.add_mul, Nat.one_mul] at h1
   omega
  ·
   show rowOf ls m ((r * (ls.getD m []).length + d) / (ls.getD m []).length) (row.set m ((ls.getD m []).getD ((r * (ls.getD m []).length + d) % (ls.getD m []).length) 0)) = x
   rw [dig_mod hd, dig_div hd]
   exact hrow
/-- What the product puts in, told: the row of the number. -/
theorem prod_row (ls : List (List Int)) (hls : Lists ls) (N : Int) (out : List (List Int)) (ho : out.length ≤ 5000) (a : Int) : ∀ (m k : Nat) (row : List Int) (r : Nat), m ≤ ls.length → m < k → row.length = ls.length → r ≤ 5000 →
  ∃ (k' : Nat), k' + m + 1 = k ∧ jigsawref09_Product.l2 k ls N out a row (r : Int) ((m : Int) - 1) = jigsawref09_Product.l1 k' ls N (out ++ [rowOf ls m r row]) (wrap64 (a + 1))
 | 0, k + 1, row, r, hm, hk, hl, h1 => by
  refine ⟨k, rfl, ?_⟩
  rw [jigsawref09_Product.l2, ind_, ipo_]
  rfl
 | m + 1, k + 1, row, r, hm, hk, hl, h1 => by
  have hi : m < ls.length := by omega
  have hlen := hls.at hi
  have h8 := hls.1
  have e1 : (((m + 1 : Nat) : Int) - 1) = (m : Int) := by omega
  have hne : ¬ ((ls.getD m []).length : Int) = 0 := by omega
  obtain ⟨t, ht⟩ : ∃ t, r % (ls.getD m []).length = t := ⟨_, rfl⟩
  obtain ⟨d, hd⟩ : ∃ d, r / (ls.getD m []).length = d := ⟨_, rfl⟩
  have e2 : Int.tmod (r : Int) ((ls.getD m []).length : Int) = (t : Int) := by rw [Int.tmod_eq_emod_of_nonneg (by omega), ← ht]; rfl
  have e3 : Int.tdiv (r : Int) ((ls.getD m []).length : Int) = (d : Int) := by rw [Int.tdiv_eq_ediv_of_nonneg (by omega), ← hd]; rfl
  have m1 : t < (ls.getD m []).length := by rw [← ht]; exact Nat.mod_lt r hlen.1
  have d1 : d ≤ r := by rw [← hd]; exact Nat.div_le_self r _
  have e4 : wrap64 (d : Int) = (d : Int) := wrap_id (by omega) (by omega)
  have e5 : wrap64 ((m : Int) - 1) = (m : Int) - 1 := wrap_id (by omega) (by omega)
  rw [jigsawref09_Product.l2, e1, ipo_, ipo_, if_pos (nlt hi), rdL_at, if_neg hne, e2, ipo_, if_pos (nlt m1), hl, if_pos (nlt hi), e3, e4, e5, Int.toNat_natCast, rd_at]
  obtain ⟨k', hk', h'⟩ := prod_row ls hls N out ho a m k (row.set m ((ls.getD m []).getD t 0)) d (Nat.le_of_succ_le hm) (Nat.lt_of_succ_lt_succ hk) (by rw [List.length_set]; exact hl) (Nat.le_trans d1 h1)
  refine ⟨k', by omega, ?_⟩
  rw [h', rowOf, ht, hd]
/-- The row of a number, all of it. -/
def rowN (ls : List (List Int)) (r : Nat) : List Int := rowOf ls ls.length r (List.replicate ls.length 0)
theorem rowOf_row (ls : List (List Int)) (hls : Lists ls) : ∀ (m r : Nat) (row : List Int), m ≤ ls.length → row.length = ls.length → (∀ i, m ≤ i → i < ls.length → row.getD i 0 ∈ ls.getD i []) → Row ls (rowOf ls m r row)
 | 0, r, row, _, hl, h => ⟨hl, fun i hi => h i (Nat.zero_le _) hi⟩
 | m + 1, r, row, hm, hl, h => by
  have hi : m < ls.length := by omega
  have hlen := hls.at hi
  refine rowOf_row ls hls m _ _ (by omega) (by rw [List.length_set]; exact hl) (fun i h1 h2 => ?_)
  rw [getD_set _ _ _ _ _ (by omega)]
  by_cases hmi : m = i
  ·
   rw [if_pos hmi]; subst hmi
   have ht := Nat.mod_lt r hlen.1
   rw [getD_lt (ls.getD m []) 0 ht]; exact List.getElem_mem _
  ·
   rw [if_neg hmi]; exact h i (by omega) h2
theorem rowN_row (ls : List (List Int)) (hls : Lists ls) (r : Nat) : Row ls (rowN ls r) := rowOf_row ls hls _ _ _ (Nat.le_refl _) (by simp) (fun i h1 h2 => by omega)
theorem size_step (ls : List (List Int)) (hls : Lists ls) {j : Nat} (hj : j < ls.length) : size ls j ≤ size ls (j + 1) := Nat.le_mul_of_pos_right _ (hls.at hj).1
theorem size_mono (ls : List (List Int)) (hls : Lists ls) : ∀ (m j : Nat), ls.length = j + m → size ls j ≤ size ls ls.length
 | 0, j, e => by rw [e]; exact Nat.le_refl _
 | m + 1, j, e => Nat.le_trans (size_step ls hls (by omega)) (size_mono ls hls m (j + 1) (by omega))
theorem prodW_l1 (ls : List (List Int)) (hls : Lists ls) (N : Nat) (hN : N ≤ 4000) : ∀ (m j k : Nat), N = j + m → 12 * m + 20 < k →
  jigsawref09_Product.l1 k ls (N : Int) ((List.range j).map (rowN ls)) (j : Int) = some ((List.range N).map (rowN ls))
 | 0, j, k + 1, e, hk => by
  obtain rfl : N = j := by omega
  rw [jigsawref09_Product.l1, ino_]
 | m + 1, j, k + 1, e, hk => by
  have h8 := hls.1
  have ew : wrap64 ((ls.length : Int) - 1) = (ls.length : Int) - 1 := wrap_id (by omega) (by omega)
  rw [jigsawref09_Product.l1, ipo_, ipo_, ipo_, ew, Int.toNat_natCast]
  obtain ⟨k', hk', h'⟩ := prod_row ls hls (N : Int) ((List.range j).map (rowN ls)) (by simp; omega) (j : Int) ls.length k (List.replicate ls.length 0) j (by omega) (by omega) (by simp) (by omega)
  have e2 : (List.range j).map (rowN ls) ++ [rowOf ls ls.length j (List.replicate ls.length 0)] = (List.range (j + 1)).map (rowN ls) := by rw [List.range_succ, List.map_append]; rfl
  rw [h', wrap_succ' (by omega), e2]
  exact prodW_l1 ls hls N hN m (j + 1) k' (by omega) (by omega)
theorem prodW_l0 (ls : List (List Int)) (hls : Lists ls) (hS : size ls ls.length ≤ 4000) : ∀ (m j k : Nat), ls.length = j + m → m + 50000 < k →
  jigsawref09_Product.l0 k ls 4000 (size ls j : Int) (j : Int) = some ((List.range (size ls ls.length)).map (rowN ls))
 | 0, j, k + 1, e, hk => by
  obtain rfl : ls.length = j := by omega
  have h := prodW_l1 ls hls (size ls ls.length) hS (size ls ls.length) 0 k (by omega) (by omega)
  rw [jigsawref09_Product.l0, ino_]
  exact h
 | m + 1, j, k + 1, e, hk => by
  have hi : j < ls.length := by omega
  have h8 := hls.1
  have hle : size ls (j + 1) ≤ 4000 := Nat.le_trans (size_mono ls hls m (j + 1) (by omega)) hS
  have ew : wrap64 ((size ls j : Int) * ((ls.getD j []).length : Int)) = (size ls (j + 1) : Int) := by
   rw [show (size ls j : Int) * ((ls.getD j []).length : Int) = (size ls (j + 1) : Int) from (Int.natCast_mul _ _).symm]
   exact wrap_id (by omega) (by omega)
  rw [jigsawref09_Product.l0, if_pos (nlt hi), ipo_, rdL_at, ew, ino_, wsu_]
  exact prodW_l0 ls hls hS m (j + 1) k (by omega) (by omega)
theorem solW_l1 (n : Nat) (hn : n ≤ 4) (ls : List (List Int)) (hl : ls.length = 2 * n) (rows : List (List Int)) (hlen : rows.length ≤ 4000) (hr : ∀ r ∈ rows, Row ls r) : ∀ (m j k : Nat) (out : List (List Int)), rows.length = j + m → m + 30 < k → out.length ≤ j → (∀ x, x ∈ out ↔ x ∈ rows.take j ∧ ∃ i, i < x.length ∧ hit n x i = true) →
  ∃ out', out'.length ≤ 4000 ∧ (∀ x, x ∈ out' ↔ x ∈ rows ∧ ∃ i, i < x.length ∧ hit n x i = true) ∧ jigsawref10_Solutions.l1 k rows out (j : Int) 12 (iota 0 n) (iota n n) [] [] [] 0 [] = some (out', true)
 | 0, j, k + 1, out, e, hk, ho, hg => by
  refine ⟨out, by omega, fun x => ?_, ?_⟩
  ·
   rw [hg x, List.take_of_length_le (by omega)]
  ·
   rw [jigsawref10_Solutions.l1, ino_]
 | m + 1, j, k + 1, out, e, hk, ho, hg => by
  have hj : j < rows.length := by omega
  have hrow := hr (rows.getD j []) (by rw [getD_lt _ _ hj]; exact List.getElem_mem _)
  obtain ⟨b, hb, h⟩ := holds_f (rows.getD j []) n (by rw [hrow.1]; exact hl) hn (k := k) (by omega)
  rw [jigsawref10_Solutions.l1, if_pos (nlt hj), ipo_, rdL_at, h, obs_]
  cases b with
  | true =>
   rw [if_pos rfl, ipo_, wrap_succ' (by omega)]
   refine solW_l1 n hn ls hl rows hlen hr m (j + 1) k _ (by omega) (by omega) (by simp; omega) (fun x => ?_)
   rw [← take_step rows [] hj, List.mem_append, List.mem_append, List.mem_singleton, hg x]
   constructor
   ·
    rintro (⟨h1, h2⟩ | rfl)
    ·
     exact ⟨Or.inl h1, h2⟩
    ·
     exact ⟨Or.inr rfl, hb.1 rfl⟩
   ·
    rintro ⟨h1 | h1, h2⟩
    ·
     exact Or.inl ⟨h1, h2⟩
    ·
     exact Or.inr h1
  | false =>
   rw [ind_, wrap_succ' (by omega)]
   refine solW_l1 n hn ls hl rows hlen hr m (j + 1) k out (by omega) (by omega) (by omega) (fun x => ?_)
   rw [← take_step rows [] hj, List.mem_append, List.mem_singleton, hg x]
   constructor
   ·
    exact fun ⟨h1, h2⟩ => ⟨Or.inl h1, h2⟩
   ·
    rintro ⟨h1 | rfl, h2⟩
    ·
     exact ⟨h1, h2⟩
    ·
     exact absurd (hb.2 h2) (by decide)
/-- The solutions, where they are few: each row that makes the clause hold, and no other one. -/
def Whole (n : Nat) (ls rows : List (List Int)) : Prop := rows.length ≤ 4000 ∧ ∀ x, x ∈ rows ↔ Good n ls x
theorem solW_l0 (p q : List Int) (n : Nat) (hn : n ≤ 4) (hp : p.length = n) (hq : q.length = n) (ls : List (List Int)) (hls : Lists ls) (hl : ls.length = 2 * n) : ∀ (m j k : Nat), ls.length = j + m → m + 60000 < k → size ls j ≤ 4000 →
  ∃ (rows : List (List Int)) (few : Bool), (few = true → Whole n ls rows) ∧ jigsawref10_Solutions.l0 k ls 4000 (size ls j : Int) (j : Int) 12 p q [] [] [] 0 [] = some (rows, few)
 | 0, j, k + 1, e, hk, hN => by
  obtain rfl : ls.length = j := by omega
  have c := prodW_l0 ls hls hN ls.length 0 k (by omega) (by have := hls.1; omega)
  obtain ⟨out, f, g, h⟩ := solW_l1 n hn ls hl ((List.range (size ls ls.length)).map (rowN ls)) (by simp; omega) (fun x hx => by obtain ⟨r, _, rfl⟩ := List.mem_map.1 hx; exact rowN_row ls hls r) _ 0 k [] (Nat.zero_add _).symm (by simp; omega) (by simp) (fun x => by simp)
  refine ⟨out, true, fun _ => ⟨f, fun x => ?_⟩, ?_⟩
  ·
   rw [g x]
   constructor
   ·
    rintro ⟨h1, h2⟩
    obtain ⟨r, _, rfl⟩ := List.mem_map.1 h1
    exact ⟨rowN_row ls hls r, h2⟩
   ·
    rintro ⟨h1, h2⟩
    obtain ⟨r, hr, hrow⟩ := row_of ls hls x h1 ls.length (List.replicate ls.length 0) (Nat.le_refl _) (by simp) (fun i h3 h4 => by omega)
    exact ⟨List.mem_map.2 ⟨r, List.mem_range.2 hr, hrow⟩, h2⟩
  ·
   have c' : jigsawref09_Product.f k ls 4000 = some ((List.range (size ls ls.length)).map (rowN ls)) := c
   rw [jigsawref10_Solutions.l0, ino_, local_f p q n hp hq hn (by omega), obs_, c', obs_]
   exact h
 | m + 1, j, k + 1, e, hk, hN => by
  have hi : j < ls.length := by omega
  have h8 := hls.1
  have hlen := hls.at hi
  have hm : size ls (j + 1) ≤ 4000 * 11 := Nat.mul_le_mul hN hlen.2
  have ew : wrap64 ((size ls j : Int) * ((ls.getD j []).length : Int)) = (size ls (j + 1) : Int) := by
   rw [show (size ls j : Int) * ((ls.getD j []).length : Int) = (size ls (j + 1) : Int) from (Int.natCast_mul _ _).symm]
   exact wrap_id (by omega) (by omega)
  rw [jigsawref10_Solutions.l0, if_pos (nlt hi), ipo_, rdL_at, ew]
  by_cases h : (size ls (j + 1) : Int) > 4000
  ·
   exact ⟨[], false, fun h' => absurd h' (by decide), by rw [if_pos h]⟩
  ·
   have h3 : size ls (j + 1) ≤ 4000 := Int.ofNat_le.1 (Int.not_lt.1 h)
   have h4 : m + 60000 < k := by clear hm ew h h3; omega
   rw [if_neg h, wrap_succ (by clear hm ew h h3 hk h4; omega)]
   exact solW_l0 p q n hn hp hq ls hls hl m (j + 1) k (by clear hm ew h h3 hk h4; omega) h4 h3
theorem hasAt_iff (rows : List (List Int)) (i : Nat) (v : Int) : hasAt rows i v = true ↔ ∃ x, x ∈ rows ∧ x.getD i 0 = v := by
 unfold hasAt
 rw [List.any_eq_true]
 constructor
 ·
  exact fun ⟨x, h1, h2⟩ => ⟨x, h1, beq_iff_eq.1 h2⟩
 ·
  exact fun ⟨x, h1, h2⟩ => ⟨x, h1, beq_iff_eq.2 h2⟩
/-- What is in a solution is what can be had. -/
theorem at_can (n : Nat) (ls rows : List (List Int)) (hls : Lists ls) (hw : Whole n ls rows) (i : Nat) (hi : i < ls.length) (v : Int) (hv : v ∈ ls.getD i []) : hasAt rows i v = canB n ls i v := by
 rw [Bool.eq_iff_iff, hasAt_iff, canB_iff]
 constructor
 ·
  rintro ⟨x, hx, rfl⟩
  obtain ⟨hrow, t, ht, hh⟩ := (hw.2 x).1 hx
  have ht2 : t < ls.length := by rw [← hrow.1]; exact ht
  unfold hit at hh
  have hh' := beq_iff_eq.1 hh
  refine ⟨t, ht2, ?_⟩
  by_cases hti : t = i
  ·
   exact Or.inl ⟨hti, by rw [← hti]; exact hh'⟩
  ·
   exact Or.inr ⟨hti, by rw [← hh']; exact hrow.2 t ht2⟩
 ·
  rintro ⟨t, ht, hc⟩
  have build : ∀ (f : Nat → Int), (∀ j, j < ls.length → f j ∈ ls.getD j []) → f i = v → f t = want n t → ∃ x, x ∈ rows ∧ x.getD i 0 = v := by
   intro f hf hfi hft
   have hat : ∀ j, j < ls.length → ((List.range ls.length).map f).getD j 0 = f j := fun j hj => by
    rw [getD_map f (List.range ls.length) 0 0 (by simpa using hj), getD_lt _ _ (by simpa using hj)]; simp
   refine ⟨(List.range ls.length).map f, (hw.2 _).2 ⟨⟨by simp, fun j hj => by rw [hat j hj]; exact hf j hj⟩, t, by simpa using ht, ?_⟩, by rw [hat i hi]; exact hfi⟩
   unfold hit
   rw [hat t ht, hft]; exact beq_iff_eq.2 rfl
  have hd : ∀ j, j < ls.length → (ls.getD j []).getD 0 0 ∈ ls.getD j [] := fun j hj => by rw [getD_lt (ls.getD j []) 0 (hls.at hj).1]; exact List.getElem_mem _
  rcases hc with ⟨hti, hv'⟩ | ⟨hti, hw'⟩
  ·
   refine build (fun j => if j = i then v else (ls.getD j []).getD 0 0) (fun j hj => ?_) (if_pos rfl) (by show (if t = i then _ else _) = _; rw [if_pos hti]; exact hv')
   show (if j = i then v else _) ∈ _
   by_cases h : j = i
   ·
    rw [if_pos h, h]; exact hv
   ·
    rw [if_neg h]; exact hd j hj
  ·
   refine build (fun j => if j = i then v else if j = t then want n t else (ls.getD j []).getD 0 0) (fun j hj => ?_) (if_pos rfl) (by show (if t = i then _ else _) = _; rw [if_neg hti, if_pos rfl])
   show (if j = i then v else if j = t then _ else _) ∈ _
   by_cases h : j = i
   ·
    rw [if_pos h, h]; exact hv
   ·
    rw [if_neg h]
    by_cases h2 : j = t
    ·
     rw [if_pos h2, h2]; exact hw'
    ·
     rw [if_neg h2]; exact hd j hj
theorem kept_left (n : Nat) (ls rows : List (List Int)) (hls : Lists ls) (hw : Whole n ls rows) (i : Nat) (hi : i < ls.length) : kept ls rows i = left n ls i := by
 unfold kept left
 apply List.filter_congr
 exact fun v hv => at_can n ls rows hls hw i hi v hv
/-- The document's answer is the exact one. -/
theorem doc_exact (n : Nat) (h1 : 1 ≤ n) (ls rows : List (List Int)) (hls : Lists ls) (hl : ls.length = 2 * n) (hw : Whole n ls rows) (r : List (List Int) × Bool) (hr : (r = ((List.range ls.length).map (left n ls), true) ∧ ∀ i, i < ls.length → left n ls i ≠ []) ∨ (r = ([], false) ∧ ∃ i, i < ls.length ∧ left n ls i = [])) :
  (if rows.length = 0 then ([], false) else ((List.range ls.length).map (kept ls rows), true)) = r := by
 rcases hr with ⟨rfl, h0⟩ | ⟨rfl, i, hi, hz⟩
 ·
  rw [if_neg]
  ·
   congr 1
   apply List.map_congr_left
   exact fun i hi => kept_left n ls rows hls hw i (List.mem_range.1 hi)
  ·
   intro hz
   have hnil := List.length_eq_zero_iff.1 hz
   apply h0 0 (by omega)
   rw [← kept_left n ls rows hls hw 0 (by omega), hnil]
   unfold kept
   exact List.filter_eq_nil_iff.2 (fun v _ => by simp [hasAt])
 ·
  rw [if_pos]
  rw [List.length_eq_zero_iff]
  apply List.eq_nil_iff_forall_not_mem.2
  intro x hx
  have hrow := ((hw.2 x).1 hx).1
  have hin : x.getD i 0 ∈ kept ls rows i := List.mem_filter.2 ⟨hrow.2 i hi, (hasAt_iff rows i _).2 ⟨x, hx, rfl⟩⟩
  rw [kept_left n ls rows hls hw i hi, hz] at hin
  cases hin
/-- What the program leaves, told as lists, is the document's. -/
theorem prog_doc (n : Nat) (h1 : 1 ≤ n) (ms : List (Fin 2048)) (hl : ms.length = 2 * n) (hs : ∀ c ∈ ms, c.val ≠ 0) (r : List S58 × Bool) (h : Nat → Bool) (Y : Nat → S58) (eh : ∀ i, h i = decide (want n i ∈ LL (ms.getD i 0))) (eY : ∀ i, Y i = XM (ms.getD i 0) (decide (i < n))) (ho : Out (ms.map D) h Y r)
  (d : List (List Int) × Bool) (hd : (d = ((List.range (ms.map LL).length).map (left n (ms.map LL)), true) ∧ ∀ i, i < (ms.map LL).length → left n (ms.map LL) i ≠ []) ∨ (d = ([], false) ∧ ∃ i, i < (ms.map LL).length ∧ left n (ms.map LL) i = [])) :
  r.2 = d.2 ∧ Listed r.1 d.1 ∧ d.1.length ≤ 8 * n ∧ ∀ i, i < d.1.length → (d.1.getD i []).length ≤ 11 := by
 have hlenD : (ms.map D).length = 2 * n := by simp [hl]
 have hlenL : (ms.map LL).length = 2 * n := by simp [hl]
 have atD : ∀ i, i < 2 * n → (ms.map D).getD i z58 = D (ms.getD i 0) := fun i hi => getD_map D ms 0 z58 (by omega)
 have atL : ∀ i, i < 2 * n → (ms.map LL).getD i [] = LL (ms.getD i 0) := fun i hi => getD_map LL ms 0 [] (by omega)
 have wb : ∀ i, want n i = bi (decide (i < n)) := fun i => by rw [want_bool]; rfl
 have len11 : ∀ i, i < 2 * n → (left n (ms.map LL) i).length ≤ 11 := fun i hi => by
  unfold left
  refine Nat.le_trans (List.length_filter_le _ _) ?_
  rw [atL i hi]; exact (len_all _).1
 have atR : ∀ i, i < 2 * n → ((List.range (ms.map LL).length).map (left n (ms.map LL))).getD i [] = left n (ms.map LL) i := fun i hi => by
  rw [getD_map (left n (ms.map LL)) (List.range (ms.map LL).length) 0 [] (by simp [hl]; exact hi), getD_lt _ _ (by simp [hl]; exact hi)]; simp
 have lenR : ((List.range (ms.map LL).length).map (left n (ms.map LL))).length = 2 * n := by simp [hl]
 have hIn : ∀ i, i < 2 * n → (h i = true ↔ want n i ∈ (ms.map LL).getD i []) := fun i hi => by rw [eh i, atL i hi, decide_eq_true_iff]
 -- all of a list is left where another place can make the clause hold
 have other : ∀ i t, i < 2 * n → t < 2 * n → t ≠ i → h t = true → left n (ms.map LL) i = LL (ms.getD i 0) := fun i t hi ht hti hh => by
  unfold left
  rw [← atL i hi]
  apply List.filter_eq_self.2
  exact fun v _ => (canB_iff n (ms.map LL) i v).2 ⟨t, by omega, Or.inr ⟨hti, (hIn t ht).1 hh⟩⟩
 have noth : (∀ i, i < 2 * n → h i = false) → ∀ i, i < 2 * n → left n (ms.map LL) i = [] := fun h0 i hi => by
  unfold left
  apply List.filter_eq_nil_iff.2
  intro v hv hc
  obtain ⟨t, ht, hc⟩ := (canB_iff n (ms.map LL) i v).1 hc
  have ht2 : t < 2 * n := by omega
  have hf := h0 t ht2
  rcases hc with ⟨rfl, rfl⟩ | ⟨_, hw⟩
  ·
   rw [(hIn t ht2).2 hv] at hf; cases hf
  ·
   rw [(hIn t ht2).2 hw] at hf; cases hf
 rcases ho with ⟨rfl, h0⟩ | ⟨rfl, a, b, hab, hb, ha', hb'⟩ | ⟨c, hc, hhc, hone, rfl⟩
 ·
  rcases hd with ⟨rfl, hne⟩ | ⟨rfl, _⟩
  ·
   exact absurd (noth (fun i hi => h0 i (by omega)) 0 (by omega)) (hne 0 (by omega))
  ·
   exact ⟨rfl, ⟨rfl, fun i hi => absurd hi (Nat.not_lt_zero _)⟩, Nat.zero_le _, fun i hi => absurd hi (Nat.not_lt_zero _)⟩
 ·
  have all : ∀ i, i < 2 * n → left n (ms.map LL) i = LL (ms.getD i 0) := fun i hi => by
   by_cases hai : a = i
   ·
    exact other i b hi (by omega) (by omega) hb'
   ·
    exact other i a hi (by omega) hai ha'
  rcases hd with ⟨rfl, hne⟩ | ⟨rfl, i, hi, hz⟩
  ·
   refine ⟨rfl, ⟨?_, fun i hi k hk => ?_⟩, ?_, fun i hi => ?_⟩
   ·
    exact hlenD.trans lenR.symm
   ·
    have hi2 : i < 2 * n := by have : i < (ms.map D).length := hi; omega
    show dom_Dom_List.f k ((ms.map D).getD i z58).f0 ((ms.map D).getD i z58).f1 ((ms.map D).getD i z58).f2 ((ms.map D).getD i z58).f3 ((ms.map D).getD i z58).f4 = _
    rw [atD i hi2]
    show _ = some (((List.range (ms.map LL).length).map (left n (ms.map LL))).getD i [])
    rw [atR i hi2, all i hi2]
    exact list_one _ hk
   ·
    exact Nat.le_trans (Nat.le_of_eq lenR) (by omega)
   ·
    have hi2 : i < 2 * n := by have : i < ((List.range (ms.map LL).length).map (left n (ms.map LL))).length := hi; omega
    show (((List.range (ms.map LL).length).map (left n (ms.map LL))).getD i []).length ≤ 11
    rw [atR i hi2]; exact len11 i hi2
  ·
   have hi2 : i < 2 * n := by omega
   rw [all i hi2] at hz
   have hne := ne_all (ms.getD i 0) (hs _ (by rw [getD_lt _ _ (by omega)]; exact List.getElem_mem _))
   rw [hz] at hne
   exact absurd rfl hne
 ·
  have hc2 : c < 2 * n := by omega
  have hinc : bi (decide (c < n)) ∈ LL (ms.getD c 0) := by rw [eh c, wb c] at hhc; exact of_decide_eq_true hhc
  have at_c : left n (ms.map LL) c = [bi (decide (c < n))] := by
   rw [← one_all _ _ hinc]
   unfold left
   rw [← atL c hc2]
   apply List.filter_congr
   intro v hv
   rw [Bool.eq_iff_iff, canB_iff, beq_iff_eq]
   constructor
   ·
    rintro ⟨t, ht, ⟨rfl, rfl⟩ | ⟨htc, hw⟩⟩
    ·
     exact wb t
    ·
     exact absurd (hone t (by omega) ((hIn t (by omega)).2 hw)) htc
   ·
    exact fun hv' => ⟨c, by omega, Or.inl ⟨rfl, by rw [wb c]; exact hv'⟩⟩
  have off : ∀ i, i < 2 * n → c ≠ i → left n (ms.map LL) i = LL (ms.getD i 0) := fun i hi hci => other i c hi hc2 hci hhc
  rcases hd with ⟨rfl, hne⟩ | ⟨rfl, i, hi, hz⟩
  ·
   refine ⟨rfl, ⟨?_, fun i hi k hk => ?_⟩, ?_, fun i hi => ?_⟩
   ·
    exact (List.length_set ..).trans (hlenD.trans lenR.symm)
   ·
    have hi2 : i < 2 * n := by have : i < ((ms.map D).set c (Y c)).length := hi; rw [List.length_set] at this; omega
    show dom_Dom_List.f k (((ms.map D).set c (Y c)).getD i z58).f0 (((ms.map D).set c (Y c)).getD i z58).f1 (((ms.map D).set c (Y c)).getD i z58).f2 (((ms.map D).set c (Y c)).getD i z58).f3 (((ms.map D).set c (Y c)).getD i z58).f4 = some (((List.range (ms.map LL).length).map (left n (ms.map LL))).getD i [])
    rw [atR i hi2, getD_set _ _ _ _ _ (by omega)]
    by_cases hci : c = i
    ·
     subst hci
     rw [if_pos rfl, at_c, eY c]
     exact xlist_one hinc hk
    ·
     rw [if_neg hci, off i hi2 hci, atD i hi2]
     exact list_one _ hk
   ·
    exact Nat.le_trans (Nat.le_of_eq lenR) (by omega)
   ·
    have hi2 : i < 2 * n := by have : i < ((List.range (ms.map LL).length).map (left n (ms.map LL))).length := hi; omega
    show (((List.range (ms.map LL).length).map (left n (ms.map LL))).getD i []).length ≤ 11
    rw [atR i hi2]; exact len11 i hi2
  ·
   have hi2 : i < 2 * n := by omega
   by_cases hci : c = i
   ·
    subst hci; rw [at_c] at hz; cases hz
   ·
    rw [off i hi2 hci] at hz
    have hne := ne_all (ms.getD i 0) (hs _ (by rw [getD_lt _ _ (by omega)]; exact List.getElem_mem _))
    rw [hz] at hne
    exact absurd rfl hne
/-- THE PLAIN LAW: whatever the input, the answer is true. -/
theorem clauseFilters (a0 : Int) (l1 l3 l4 : List Int) (a4 a5 : Int) (l6 : List (List Int)) (a1 : Int) (_ : (Lit.int .u8 a0).wf = true) (hw1 : ∀ x ∈ l1, (Lit.int .u8 x).wf = true) (hw3 : ∀ x ∈ l3, (Lit.int .u8 x).wf = true) (_ : ∀ x ∈ l4, (Lit.int .i8 x).wf = true) (_ : (Lit.int .i16 a4).wf = true) (_ : (Lit.int .u8 a5).wf = true) (_ : (Lit.int .u8 a1).wf = true) :
  ∃ k, jigsawlaw14_ClauseFilters.f k a0 l1 l3 l4 a4 a5 l6 a1 = some true := by
 refine ⟨1000000, ?_⟩
 obtain ⟨n, p, q, ms, h1, hn, hp, hq, hl, hs, hm⟩ := case_f a0 a4 a5 l1 l3 l4 l6 (fun x hx => wf_u8 (hw1 x hx)) (fun x hx => wf_u8 (hw3 x hx)) (k := 1000000) (by decide)
 have hlenL : (ms.map LL).length = 2 * n := by simp [hl]
 have atD : ∀ i, i < 2 * n → (ms.map D).getD i z58 = D (ms.getD i 0) := fun i hi => getD_map D ms 0 z58 (by omega)
 have hls : Lists (ms.map LL) := ⟨by omega, fun l h => by obtain ⟨m, hm', rfl⟩ := List.mem_map.1 h; exact ⟨Nat.pos_of_ne_zero (ne_all m (hs m hm')), (len_all m).1⟩⟩
 obtain ⟨rows, few, hw, e1⟩ := solW_l0 p q n hn hp.1 hq.1 (ms.map LL) hls hlenL (ms.map LL).length 0 1000000 (by omega) (by omega) (show 1 ≤ 4000 by decide)
 have e1' : jigsawref10_Solutions.f 1000000 12 p q [] [] [] 0 [] (ms.map LL) 4000 = some (rows, few) := e1
 have wb : ∀ i, want n i = bi (decide (i < n)) := fun i => by rw [want_bool]; rfl
 have wr : ∀ i, -5 ≤ want n i ∧ want n i ≤ 5 := fun i => by unfold want; split <;> omega
 obtain ⟨r, ho, e2⟩ := filt_f p q n h1 hn hp hq (ms.map D) (by simp [hl]) (fun d hd => by obtain ⟨m, hm', rfl⟩ := List.mem_map.1 hd; exact size_all m (hs m hm')) (fun i => decide (want n i ∈ LL (ms.getD i 0))) (fun i => XM (ms.getD i 0) (decide (i < n)))
  (fun i hi => by rw [atD i (by simpa [hl] using hi), has_one _ (wr i)]) (fun i hi hh k hk => by
   have hh' := of_decide_eq_true hh
   rw [wb i] at hh'
   rw [atD i (by simpa [hl] using hi), wb i]; exact only_one hh' hk) (k := 1000000) (by decide)
 obtain ⟨d, hd, e3⟩ := rfil_f p q n h1 hn hp hq (ms.map LL) hls hlenL (k := 1000000) (by decide)
 obtain ⟨g1, g2, g3, g4⟩ := prog_doc n h1 ms hl hs r _ _ (fun _ => rfl) (fun _ => rfl) ho d hd
 unfold jigsawlaw14_ClauseFilters.f
 rw [show jigsawlaw14_kind.f a1 = some 12 from rfl, obs_, hm, obs_]
 show (jigsawlaw14_doms.f 1000000 (ms.map LL)).bind _ = _
 rw [doms_f ms hs (by omega) (by decide), obs_]
 show (clause_Filter.f 1000000 12 p q [] [] [] 0 [] (ms.map D)).bind _ = _
 rw [e2, obs_]
 show (jigsawref14_Filter.f 1000000 12 p q [] [] [] 0 [] (ms.map LL)).bind _ = _
 rw [e3, obs_, wakes_true (by decide), obs_, if_pos rfl, if_neg (by rw [g1]; simp), lists_f r.1 d.1 g2 (by have := g2.1; omega) (by decide), obs_, same_f d.1 (by omega) g4 (by decide), obs_, if_pos rfl]
 show (jigsawref10_Solutions.f 1000000 12 p q [] [] [] 0 [] (ms.map LL) 4000).bind _ = _
 rw [e1', obs_]
 show jigsawlaw14_ClauseFilters.j0 (999999 + 1) (ms.map LL) r.2 d.1 (!few) 12 p q [] [] [] 0 [] = some true
 rw [jigsawlaw14_ClauseFilters.j0]
 cases few with
 | false => rw [if_pos (show (!false) = true from rfl)]
 | true =>
  have hW := hw rfl
  obtain ⟨rows2, few2, hw2, e4⟩ := solW_l0 p q n hn hp.1 hq.1 (ms.map LL) hls hlenL (ms.map LL).length 0 999999 (by omega) (by omega) (show 1 ≤ 4000 by decide)
  have e4' : jigsawref10_Solutions.f 999999 12 p q [] [] [] 0 [] (ms.map LL) 4000 = some (rows2, few2) := e4
  have e5 := up (f := fun k => jigsawref10_Solutions.f k 12 p q [] [] [] 0 [] (ms.map LL) 4000) (jigsawref10_Solutions.mono _ _ _ _ _ _ _ _ _ _) e4' (show 999999 ≤ 1000000 by decide)
  have e6 : some (rows2, few2) = some (rows, true) := e5.symm.trans e1'
  obtain ⟨rfl, rfl⟩ := Prod.mk.inj (Option.some.inj e6)
  have hx := ex_l0 (ms.map LL) rows2 hls hW.1 (fun x hx => ((hW.2 x).1 hx).1.1) (ms.map LL).length 0 999999 [] (by omega) (by omega) (by simp)
  rw [doc_exact n h1 (ms.map LL) rows2 hls hlenL hW d hd] at hx
  have hx' : jigsawref10_Exact.f 999999 12 p q [] [] [] 0 [] (ms.map LL) 4000 = some d := by
   unfold jigsawref10_Exact.f
   rw [e4', obs_]
   exact hx
  rw [ind_, hx', obs_, g1, if_pos (by simp), same_f d.1 (by omega) g4 (by decide), obs_]
end Go.Proofs.YtmhchlbbfpmdgaaGreatDoor.Pure
