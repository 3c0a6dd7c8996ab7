/- The plain law of MulFilters: what the walk computes answers true, for every input. -/
import Derived.Test.YtbhhbgoamomacaaGreatDoorXMFix23
import Derived.Test.YtbhhbgoamomacaaGreatDoorKMa
import Derived.Test.YtbhhbgoamomacaaGreatDoorKMb
import Derived.Test.YtbhhbgoamomacaaGreatDoorKMc
import Derived.Test.YtbhhbgoamomacaaGreatDoorKMd
namespace Go.Proofs.YtbhhbgoamomacaaGreatDoor.Pure
open Go.RowKit Go.Proofs.YtbhhbgoamomacaaGreatDoor.XMulFilters Go.Proofs.YtbhhbgoamomacaaGreatDoorW.PrintWords Go.Proofs.YtbhhbgoamomacaaGreatDoorW.PrintLast Go.Proofs.YtbhhbgoamomacaaGreatDoorW.PrintMore
set_option linter.unusedVariables false
theorem ind_ {c : Prop} [Decidable c] {α : Type} {a b : α} (h : ¬ c := by decide) : (if c then a else b) = b := if_neg h
theorem obs_ {α β : Type} (a : α) (f : α → Option β) : (some a).bind f = f a := rfl
theorem ino_ {c : Prop} [Decidable c] {α : Type} {a b : α} (h : ¬ c := by omega) : (if c then a else b) = b := if_neg h
theorem ipo_ {c : Prop} [Decidable c] {α : Type} {a b : α} (h : c := by omega) : (if c then a else b) = a := if_pos h
theorem wsu_ {j : Nat} (h : j ≤ 100000 := by omega) : wrap64 ((j : Int) + 1) = ((j + 1 : Nat) : Int) := wrap_succ h
def Near (x : List Int) : Prop := ∀ v ∈ x, -5 ≤ v ∧ v ≤ 5
theorem mem_vals {v : Int} : v ∈ vals ↔ -5 ≤ v ∧ v ≤ 5 := by
 unfold vals
 simp only [List.mem_cons, List.not_mem_nil, or_false]
 omega
theorem mem_L {m : Nat} {v : Int} : v ∈ L m ↔ (-5 ≤ v ∧ v ≤ 5) ∧ m.testBit (v + 5).toNat = true := by
 unfold L; rw [List.mem_filter, mem_vals]
theorem L_filter {m m' : Nat} {p : Int → Bool} (h : ∀ v, -5 ≤ v → v ≤ 5 → (v ∈ L m ↔ v ∈ L m' ∧ p v = true)) : L m = (L m').filter p := by
 unfold L
 rw [List.filter_filter]
 apply List.filter_congr
 intro v hv
 have hr := mem_vals.1 hv
 have h' := h v hr.1 hr.2
 rw [mem_L, mem_L] at h'
 rw [Bool.eq_iff_iff, Bool.and_eq_true]
 constructor
 ·
  intro h1
  have h2 := h'.1 ⟨hr, h1⟩
  exact ⟨h2.2, h2.1.2⟩
 ·
  exact fun h1 => (h'.2 ⟨⟨hr, h1.2⟩, h1.1⟩).2
def msk : List Int → Nat
 | [] => 0
 | v :: l => msk l ||| 1 <<< (v + 5).toNat
theorem msk_append (a b : List Int) : msk (a ++ b) = msk a ||| msk b := by
 induction a with
 | nil => simp [msk]
 | cons v a ih => rw [List.cons_append, msk, ih, msk, Nat.or_assoc, Nat.or_assoc, Nat.or_comm (msk b)]
theorem msk_bit (l : List Int) (i : Nat) : (msk l).testBit i = true ↔ ∃ v, v ∈ l ∧ (v + 5).toNat = i := by
 induction l with
 | nil => simp [msk]
 | cons v l ih =>
  rw [msk, Nat.testBit_or, Bool.or_eq_true, ih, Nat.one_shiftLeft, Nat.testBit_two_pow, decide_eq_true_iff]
  constructor
  ·
   rintro (⟨u, h1, h2⟩ | h)
   ·
    exact ⟨u, List.mem_cons_of_mem _ h1, h2⟩
   ·
    exact ⟨v, List.mem_cons_self, h⟩
  ·
   rintro ⟨u, h1, h2⟩
   rcases List.mem_cons.1 h1 with rfl | h1
   ·
    exact Or.inr h2
   ·
    exact Or.inl ⟨u, h1, h2⟩
theorem msk_lt {l : List Int} (h : Near l) : msk l < 2048 := by
 induction l with
 | nil => decide
 | cons v l ih =>
  have hv := h v List.mem_cons_self
  refine Nat.or_lt_two_pow (n := 11) (ih fun u hu => h u (List.mem_cons_of_mem _ hu)) ?_
  rw [Nat.one_shiftLeft]
  exact Nat.pow_lt_pow_right (by decide) (by omega)
theorem mem_msk {l : List Int} (h : Near l) {v : Int} : v ∈ L (msk l) ↔ v ∈ l := by
 rw [mem_L, msk_bit]
 constructor
 ·
  rintro ⟨hv, u, hu, e⟩
  have := h u hu
  have : u = v := by omega
  rwa [← this]
 ·
  exact fun hv => ⟨h v hv, v, hv, rfl⟩
def mk (l : List Int) : Fin 2048 := ⟨msk l % 2048, Nat.mod_lt _ (by decide)⟩
theorem mk_val {l : List Int} (h : Near l) : (mk l).val = msk l := Nat.mod_eq_of_lt (msk_lt h)
theorem mem_mk {l : List Int} (h : Near l) {v : Int} : v ∈ LL (mk l) ↔ v ∈ l := by
 unfold LL; rw [mk_val h]; exact mem_msk h
theorem mk_ne {l : List Int} (h : Near l) (h0 : l ≠ []) : (mk l).val ≠ 0 := by
 intro h1
 obtain ⟨v, hv⟩ := List.exists_mem_of_ne_nil l h0
 have h2 := (mem_mk h).2 hv
 have : LL (mk l) = [] := by unfold LL; rw [h1]; decide +kernel
 rw [this] at h2; cases h2
theorem mask_ext {m m' : Fin 2048} (h : ∀ v, v ∈ LL m ↔ v ∈ LL m') : m = m' := by
 apply Fin.ext
 apply Nat.eq_of_testBit_eq
 intro i
 by_cases hi : i < 11
 ·
  have h1 := h ((i : Int) - 5)
  unfold LL at h1
  rw [mem_L, mem_L, show ((i : Int) - 5 + 5).toNat = i by omega] at h1
  have hr : -5 ≤ (i : Int) - 5 ∧ (i : Int) - 5 ≤ 5 := by omega
  rw [Bool.eq_iff_iff]
  exact ⟨fun h2 => (h1.1 ⟨hr, h2⟩).2, fun h2 => (h1.2 ⟨hr, h2⟩).2⟩
 ·
  have h2 : 2 ^ 11 ≤ 2 ^ i := Nat.pow_le_pow_right (by decide) (by omega)
  rw [Nat.testBit_lt_two_pow (Nat.lt_of_lt_of_le m.isLt h2), Nat.testBit_lt_two_pow (Nat.lt_of_lt_of_le m'.isLt h2)]
theorem near_LL (m : Fin 2048) : Near (LL m) := (len_all m).2
theorem mk_LL (m : Fin 2048) : mk (LL m) = m := mask_ext fun _ => mem_mk (near_LL m)
theorem fold_mn : ∀ (l : List Int) (z : Int), (l.foldl mn z ≤ z) ∧ (∀ v ∈ l, l.foldl mn z ≤ v) ∧ (l.foldl mn z = z ∨ l.foldl mn z ∈ l)
 | [], z => ⟨Int.le_refl _, fun v hv => absurd hv List.not_mem_nil, Or.inl rfl⟩
 | a :: l, z => by
  obtain ⟨h1, h2, h3⟩ := fold_mn l (mn z a)
  have hz : mn z a ≤ z ∧ mn z a ≤ a ∧ (mn z a = z ∨ mn z a = a) := by unfold mn; split <;> omega
  rw [List.foldl_cons]
  refine ⟨by omega, fun v hv => ?_, ?_⟩
  ·
   rcases List.mem_cons.1 hv with rfl | hv
   ·
    omega
   ·
    exact h2 v hv
  ·
   rcases h3 with h3 | h3
   ·
    rw [h3]
    rcases hz.2.2 with h | h
    ·
     exact Or.inl h
    ·
     exact Or.inr (by rw [h]; exact List.mem_cons_self)
   ·
    exact Or.inr (List.mem_cons_of_mem _ h3)
theorem fold_mx : ∀ (l : List Int) (z : Int), (z ≤ l.foldl mx z) ∧ (∀ v ∈ l, v ≤ l.foldl mx z) ∧ (l.foldl mx z = z ∨ l.foldl mx z ∈ l)
 | [], z => ⟨Int.le_refl _, fun v hv => absurd hv List.not_mem_nil, Or.inl rfl⟩
 | a :: l, z => by
  obtain ⟨h1, h2, h3⟩ := fold_mx l (mx z a)
  have hz : z ≤ mx z a ∧ a ≤ mx z a ∧ (mx z a = z ∨ mx z a = a) := by unfold mx; split <;> omega
  rw [List.foldl_cons]
  refine ⟨by omega, fun v hv => ?_, ?_⟩
  ·
   rcases List.mem_cons.1 hv with rfl | hv
   ·
    omega
   ·
    exact h2 v hv
  ·
   rcases h3 with h3 | h3
   ·
    rw [h3]
    rcases hz.2.2 with h | h
    ·
     exact Or.inl h
    ·
     exact Or.inr (by rw [h]; exact List.mem_cons_self)
   ·
    exact Or.inr (List.mem_cons_of_mem _ h3)
theorem rd_at (l : List Int) (j : Nat) : rd l (j : Int) = l.getD j 0 := rfl
theorem rdL_at (l : List (List Int)) (j : Nat) : rd_L7 l (j : Int) = l.getD j [] := rfl
theorem rdD_at (l : List S61) (j : Nat) : rd_T61 l (j : Int) = l.getD j z61 := rfl
theorem getD_lt {α : Type} (l : List α) (z : α) {j : Nat} (h : j < l.length) : l.getD j z = l[j] := by
 rw [List.getD_eq_getElem?_getD, List.getElem?_eq_getElem h]; rfl
theorem getD_mem {α : Type} (l : List α) (z : α) {j : Nat} (h : j < l.length) : l.getD j z ∈ l := by
 rw [getD_lt _ _ h]; exact List.getElem_mem _
theorem getD_map {α β : Type} (f : α → β) (l : List α) (z : α) (y : β) {j : Nat} (h : j < l.length) : (l.map f).getD j y = f (l.getD j z) := by
 rw [getD_lt _ _ (by simpa using h), getD_lt _ _ h]; simp
theorem take_step {α : Type} (l : List α) (z : α) {j : Nat} (h : j < l.length) : l.take j ++ [l.getD j z] = l.take (j + 1) := by
 rw [getD_lt _ _ h]; simp
theorem nlt {a b : Nat} (h : a < b) : (a : Int) < (b : Int) := by omega
theorem nge {a b : Nat} (h : ¬ a < b) : ¬ (a : Int) < (b : Int) := by omega
theorem has_one (m : Fin 2048) {v : Int} (hv : -5 ≤ v ∧ v ≤ 5) : dom_Dom_Has.f (D m).f0 (D m).f1 (D m).f2 (D m).f3 (D m).f4 v = some (decide (v ∈ LL m)) := by
 have h := has_all m ⟨(v + 5).toNat, by omega⟩
 simp only [] at h
 rwa [show (((v + 5).toNat : Nat) : Int) - 5 = v by omega] at h
theorem list_one (m : Fin 2048) {k : Nat} (hk : 40 ≤ k) : dom_Dom_List.f k (D m).f0 (D m).f1 (D m).f2 (D m).f3 (D m).f4 = some (LL m) :=
 up (f := fun k => dom_Dom_List.f k _ _ _ _ _) (dom_Dom_List.mono _ _ _ _ _) (list_all m) hk
theorem place_one {v : Int} (hv : -5 ≤ v ∧ v ≤ 5) : dom_place.f v = some (if v < 0 then -64 else 0) := by
 have h := place_all ⟨(v + 5).toNat, by omega⟩
 simp only [] at h
 rwa [show (((v + 5).toNat : Nat) : Int) - 5 = v by omega] at h
def wd (neg pos : Bool) (m : Nat) : List Int := (if neg then [((m % 32 * 576460752303423488 : Nat) : Int)] else []) ++ (if pos then [((m / 32 : Nat) : Int)] else [])
def off (neg : Bool) : Int := if neg then -64 else 0
theorem put_one (neg pos : Bool) (m : Fin 2048) {v : Int} (hv : -5 ≤ v ∧ v ≤ 5) (hn : v < 0 → neg = true) (hp : 0 ≤ v → pos = true) :
  ∃ i : Nat, wrap64 (Int.tdiv (wrap64 (v - off neg)) 64) = (i : Int) ∧ i < (wd neg pos m.val).length ∧ 0 ≤ Int.tmod (wrap64 (v - off neg)) 64 ∧ (wd neg pos m.val).set i (Go.bits .or .u64 (rd (wd neg pos m.val) (i : Int)) (shl .u64 1 (Int.tmod (wrap64 (v - off neg)) 64))) = wd neg pos (m.val ||| 1 <<< (v + 5).toNat) := by
 have hs := split_all m ⟨(v + 5).toNat, by omega⟩
 simp only [] at hs
 by_cases h : v < 0
 ·
  obtain rfl := hn h
  have hl := put_lo ⟨m.val % 32, Nat.mod_lt _ (by decide)⟩ ⟨(v + 5).toNat, by omega⟩
  simp only [] at hl
  rw [ipo_, ipo_, Nat.or_zero] at hs
  rw [show (((v + 5).toNat : Nat) : Int) - 5 = v by omega] at hl
  have e1 : wrap64 (v - off true) = v + 64 := by rw [show off true = -64 from rfl, wrap_id (by omega) (by omega)]; omega
  have e2 : Int.tdiv (v + 64) 64 = 0 := Int.tdiv_eq_zero_of_lt (by omega) (by omega)
  refine ⟨0, by rw [e1, e2]; decide +kernel, by simp [wd], by rw [e1]; exact Int.tmod_nonneg _ (by omega), ?_⟩
  show List.set (((m.val % 32 * 576460752303423488 : Nat) : Int) :: _) 0 (Go.bits .or .u64 ((m.val % 32 * 576460752303423488 : Nat) : Int) (shl .u64 1 (Int.tmod (wrap64 (v - (-64))) 64))) = _
  rw [List.set_cons_zero, hl]
  unfold wd
  rw [hs.1, hs.2]; rfl
 ·
  obtain rfl := hp (by omega)
  rw [ino_, ino_, Nat.or_zero] at hs
  have hh := put_hi ⟨m.val / 32, by have := m.isLt; omega⟩ ⟨v.toNat, by omega⟩
  simp only [] at hh
  rw [show ((v.toNat : Nat) : Int) = v by omega] at hh
  have e0 : (v + 5).toNat - 5 = v.toNat := by omega
  cases neg with
  | true =>
   have e1 : wrap64 (v - off true) = v + 64 := by rw [show off true = -64 from rfl, wrap_id (by omega) (by omega)]; omega
   have e2 : Int.tdiv (v + 64) 64 = 1 := by rw [Int.tdiv_eq_ediv_of_nonneg (by omega)]; omega
   refine ⟨1, by rw [e1, e2]; decide +kernel, by simp [wd], by rw [e1]; exact Int.tmod_nonneg _ (by omega), ?_⟩
   show List.set [((m.val % 32 * 576460752303423488 : Nat) : Int), ((m.val / 32 : Nat) : Int)] 1 (Go.bits .or .u64 ((m.val / 32 : Nat) : Int) (shl .u64 1 (Int.tmod (wrap64 (v - (-64))) 64))) = _
   rw [hh.2]
   unfold wd
   rw [hs.1, hs.2, e0]; rfl
  | false =>
   have e1 : wrap64 (v - off false) = v := by rw [show off false = 0 from rfl, wrap_id (by omega) (by omega)]; omega
   have e2 : Int.tdiv v 64 = 0 := Int.tdiv_eq_zero_of_lt (by omega) (by omega)
   refine ⟨0, by rw [e1, e2]; decide +kernel, by simp [wd], by rw [e1]; exact Int.tmod_nonneg _ (by omega), ?_⟩
   show List.set [((m.val / 32 : Nat) : Int)] 0 (Go.bits .or .u64 ((m.val / 32 : Nat) : Int) (shl .u64 1 (Int.tmod (wrap64 (v - 0)) 64))) = _
   rw [hh.1]
   unfold wd
   rw [hs.1, hs.2, e0]; rfl
theorem wd_D (neg pos : Bool) (m : Fin 2048) (hm : m.val ≠ 0) (hn : neg = true ↔ ¬ (∀ v ∈ LL m, 0 ≤ v)) (hp : pos = true ↔ ¬ (∀ v ∈ LL m, v < 0)) : off neg = (D m).f0 ∧ wd neg pos m.val = (D m).f1 := by
 obtain ⟨h1, h2⟩ := low_all m
 rw [← h1] at hn
 rw [← h2] at hp
 unfold D DM
 cases neg with
 | false =>
  have e : m.val % 32 = 0 := Classical.byContradiction fun h => absurd (hn.2 h) (by decide)
  have ep : pos = true := hp.2 (by omega)
  rw [if_pos e, ep]; exact ⟨rfl, rfl⟩
 | true =>
  rw [if_neg (hn.1 rfl)]
  cases pos with
  | false =>
   have e : m.val / 32 = 0 := Classical.byContradiction fun h => absurd (hp.2 h) (by decide)
   rw [if_pos e]; exact ⟨rfl, rfl⟩
  | true => rw [if_neg (hp.1 rfl)]; exact ⟨rfl, rfl⟩
theorem of_l0 (neg pos : Bool) (l : List Int) (hl : l.length ≤ 2000) (hr : Near l) (hn : ∀ v ∈ l, v < 0 → neg = true) (hp : ∀ v ∈ l, 0 ≤ v → pos = true) : ∀ (m j k : Nat), l.length = j + m → m + 20 < k →
  dom_Of.l0 k l (l.length : Int) (j : Int) (off neg) (wd neg pos (msk (l.take j))) 0 0 0 = (dom_made.f (k - m - 1) (off neg) (wd neg pos (msk l))).bind fun bt => some (bt.1, bt.2.1, bt.2.2.1, bt.2.2.2.1, bt.2.2.2.2, 0)
 | 0, j, k + 1, e, hk => by
  rw [dom_Of.l0, ino_, List.take_of_length_le (by omega)]
  rfl
 | m + 1, j, k + 1, e, hk => by
  have hj : j < l.length := by omega
  have hv := getD_mem l 0 hj
  have hnt : Near (l.take j) := fun u hu => hr u (List.mem_of_mem_take hu)
  obtain ⟨i, e1, e2, e3, e4⟩ := put_one neg pos ⟨msk (l.take j), msk_lt hnt⟩ (hr _ hv) (hn _ hv) (hp _ hv)
  simp only [] at e2 e4
  have e5 : msk (l.take (j + 1)) = msk (l.take j) ||| 1 <<< (l.getD j 0 + 5).toNat := by
   rw [← take_step l 0 hj, msk_append, msk, msk, Nat.zero_or]
  rw [dom_Of.l0, if_pos (nlt hj), ipo_, if_pos (nlt hj), rd_at, e1, ipo_, if_pos (nlt e2), if_pos e3, Int.toNat_natCast, e4, ← e5, wsu_, of_l0 neg pos l hl hr hn hp m (j + 1) k (by omega) (by omega)]
  rw [show k + 1 - (m + 1) - 1 = k - m - 1 by omega]
theorem idx_of (l : List Int) (hl : l.length ≤ 2000) (hr : Near l) : ∀ (m j k : Nat), l.length = j + m → m < k → slices_IndexFunc_int_int_101_at_dom_Of_1.l0 k l (l.length : Int) (j : Int) = some (-1)
 | 0, j, k + 1, e, _ => by rw [slices_IndexFunc_int_int_101_at_dom_Of_1.l0, ino_]
 | m + 1, j, k + 1, e, hk => by
  have hj : j < l.length := by omega
  have hv := hr _ (getD_mem l 0 hj)
  have hf : dom_Of_1.f (l.getD j 0) = some false := by
   unfold dom_Of_1.f dom_in.f
   rw [ipo_, obs_, decide_eq_true (by omega)]; rfl
  rw [slices_IndexFunc_int_int_101_at_dom_Of_1.l0, if_pos (nlt hj), ipo_, if_pos (nlt hj), rd_at, hf, obs_, ind_, wsu_]
  exact idx_of l hl hr m (j + 1) k (by omega) (by omega)
theorem room_f {a b : Int} (ha : -5 ≤ a ∧ a ≤ 5) (hb : -5 ≤ b ∧ b ≤ 5) (hab : a ≤ b) : dom_room.f a b = some (off (decide (a < 0)), wd (decide (a < 0)) (decide (0 ≤ b)) 0, 0, 0, 0) := by
 unfold dom_room.f
 rw [place_one ha, obs_, place_one hb, obs_, obs_]
 by_cases h1 : a < 0
 ·
  rw [if_pos h1, decide_eq_true h1]
  by_cases h2 : b < 0
  ·
   rw [if_pos h2, decide_eq_false (by omega)]; decide +kernel
  ·
   rw [if_neg h2, decide_eq_true (by omega)]; decide +kernel
 ·
  rw [if_neg h1, if_neg (show ¬ b < 0 by omega), decide_eq_false h1, decide_eq_true (by omega)]; decide +kernel
theorem of_list (l : List Int) (h0 : l ≠ []) (hl : l.length ≤ 2000) (hr : Near l) {k : Nat} (hk : l.length + 20 < k) : dom_Of.f k l = some ((D (mk l)).f0, (D (mk l)).f1, (D (mk l)).f2, (D (mk l)).f3, (D (mk l)).f4, 0) := by
 have hp : 0 < l.length := List.length_pos_iff.2 h0
 have h00 := getD_mem l 0 hp
 obtain ⟨a1, a2, a3⟩ := fold_mn l (rd l 0)
 obtain ⟨b1, b2, b3⟩ := fold_mx l (rd l 0)
 have ham : l.foldl mn (rd l 0) ∈ l := by
  rcases a3 with h | h
  ·
   rw [h]; exact h00
  ·
   exact h
 have hbm : l.foldl mx (rd l 0) ∈ l := by
  rcases b3 with h | h
  ·
   rw [h]; exact h00
  ·
   exact h
 have hra := hr _ ham
 have hrb := hr _ hbm
 have emin : slices_Min_int.f l = some (l.foldl mn (rd l 0)) := by unfold slices_Min_int.f; rw [if_neg h0]
 have emax : slices_Max_int.f l = some (l.foldl mx (rd l 0)) := by unfold slices_Max_int.f; rw [if_neg h0]
 have hidx : slices_IndexFunc_int_int_101_at_dom_Of_1.l0 k l (l.length : Int) 0 = some (-1) := idx_of l hl hr l.length 0 k (by omega) (by omega)
 generalize l.foldl mn (rd l 0) = a at *
 generalize l.foldl mx (rd l 0) = b at *
 have hw : wrap64 (b - a) = b - a := wrap_id (by omega) (by omega)
 have hc : slices_ContainsFunc_int_int_70_at_dom_Of_1.f k l = some false := by
  unfold slices_ContainsFunc_int_int_70_at_dom_Of_1.f slices_IndexFunc_int_int_101_at_dom_Of_1.f
  rw [hidx, obs_]; rfl
 unfold dom_Of.f
 rw [ino_, hc, obs_, ind_, emax, obs_, emin, obs_, hw, ino_, obs_, obs_, room_f hra hrb (by omega), obs_]
 have hcall := of_l0 (decide (a < 0)) (decide (0 ≤ b)) l hl hr (fun v hv h => decide_eq_true (by have := a2 v hv; omega)) (fun v hv h => decide_eq_true (by have := b2 v hv; omega)) l.length 0 k (by omega) (by omega)
 have hcall' : dom_Of.l0 k l (l.length : Int) 0 (off (decide (a < 0))) (wd (decide (a < 0)) (decide (0 ≤ b)) 0) 0 0 0 = _ := hcall
 rw [hcall']
 have hne := mk_ne hr h0
 obtain ⟨w1, w2⟩ := wd_D (decide (a < 0)) (decide (0 ≤ b)) (mk l) hne (by
   rw [decide_eq_true_iff]
   constructor
   ·
    exact fun h h' => by have := h' a ((mem_mk hr).2 ham); omega
   ·
    exact fun h => Classical.byContradiction fun h' => h fun v hv => by have := a2 v ((mem_mk hr).1 hv); omega) (by
   rw [decide_eq_true_iff]
   constructor
   ·
    exact fun h h' => by have := h' b ((mem_mk hr).2 hbm); omega
   ·
    exact fun h => Classical.byContradiction fun h' => h fun v hv => by have := b2 v ((mem_mk hr).1 hv); omega)
 rw [mk_val hr] at w2
 rw [w1, w2]
 have hm := up (f := fun k => dom_made.f k (D (mk l)).f0 (D (mk l)).f1) (dom_made.mono _ _) (made_all _ hne) (show 10 ≤ k - l.length - 1 by omega)
 rw [hm, obs_]
theorem of_one {m : Fin 2048} (hm : m.val ≠ 0) {k : Nat} (hk : 40 ≤ k) : dom_Of.f k (LL m) = some ((D m).f0, (D m).f1, (D m).f2, (D m).f3, (D m).f4, 0) := by
 have h := of_list (LL m) (fun h => ne_all m hm (by rw [h]; rfl)) (by have := (len_all m).1; omega) (near_LL m) (k := k) (by have := (len_all m).1; omega)
 rwa [mk_LL] at h
theorem has_far (m : Fin 2048) {v : Int} (hv : -30 ≤ v ∧ v ≤ 30) : dom_Dom_Has.f (D m).f0 (D m).f1 (D m).f2 (D m).f3 (D m).f4 v = some (decide (v ∈ LL m)) := by
 by_cases hn : -5 ≤ v ∧ v ≤ 5
 ·
  exact has_one m hn
 ·
  rw [decide_eq_false (fun h => hn (near_LL m v h))]
  have hp := place_far ⟨(v + 30).toNat, by omega⟩
  simp only [] at hp
  rw [show (((v + 30).toNat : Nat) : Int) - 30 = v by omega] at hp
  unfold dom_Dom_Has.f dom_in.f
  rw [ipo_, obs_, if_pos (decide_eq_true (by omega)), hp, obs_]
  have hm := m.isLt
  by_cases h : v < 0
  ·
   have hw : wrap64 (v - (-64)) = v + 64 := by rw [wrap_id (by omega) (by omega)]; omega
   have hf := far_lo ⟨m.val % 32, Nat.mod_lt _ (by decide)⟩ ⟨(v + 30).toNat, by omega⟩
   simp only [] at hf
   rw [show (((v + 30).toNat : Nat) : Int) + 34 = v + 64 by omega] at hf
   rw [if_pos h, word_lo m, obs_, obs_, hw, ipo_, hf]
  ·
   have hw : wrap64 (v - 0) = v := by rw [wrap_id (by omega) (by omega)]; omega
   have hf := far_hi ⟨m.val / 32, by omega⟩ ⟨(v - 6).toNat, by omega⟩
   simp only [] at hf
   rw [show (((v - 6).toNat : Nat) : Int) + 6 = v by omega] at hf
   rw [if_neg h, word_hi m, obs_, obs_, hw, ipo_, hf]
theorem rhas_l0 (l : List Int) (v : Int) (hl : l.length ≤ 100) : ∀ (m j k : Nat), l.length = j + m → m < k → jigsawref02_Has.l0 k l v (j : Int) = some (decide (v ∈ l.drop j))
 | 0, j, k + 1, e, _ => by
  rw [jigsawref02_Has.l0, ino_, List.drop_eq_nil_of_le (by omega)]; rfl
 | m + 1, j, k + 1, e, hk => by
  have hj : j < l.length := by omega
  have hd : l.drop j = l[j] :: l.drop (j + 1) := List.drop_eq_getElem_cons hj
  rw [jigsawref02_Has.l0, if_pos (nlt hj), ipo_, rd_at, getD_lt _ _ hj]
  by_cases h : l[j] = v
  ·
   rw [if_pos h, hd]; congr 1; symm; exact decide_eq_true (by rw [h]; exact List.mem_cons_self)
  ·
   rw [if_neg h, wsu_, rhas_l0 l v hl m (j + 1) k (by omega) (by omega), hd]
   congr 1
   rw [decide_eq_decide]
   constructor
   ·
    exact fun h' => List.mem_cons_of_mem _ h'
   ·
    intro h'
    rcases List.mem_cons.1 h' with h2 | h2
    ·
     exact absurd h2.symm h
    ·
     exact h2
theorem rhas_f (l : List Int) (v : Int) (hl : l.length ≤ 100) {k : Nat} (hk : 200 ≤ k) : jigsawref02_Has.f k l v = some (decide (v ∈ l)) := by
 have h := rhas_l0 l v hl l.length 0 k (by omega) (by omega)
 exact h
def insR : Bool → Int → List Int → List Int
 | true, _, r => r
 | false, v, r => ins v r
theorem of_l2 (x : List Int) (hx : x.length ≤ 100) (i : Nat) (hi : i < x.length) (l : List Int) (hl : l.length ≤ 100) : ∀ (m j k : Nat) (acc : List Int) (done : Bool), l.length = j + m → acc.length ≤ 2 * j → m < k →
  ∃ k', k' + m + 1 = k ∧ jigsawref02_Of.l2 k x l (i : Int) acc done (j : Int) = jigsawref02_Of.l1 k' x (acc ++ insR done (x.getD i 0) (l.drop j)) (((i + 1 : Nat)) : Int)
 | 0, j, k + 1, acc, done, e, ha, hk => by
  refine ⟨k, rfl, ?_⟩
  rw [jigsawref02_Of.l2, ino_, List.drop_eq_nil_of_le (by omega)]
  cases done with
  | true => rw [if_pos rfl, wsu_]; simp [insR]
  | false => rw [ind_, ipo_, if_pos (nlt hi), ipo_, wsu_, rd_at]; rfl
 | m + 1, j, k + 1, acc, done, e, ha, hk => by
  have hj : j < l.length := by omega
  have hd : l.drop j = l.getD j 0 :: l.drop (j + 1) := by rw [getD_lt _ _ hj]; exact List.drop_eq_getElem_cons hj
  rw [jigsawref02_Of.l2, if_pos (nlt hj), ipo_, ipo_, if_pos (nlt hi), rd_at, rd_at, wsu_, hd]
  by_cases h : l.getD j 0 > x.getD i 0
  ·
   rw [if_pos h]
   cases done with
   | true =>
    rw [if_pos rfl, ipo_]
    obtain ⟨k', hk', h'⟩ := of_l2 x hx i hi l hl m (j + 1) k (acc ++ [l.getD j 0]) true (by omega) (by simp; omega) (by omega)
    refine ⟨k', by omega, ?_⟩
    rw [h']; simp [insR]
   | false =>
    rw [ind_, ipo_, obs_, if_pos (by simp; omega)]
    obtain ⟨k', hk', h'⟩ := of_l2 x hx i hi l hl m (j + 1) k ((acc ++ [x.getD i 0]) ++ [l.getD j 0]) true (by omega) (by simp; omega) (by omega)
    refine ⟨k', by omega, ?_⟩
    have e1 : insR false (x.getD i 0) (l.getD j 0 :: l.drop (j + 1)) = x.getD i 0 :: l.getD j 0 :: l.drop (j + 1) := by show ins _ _ = _; rw [ins, if_pos h]
    rw [h', e1]; simp [insR]
  ·
   rw [if_neg h, ipo_]
   obtain ⟨k', hk', h'⟩ := of_l2 x hx i hi l hl m (j + 1) k (acc ++ [l.getD j 0]) done (by omega) (by simp; omega) (by omega)
   refine ⟨k', by omega, ?_⟩
   rw [h']
   cases done with
   | true => simp [insR]
   | false =>
    have e1 : insR false (x.getD i 0) (l.getD j 0 :: l.drop (j + 1)) = l.getD j 0 :: ins (x.getD i 0) (l.drop (j + 1)) := by show ins _ _ = _; rw [ins, if_neg h]
    rw [e1]; simp [insR]
theorem of_l1 (x : List Int) (hx : x.length ≤ 6) (hn : Near x) : ∀ (m j k : Nat) (b : Fin 2048), x.length = j + m → 300 * m + 300 < k → (0 < j → b.val ≠ 0) →
  ∃ c : Fin 2048, (0 < x.length → c.val ≠ 0) ∧ jigsawref02_Of.l1 k x (LL b) (j : Int) = some (LL c, 0)
 | 0, j, k + 1, b, e, hk, hb => by
  refine ⟨b, fun h => hb (by omega), ?_⟩
  rw [jigsawref02_Of.l1, ino_]
 | m + 1, j, k + 1, b, e, hk, hb => by
  have hj : j < x.length := by omega
  have hv := hn (x.getD j 0) (by rw [getD_lt _ _ hj]; exact List.getElem_mem _)
  have hl := (len_all b).1
  rw [jigsawref02_Of.l1, if_pos (nlt hj), ipo_, rd_at, rhas_f (LL b) _ (by omega) (by omega), obs_]
  by_cases h : x.getD j 0 ∈ LL b
  ·
   rw [if_pos (decide_eq_true h), wsu_]
   refine of_l1 x hx hn m (j + 1) k b (by omega) (by omega) (fun _ h0 => ?_)
   have : LL b = [] := by unfold LL; rw [h0]; decide +kernel
   rw [this] at h; cases h
  ·
   rw [if_neg (by simpa using h)]
   obtain ⟨k', hk', h'⟩ := of_l2 x (by omega) j hj (LL b) (by omega) (LL b).length 0 k [] false (by omega) (by simp) (by omega)
   have e0 : jigsawref02_Of.l2 k x (LL b) (j : Int) [] false 0 = _ := h'
   rw [e0]
   have hins := ins_all b ⟨(x.getD j 0 + 5).toNat, by omega⟩
   simp only [] at hins
   rw [show (((x.getD j 0 + 5).toNat : Nat) : Int) - 5 = x.getD j 0 by omega] at hins
   obtain ⟨h1, h2⟩ := hins h
   rw [List.nil_append, List.drop_zero, insR, h1]
   exact of_l1 x hx hn m (j + 1) k' _ (by omega) (by omega) (fun _ => h2)
theorem rof_l0 (x : List Int) (hx : x.length ≤ 6) (hn : Near x) : ∀ (m j k : Nat) (lo hi : Int), x.length = j + m → m + 3000 < k → -5 ≤ lo → lo ≤ 5 → -5 ≤ hi → hi ≤ 5 →
  ∃ c : Fin 2048, (0 < x.length → c.val ≠ 0) ∧ jigsawref02_Of.l0 k x lo hi (j : Int) = some (LL c, 0)
 | 0, j, k + 1, lo, hi, e, hk, h1, h2, h3, h4 => by
  have ew : wrap64 (hi - lo) = hi - lo := wrap_id (by omega) (by omega)
  rw [jigsawref02_Of.l0, ino_, ew, ino_]
  have h0 : LL 0 = [] := by decide +kernel
  have h := of_l1 x hx hn x.length 0 k 0 (by omega) (by omega) (fun h => absurd h (by decide))
  rw [h0] at h
  exact h
 | m + 1, j, k + 1, lo, hi, e, hk, h1, h2, h3, h4 => by
  have hj : j < x.length := by omega
  have hv := hn (x.getD j 0) (by rw [getD_lt _ _ hj]; exact List.getElem_mem _)
  rw [jigsawref02_Of.l0, if_pos (nlt hj), ipo_, rd_at, ino_, ino_, wsu_]
  split <;> split <;> exact rof_l0 x hx hn m (j + 1) k _ _ (by omega) (by omega) (by omega) (by omega) (by omega) (by omega)
theorem rof_f (x : List Int) (hx : x.length ≤ 6) (h0 : 0 < x.length) (hn : Near x) {k : Nat} (hk : 4000 ≤ k) : ∃ c : Fin 2048, c.val ≠ 0 ∧ jigsawref02_Of.f k x = some (LL c, 0) := by
 have hv := hn (x.getD 0 0) (by rw [getD_lt _ _ h0]; exact List.getElem_mem _)
 obtain ⟨c, h1, h2⟩ := rof_l0 x hx hn x.length 0 k (x.getD 0 0) (x.getD 0 0) (by omega) (by omega) hv.1 hv.2 hv.1 hv.2
 refine ⟨c, h1 h0, ?_⟩
 unfold jigsawref02_Of.f
 rw [ino_, ipo_]
 exact h2
theorem mod_near (v : Int) : -5 ≤ Int.tmod v 6 ∧ Int.tmod v 6 ≤ 5 := by
 have h1 := Int.tmod_lt_of_pos v (show (0 : Int) < 6 by decide)
 have h2 := Int.lt_tmod_of_pos v (show (0 : Int) < 6 by decide)
 omega
theorem small_l0 (l : List Int) (h0 : 0 < l.length) : ∀ (m j k : Nat) (acc : List Int), 6 = j + m → j ≤ l.length → m + 4100 < k → acc.length = j → Near acc →
  ∃ c : Fin 2048, c.val ≠ 0 ∧ jigsawref02_Small.l0 k l 6 6 acc (j : Int) = some (LL c)
 | m, j, k + 1, acc, e, hjl, hk, ha, hn => by
  have fin : ∀ (hx : 0 < acc.length), ∃ c : Fin 2048, c.val ≠ 0 ∧ ((jigsawref02_Of.f k acc).bind fun bt => some bt.1) = some (LL c) := by
   intro hx
   obtain ⟨c, h1, h2⟩ := rof_f acc (by omega) hx hn (k := k) (by omega)
   exact ⟨c, h1, by rw [h2, obs_]⟩
  rw [jigsawref02_Small.l0]
  by_cases hj : j < l.length
  ·
   rw [if_pos (nlt hj)]
   by_cases h6 : j < 6
   ·
    obtain ⟨m, rfl⟩ : ∃ m', m = m' + 1 := ⟨m - 1, by omega⟩
    rw [ipo_, ipo_, ind_, ipo_, wsu_]
    refine small_l0 l h0 m (j + 1) k _ (by omega) (by omega) (by omega) (by simp [ha]) (fun v hv => ?_)
    rcases List.mem_append.1 hv with h | h
    ·
     exact hn v h
    ·
     rw [List.mem_singleton] at h; rw [h]; exact mod_near _
   ·
    rw [ino_]
    exact fin (by omega)
  ·
   rw [if_neg (nge hj)]
   exact fin (by omega)
theorem small_f (l : List Int) (h0 : 0 < l.length) {k : Nat} (hk : 4200 ≤ k) : ∃ c : Fin 2048, c.val ≠ 0 ∧ jigsawref02_Small.f k l 6 6 = some (LL c) :=
 small_l0 l h0 6 0 k [] rfl (by omega) (by omega) rfl (fun v hv => by simp at hv)
def Places (n : Nat) (r : List Int) : Prop := r.length = n ∧ ∀ x ∈ r, 0 ≤ x ∧ x ≤ 4
theorem places_l0 (l : List Int) (hl : ∀ x ∈ l, 0 ≤ x ∧ x ≤ 255) (n : Nat) (hn : n ≤ 4) : ∀ (m j k : Nat) (acc : List Int), n = j + m → m < k → Places j acc → ∃ r, jigsawref06_places.l0 k l (n : Int) 5 acc (j : Int) = some r ∧ Places n r
 | 0, j, k + 1, acc, e, _, ha => by
  obtain rfl : n = j := by omega
  refine ⟨acc, ?_, ha⟩
  rw [jigsawref06_places.l0, ino_]
 | m + 1, j, k + 1, acc, e, hk, ha => by
  have hj : j < n := by omega
  obtain ⟨h1, h2⟩ := ha
  have hlen : acc.length < 17592186044416 := by omega
  by_cases hx : j < l.length
  ·
   have hm := hl (l.getD j 0) (by rw [getD_lt _ _ hx]; exact List.getElem_mem _)
   obtain ⟨r, hr, hp⟩ := places_l0 l hl n hn m (j + 1) k (acc ++ [Int.tmod (wrap64 (rd l (j : Int))) 5]) (by omega) (by omega) ⟨by simp [h1], fun x hx => by
    rcases List.mem_append.1 hx with h | h
    ·
     exact h2 x h
    ·
     rw [List.mem_singleton] at h
     rw [h, rd_at, wrap_id (by omega) (by omega), Int.tmod_eq_emod_of_nonneg (by omega)]
     omega⟩
   refine ⟨r, ?_, hp⟩
   rw [jigsawref06_places.l0, if_pos (nlt hj), if_pos (nlt hx), ipo_, ind_, if_pos hlen, wsu_]
   exact hr
  ·
   obtain ⟨r, hr, hp⟩ := places_l0 l hl n hn m (j + 1) k (acc ++ [Int.tmod (j : Int) 5]) (by omega) (by omega) ⟨by simp [h1], fun x hx => by
    rcases List.mem_append.1 hx with h | h
    ·
     exact h2 x h
    ·
     rw [List.mem_singleton] at h
     rw [h, Int.tmod_eq_emod_of_nonneg (by omega)]
     omega⟩
   refine ⟨r, ?_, hp⟩
   rw [jigsawref06_places.l0, if_pos (nlt hj), if_neg (nge hx), ind_, if_pos hlen, wsu_]
   exact hr
theorem places_f (l : List Int) (hl : ∀ x ∈ l, 0 ≤ x ∧ x ≤ 255) (n : Nat) (hn : n ≤ 4) {k : Nat} (hk : 5 ≤ k) : ∃ r, jigsawref06_places.f k l (n : Int) 5 = some r ∧ Places n r :=
 places_l0 l hl n hn n 0 k [] (by omega) (by omega) ⟨rfl, fun x hx => by simp at hx⟩
theorem has_f {s : ByteArray} {c r : Int} (h : jigsawref06_has.f 6 s c = some r) {k : Nat} (hk : 6 ≤ k) : jigsawref06_has.f k s c = some r :=
 up (f := fun k => jigsawref06_has.f k s c) (jigsawref06_has.mono _ _) h hk
theorem make_key (kd : Int) (n : Nat) (s : ByteArray) (l1 l2 l3 : List Int) (a0 a4 a5 : Int) (h1 : ∀ x ∈ l1, 0 ≤ x ∧ x ≤ 255) (hn : 1 ≤ n ∧ n ≤ 4) (e1 : jigsawref06_has.f 6 s 118 = some (n : Int)) (e2 : jigsawref06_has.f 6 s 119 = some 0) (e3 : jigsawref06_has.f 6 s 87 = some 0) (e4 : jigsawref06_has.f 6 s 99 = some 0) (e5 : jigsawref06_has.f 6 s 107 = some 0)
  (k1 : kd ≠ 11) (k2 : kd ≠ 19) (k3 : kd ≠ 21) (k4 : kd ≠ 18) {k : Nat} (hk : 10 ≤ k) : ∃ p, Places n p ∧ jigsawref06_Make.j1 k 5 s a0 l1 l2 l3 a4 a5 kd 0 = some (kd, p, [], [], [], [], 0, []) := by
 obtain ⟨k, rfl⟩ : ∃ k', k = k' + 1 := ⟨k - 1, by omega⟩
 obtain ⟨p, hp, hpp⟩ := places_f l1 h1 n hn.2 (k := k) (by omega)
 refine ⟨p, hpp, ?_⟩
 rw [jigsawref06_Make.j1, has_f e1 (by omega), obs_, ipo_, obs_, hp, obs_, has_f e2 (by omega), obs_, ind_, has_f e3 (by omega), obs_, ind_, has_f e4 (by omega), obs_, ind_, if_neg k1, has_f e5 (by omega), obs_, ind_, if_neg k2, if_neg k3, if_neg k4]
def Kind (kd : Int) (n : Nat) : Prop := (kd = 5 ∧ n = 3) ∨ (kd = 6 ∧ n = 3) ∨ (kd = 7 ∧ n = 3)
def shape (_ : Nat) : ByteArray := ⟨#[118, 118, 118]⟩
theorem make_f (kd : Int) (n : Nat) (hd : Kind kd n) (l1 l2 l3 : List Int) (a4 a5 : Int) (h1 : ∀ x ∈ l1, 0 ≤ x ∧ x ≤ 255) {k : Nat} (hk : 20 ≤ k) :
  ∃ p, Places n p ∧ jigsawref06_Make.f k ((wrap64 (kd - 1)) % 256) l1 l2 l3 a4 a5 5 = some (kd, p, [], [], [], [], 0, []) := by
 have hs : jigsawref06_Shapes.f = some ((jigsawref06_Shapes.f).getD []) := by rfl
 have hlen : ((jigsawref06_Shapes.f).getD []).length = 24 := by decide +kernel
 have hw : wrap64 (1 + Int.tmod (wrap64 ((wrap64 (kd - 1)) % 256)) 23) = kd := by rcases hd with ⟨rfl, _⟩ | ⟨rfl, _⟩ | ⟨rfl, _⟩ <;> decide +kernel
 have hv : rdOf ByteArray.empty ((jigsawref06_Shapes.f).getD []) kd = shape n := by rcases hd with ⟨rfl, rfl⟩ | ⟨rfl, rfl⟩ | ⟨rfl, rfl⟩ <;> rfl
 have hr : 0 ≤ kd ∧ kd < 24 := by unfold Kind at hd; omega
 have key : ∃ p, Places n p ∧ jigsawref06_Make.j1 (k - 1) 5 (shape n) ((wrap64 (kd - 1)) % 256) l1 l2 l3 a4 a5 kd 0 = some (kd, p, [], [], [], [], 0, []) := by
  rcases hd with ⟨rfl, rfl⟩ | ⟨rfl, rfl⟩ | ⟨rfl, rfl⟩ <;>
  exact make_key _ _ _ l1 l2 l3 _ a4 a5 h1 (by decide) (by decide +kernel) (by decide +kernel) (by decide +kernel) (by decide +kernel) (by decide +kernel) (by decide) (by decide) (by decide) (by decide) (by omega)
 have key0 : ∀ m : Int, ∃ p, Places n p ∧ jigsawref06_Make.j0 k 5 (shape n) m ((wrap64 (kd - 1)) % 256) l1 l2 l3 a4 a5 kd 0 = some (kd, p, [], [], [], [], 0, []) := by
  intro m
  obtain ⟨p, hp, e⟩ := key
  obtain ⟨k, rfl⟩ : ∃ k', k = k' + 1 := ⟨k - 1, by omega⟩
  refine ⟨p, hp, ?_⟩
  rw [jigsawref06_Make.j0]
  split <;> exact e
 unfold jigsawref06_Make.f
 rw [hs, obs_, hw, hlen, ipo_, ipo_, hv]
 split
 ·
  exact key0 1
 ·
  exact key0 _
theorem case_l0 (kd : Int) (p : List Int) (n : Nat) (hp : p.length = n) (hn : n ≤ 4) (a0 a4 a5 : Int) (l1 l2 l3 : List Int) (l6 : List (List Int)) : ∀ (m j k : Nat) (ms : List (Fin 2048)), n = j + m → m + 4300 < k → ms.length = j → (∀ c ∈ ms, c.val ≠ 0) →
  ∃ ms' : List (Fin 2048), ms'.length = n ∧ (∀ c ∈ ms', c.val ≠ 0) ∧ jigsawref10_Make.l0 k 6 (ms.map LL) (j : Int) a0 l1 l2 l3 a4 a5 l6 kd p [] [] [] [] 0 [] = some (kd, p, [], [], [], [], 0, [], ms'.map LL)
 | 0, j, k + 1, ms, e, hk, hl, hs => by
  have hw : wrap64 ((n : Int) + (([] : List Int).length : Int)) = (n : Int) := by rw [wrap_id (by simp <;> omega) (by simp <;> omega)]; simp
  refine ⟨ms, by omega, hs, ?_⟩
  rw [jigsawref10_Make.l0, hp, hw, ino_]
 | m + 1, j, k + 1, ms, e, hk, hl, hs => by
  have hw : wrap64 ((n : Int) + (([] : List Int).length : Int)) = (n : Int) := by rw [wrap_id (by simp <;> omega) (by simp <;> omega)]; simp
  have step : ∀ c : Fin 2048, c.val ≠ 0 → ∃ ms' : List (Fin 2048), ms'.length = n ∧ (∀ c ∈ ms', c.val ≠ 0) ∧ jigsawref10_Make.l0 k 6 ((ms.map LL) ++ [LL c]) (wrap64 ((j : Int) + 1)) a0 l1 l2 l3 a4 a5 l6 kd p [] [] [] [] 0 [] = some (kd, p, [], [], [], [], 0, [], ms'.map LL) := by
   intro c hc
   have h := case_l0 kd p n hp hn a0 a4 a5 l1 l2 l3 l6 m (j + 1) k (ms ++ [c]) (by omega) (by omega) (by simp [hl]) (fun x hx => by
    rcases List.mem_append.1 hx with h | h
    ·
     exact hs x h
    ·
     rw [List.mem_singleton] at h; rw [h]; exact hc)
   rw [wsu_]
   rwa [List.map_append] at h
  have hlm : (ms.map LL).length < 5864062014805 := by simp; omega
  rw [jigsawref10_Make.l0, hp, hw, ipo_, obs_]
  have dflt : ∃ c : Fin 2048, c.val ≠ 0 ∧ jigsawref02_Small.f k [Int.tmod (j : Int) 3, 1] 6 6 = some (LL c) := small_f _ (by simp) (by omega)
  by_cases hx : j < l6.length
  ·
   rw [if_pos (nlt hx), ipo_, rdL_at]
   by_cases hz : ((l6.getD j []).length : Int) > 0
   ·
    obtain ⟨c, hc, h⟩ := small_f (l6.getD j []) (by omega) (k := k) (by omega)
    rw [if_pos hz, h, obs_, if_pos hlm]
    exact step c hc
   ·
    obtain ⟨c, hc, h⟩ := dflt
    rw [if_neg hz, h, obs_, if_pos hlm]
    exact step c hc
  ·
   obtain ⟨c, hc, h⟩ := dflt
   rw [if_neg (nge hx), h, obs_, if_pos hlm]
   exact step c hc
theorem case_f (kd : Int) (n : Nat) (hd : Kind kd n) (a0 a4 a5 : Int) (l1 l2 l3 : List Int) (l6 : List (List Int)) (h1 : ∀ x ∈ l1, 0 ≤ x ∧ x ≤ 255) {k : Nat} (hk : 4400 ≤ k) :
  ∃ (p : List Int) (ms : List (Fin 2048)), Places n p ∧ ms.length = n ∧ (∀ c ∈ ms, c.val ≠ 0) ∧ jigsawref10_Make.f k a0 l1 l2 l3 a4 a5 l6 kd 6 = some (kd, p, [], [], [], [], 0, [], ms.map LL) := by
 have hn : n ≤ 4 := by unfold Kind at hd; omega
 obtain ⟨p, e3, e5⟩ := make_f kd n hd l1 l2 l3 a4 a5 h1 (k := k) (by omega)
 obtain ⟨ms, f1, f2, f3⟩ := case_l0 kd p n e3.1 hn ((wrap64 (kd - 1)) % 256) a4 a5 l1 l2 l3 l6 n 0 k [] (by omega) (by omega) rfl (fun c hc => by simp at hc)
 refine ⟨p, ms, e3, f1, f2, ?_⟩
 unfold jigsawref10_Make.f
 rw [e5, obs_]
 exact f3
def Small (v : Int) : Prop := -5 ≤ v ∧ v ≤ 5
def quo (x y : Int) : Int × Bool := if y = 0 then (0, false) else (Int.tdiv x y, true)
def rmd (x y : Int) : Int × Bool := if y = 0 then (0, false) else (Int.tmod x y, true)
def res (kd x y : Int) : Int × Bool := if kd = 5 then (x * y, true) else if kd = 6 then quo x y else rmd x y
def fit (kd : Int) (vs : List Int) : Bool := (res kd (vs.getD 0 0) (vs.getD 1 0)).2 && vs.getD 2 0 == (res kd (vs.getD 0 0) (vs.getD 1 0)).1
theorem three {vs : List Int} (h : vs.length = 3) : ∃ x y z, vs = [x, y, z] := by
 match vs, h with
 | [x, y, z], _ => exact ⟨x, y, z, rfl⟩
theorem by_two {P : Int → Int → Prop} (h : ∀ i : Fin 11, ∀ j : Fin 11, P ((i.val : Int) - 5) ((j.val : Int) - 5)) {x y : Int} (hx : Small x) (hy : Small y) : P x y := by
 unfold Small at hx hy
 have := h ⟨(x + 5).toNat, by omega⟩ ⟨(y + 5).toNat, by omega⟩
 simp only [] at this
 rwa [show (((x + 5).toNat : Nat) : Int) - 5 = x by omega, show (((y + 5).toNat : Nat) : Int) - 5 = y by omega] at this
def gmul (x y : Int) : Int × Bool := (x * y, true)
theorem mul_near : ∀ i : Fin 11, ∀ j : Fin 11, num_Mul.f 5 ((i.val : Int) - 5) ((j.val : Int) - 5) = some (gmul ((i.val : Int) - 5) ((j.val : Int) - 5)) := by decide +kernel
theorem quo_near : ∀ i : Fin 11, ∀ j : Fin 11, num_Quo.f ((i.val : Int) - 5) ((j.val : Int) - 5) = some (quo ((i.val : Int) - 5) ((j.val : Int) - 5)) := by decide +kernel
theorem rmd_near : ∀ i : Fin 11, ∀ j : Fin 11, num_Rem.f ((i.val : Int) - 5) ((j.val : Int) - 5) = some (rmd ((i.val : Int) - 5) ((j.val : Int) - 5)) := by decide +kernel
theorem mul_f {x y : Int} (hx : Small x) (hy : Small y) {k : Nat} (hk : 5 ≤ k) : num_Mul.f k x y = some (gmul x y) := up (f := fun k => num_Mul.f k x y) (num_Mul.mono x y) (by_two (P := fun x y => num_Mul.f 5 x y = some (gmul x y)) mul_near hx hy) hk
theorem quo_f {x y : Int} (hx : Small x) (hy : Small y) : num_Quo.f x y = some (quo x y) := by_two (P := fun x y => num_Quo.f x y = some (quo x y)) quo_near hx hy
theorem rmd_f {x y : Int} (hx : Small x) (hy : Small y) : num_Rem.f x y = some (rmd x y) := by_two (P := fun x y => num_Rem.f x y = some (rmd x y)) rmd_near hx hy
theorem rng_near : ∀ i : Fin 11, ∀ j : Fin 11, (-30 ≤ (gmul ((i.val : Int) - 5) ((j.val : Int) - 5)).1 ∧ (gmul ((i.val : Int) - 5) ((j.val : Int) - 5)).1 ≤ 30) ∧ (-30 ≤ (quo ((i.val : Int) - 5) ((j.val : Int) - 5)).1 ∧ (quo ((i.val : Int) - 5) ((j.val : Int) - 5)).1 ≤ 30) ∧ (-30 ≤ (rmd ((i.val : Int) - 5) ((j.val : Int) - 5)).1 ∧ (rmd ((i.val : Int) - 5) ((j.val : Int) - 5)).1 ≤ 30) := by decide +kernel
theorem rng_f {x y : Int} (hx : Small x) (hy : Small y) : (-30 ≤ (gmul x y).1 ∧ (gmul x y).1 ≤ 30) ∧ (-30 ≤ (quo x y).1 ∧ (quo x y).1 ≤ 30) ∧ (-30 ≤ (rmd x y).1 ∧ (rmd x y).1 ≤ 30) := by_two (P := fun x y => (-30 ≤ (gmul x y).1 ∧ (gmul x y).1 ≤ 30) ∧ (-30 ≤ (quo x y).1 ∧ (quo x y).1 ≤ 30) ∧ (-30 ≤ (rmd x y).1 ∧ (rmd x y).1 ≤ 30)) rng_near hx hy
theorem rng_mul {x y : Int} (hx : Small x) (hy : Small y) : -30 ≤ (gmul x y).1 ∧ (gmul x y).1 ≤ 30 := (rng_f hx hy).1
theorem rng_quo {x y : Int} (hx : Small x) (hy : Small y) : -30 ≤ (quo x y).1 ∧ (quo x y).1 ≤ 30 := (rng_f hx hy).2.1
theorem rng_rmd {x y : Int} (hx : Small x) (hy : Small y) : -30 ≤ (rmd x y).1 ∧ (rmd x y).1 ≤ 30 := (rng_f hx hy).2.2
theorem mem_getD {α : Type} {l : List α} (z : α) {x : α} (h : x ∈ l) : ∃ i, i < l.length ∧ l.getD i z = x := by
 obtain ⟨i, hi, e⟩ := List.getElem_of_mem h
 exact ⟨i, hi, by rw [getD_lt _ _ hi]; exact e⟩
def col (T : List (List Int)) (i : Nat) : List Int := T.map fun r => r.getD i 0
theorem col_app (T U : List (List Int)) (i : Nat) : col (T ++ U) i = col T i ++ col U i := by simp [col]
theorem col_len (T : List (List Int)) (i : Nat) : (col T i).length = T.length := by simp [col]
theorem mem_col {T : List (List Int)} {i : Nat} {v : Int} : v ∈ col T i ↔ ∃ r, r ∈ T ∧ r.getD i 0 = v := by simp [col]
def Row (ls : List (List Int)) (r : List Int) : Prop := r.length = ls.length ∧ ∀ i, i < ls.length → r.getD i 0 ∈ ls.getD i []
theorem of_none {k : Nat} (hk : 10 ≤ k) : dom_Of.f k [] = some (0, [], 0, 0, 0, 4) := by
 refine up (f := fun k => dom_Of.f k []) (dom_Of.mono []) (k := 10) ?_ hk
 show dom_Of.f 10 [] = _
 decide +kernel
theorem made_l0 (Ls : List (List Int)) (hs : ∀ l ∈ Ls, l ≠ [] ∧ l.length ≤ 1000 ∧ Near l) (hl : Ls.length ≤ 100) : ∀ (m j k : Nat), Ls.length = j + m → m + 1100 < k →
  prop_Made.l0 k ((Ls.take j).map fun l => D (mk l)) Ls (Ls.length : Int) (j : Int) = some (Ls.map fun l => D (mk l), true)
 | 0, j, k + 1, e, _ => by
  rw [prop_Made.l0, ino_, List.take_of_length_le (by omega)]
 | m + 1, j, k + 1, e, hk => by
  have hj : j < Ls.length := by omega
  obtain ⟨h1, h2, h3⟩ := hs _ (getD_mem Ls [] hj)
  rw [prop_Made.l0, if_pos (nlt hj), ipo_, if_pos (nlt hj), rdL_at, of_list _ h1 (by omega) h3 (by omega), obs_, if_pos rfl, if_pos (by simp; omega), wsu_]
  have h := made_l0 Ls hs hl m (j + 1) k (by omega) (by omega)
  rw [← take_step Ls [] hj, List.map_append] at h
  exact h
def made (n : Nat) (T : List (List Int)) : List S61 × Bool := if T = [] then ([], false) else ((List.range n).map fun i => D (mk (col T i)), true)
theorem made_f (n : Nat) (hn : 1 ≤ n ∧ n ≤ 4) (T : List (List Int)) (hT : T.length ≤ 1000) (hr : ∀ i, i < n → Near (col T i)) {k : Nat} (hk : 1200 ≤ k) : prop_Made.f k ((List.range n).map (col T)) = some (made n T) := by
 unfold prop_Made.f made
 by_cases h : T = []
 ·
  obtain ⟨k, rfl⟩ : ∃ k', k = k' + 1 := ⟨k - 1, by omega⟩
  have h0 : rd_L7 ((List.range n).map (col T)) 0 = [] := by
   show ((List.range n).map (col T)).getD 0 [] = []
   rw [getD_map (col T) (List.range n) 0 [] (by rw [List.length_range]; exact hn.1), h]; rfl
  rw [if_pos h, prop_Made.l0, if_pos (by simp; omega), if_pos (by decide), if_pos (by simp; omega), h0, of_none (by omega), obs_, ind_]
 ·
  rw [if_neg h]
  have hm := made_l0 ((List.range n).map (col T)) (fun l hl => by
   obtain ⟨i, hi, rfl⟩ := List.mem_map.1 hl
   refine ⟨fun h' => h ?_, by rw [col_len]; exact hT, hr i (List.mem_range.1 hi)⟩
   have := col_len T i
   rw [h'] at this
   exact List.length_eq_zero_iff.1 this.symm) (by simp; omega) ((List.range n).map (col T)).length 0 k (by omega) (by simp; omega)
  rw [List.map_map] at hm
  exact hm
theorem row3 {X Y Z : List Int} {r : List Int} : Row [X, Y, Z] r ↔ ∃ a b c, r = [a, b, c] ∧ a ∈ X ∧ b ∈ Y ∧ c ∈ Z := by
 constructor
 ·
  rintro ⟨h1, h2⟩
  obtain ⟨a, b, c, rfl⟩ := three h1
  exact ⟨a, b, c, rfl, h2 0 (by show 0 < 3; decide), h2 1 (by show 1 < 3; decide), h2 2 (by show 2 < 3; decide)⟩
 ·
  rintro ⟨a, b, c, rfl, ha, hb, hc⟩
  refine ⟨rfl, fun i hi => ?_⟩
  match i, hi with
  | 0, _ => exact ha
  | 1, _ => exact hb
  | 2, _ => exact hc
def rowsOf (g : Int → Int → Int × Bool) (Z : List Int) (v : Int) (Y : List Int) : List (List Int) := Y.filterMap fun w => if (g v w).2 && decide ((g v w).1 ∈ Z) then some [v, w, (g v w).1] else none
def trips (g : Int → Int → Int × Bool) (X Y Z : List Int) : List (List Int) := X.flatMap fun v => rowsOf g Z v Y
theorem mem_trips {g : Int → Int → Int × Bool} {X Y Z : List Int} {r : List Int} : r ∈ trips g X Y Z ↔ ∃ v w, r = [v, w, (g v w).1] ∧ v ∈ X ∧ w ∈ Y ∧ (g v w).1 ∈ Z ∧ (g v w).2 = true := by
 unfold trips rowsOf
 rw [List.mem_flatMap]
 constructor
 ·
  rintro ⟨v, hv, hr⟩
  obtain ⟨w, hw, h⟩ := List.mem_filterMap.1 hr
  split at h
  ·
   rename_i hc
   rw [Bool.and_eq_true, decide_eq_true_iff] at hc
   exact ⟨v, w, (Option.some.inj h).symm, hv, hw, hc.2, hc.1⟩
  ·
   cases h
 ·
  rintro ⟨v, w, rfl, hv, hw, hz, hb⟩
  refine ⟨v, hv, List.mem_filterMap.2 ⟨w, hw, ?_⟩⟩
  rw [if_pos (by rw [Bool.and_eq_true, decide_eq_true_iff]; exact ⟨hb, hz⟩)]
theorem rows_len (g : Int → Int → Int × Bool) (Z : List Int) (v : Int) (Y : List Int) : (rowsOf g Z v Y).length ≤ Y.length := List.length_filterMap_le _ _
theorem rows_pos {g : Int → Int → Int × Bool} {Z : List Int} {v w : Int} {Y : List Int} (h : (g v w).2 = true) (hz : (g v w).1 ∈ Z) : rowsOf g Z v (w :: Y) = [[v, w, (g v w).1]] ++ rowsOf g Z v Y := by
 unfold rowsOf
 rw [List.filterMap_cons_some (b := [v, w, (g v w).1]) (by rw [if_pos (by rw [Bool.and_eq_true, decide_eq_true_iff]; exact ⟨h, hz⟩)])]
 rfl
theorem rows_neg {g : Int → Int → Int × Bool} {Z : List Int} {v w : Int} {Y : List Int} (h : ¬ ((g v w).2 = true ∧ (g v w).1 ∈ Z)) : rowsOf g Z v (w :: Y) = rowsOf g Z v Y := by
 unfold rowsOf
 rw [List.filterMap_cons_none (by rw [if_neg (by rw [Bool.and_eq_true, decide_eq_true_iff]; exact h)])]
def Lists (ls : List (List Int)) : Prop := ls.length ≤ 8 ∧ ∀ l ∈ ls, 0 < l.length ∧ l.length ≤ 11
theorem Lists.at {ls : List (List Int)} (h : Lists ls) {i : Nat} (hi : i < ls.length) : 0 < (ls.getD i []).length ∧ (ls.getD i []).length ≤ 11 :=
 h.2 _ (by rw [getD_lt _ _ hi]; exact List.getElem_mem _)
def Good (kd : Int) (ls : List (List Int)) (r : List Int) : Prop := Row ls r ∧ fit kd r = true
theorem idx_fits (ds : List S61) (hd : ∀ d ∈ ds, d.f4 ≠ 0) (hl : ds.length ≤ 100) : ∀ (m j k : Nat), ds.length = j + m → m < k → dom_Dom_86_at_prop_Fits_1.l0 k ds (ds.length : Int) (j : Int) = some (-1)
 | 0, j, k + 1, e, _ => by rw [dom_Dom_86_at_prop_Fits_1.l0, ino_]
 | m + 1, j, k + 1, e, hk => by
  have hj : j < ds.length := by omega
  have hv := hd (ds.getD j z61) (by rw [getD_lt _ _ hj]; exact List.getElem_mem _)
  rw [dom_Dom_86_at_prop_Fits_1.l0, if_pos (nlt hj), ipo_, if_pos (nlt hj), rdD_at]
  have hf : prop_Fits_1.f (ds.getD j z61).f0 (ds.getD j z61).f1 (ds.getD j z61).f2 (ds.getD j z61).f3 (ds.getD j z61).f4 = some false := by
   unfold prop_Fits_1.f dom_Dom_Size.f
   rw [obs_]
   congr 1
   exact beq_eq_false_iff_ne.2 hv
  rw [hf, obs_, ind_, wsu_]
  exact idx_fits ds hd hl m (j + 1) k (by omega) (by omega)
theorem idx_right (l : List Int) (hp : ∀ x ∈ l, 0 ≤ x ∧ x ≤ 4) (hl : l.length ≤ 100) : ∀ (m j k : Nat), l.length = j + m → m < k → slices_IndexFunc_int_int_101_at_model_Right_1.l0 k l (l.length : Int) (j : Int) 256 = some (-1)
 | 0, j, k + 1, e, _ => by rw [slices_IndexFunc_int_int_101_at_model_Right_1.l0, ino_]
 | m + 1, j, k + 1, e, hk => by
  have hj : j < l.length := by omega
  have hv := hp (l.getD j 0) (by rw [getD_lt _ _ hj]; exact List.getElem_mem _)
  rw [slices_IndexFunc_int_int_101_at_model_Right_1.l0, if_pos (nlt hj), ipo_, if_pos (nlt hj), rd_at]
  have hf : model_Right_1.f (l.getD j 0) 256 = some false := by
   unfold model_Right_1.f
   rw [ino_, decide_eq_false (by omega)]
  rw [hf, obs_, ind_, wsu_]
  exact idx_right l hp hl m (j + 1) k (by omega) (by omega)
theorem vars_f (kd : Int) (p : List Int) (n : Nat) (hp : p.length = n) (hn : n ≤ 4) {k : Nat} (hk : 20 ≤ k) : model_Vars.f k kd p [] [] [] [] 0 [] = some p := by
 obtain ⟨k, rfl⟩ : ∃ k', k = k' + 6 := ⟨k - 6, by omega⟩
 have r0 : rd_L7 [p, []] 0 = p := rfl
 have r1 : rd_L7 [p, []] 1 = [] := rfl
 have e1 : wrap64 (0 + (n : Int)) = (n : Int) := by rw [wrap_id (by omega) (by omega)]; omega
 have e2 : wrap64 ((n : Int) + (([] : List Int).length : Int)) = (n : Int) := by rw [wrap_id (by simp <;> omega) (by simp <;> omega)]; simp
 have w1 : wrap64 (0 + 1) = 1 := by decide +kernel
 have w2 : wrap64 (1 + 1) = 2 := by decide +kernel
 have hlen : (([p, []] : List (List Int)).length : Int) = 2 := rfl
 unfold model_Vars.f slices_Concat_int_int.f
 rw [hlen, slices_Concat_int_int.l0, if_pos (by decide), if_pos (by decide), hlen, if_pos (by decide), r0, hp, e1, ino_, w1, slices_Concat_int_int.l0, if_pos (by decide), if_pos (by decide), hlen, if_pos (by decide), r1, e2, ino_, w2, slices_Concat_int_int.l0, ind_]
 have hg : slices_GrowNil.f (n : Int) = some [] := by unfold slices_GrowNil.f; rw [if_pos ⟨by omega, by omega⟩]
 rw [hg, obs_, hlen, slices_Concat_int_int.l1, if_pos (by decide), if_pos (by decide), hlen, if_pos (by decide), r0, if_pos (by simp [hp]; omega), w1, slices_Concat_int_int.l1, if_pos (by decide), if_pos (by decide), hlen, if_pos (by decide), r1, if_pos (by simp [hp]; omega), w2, slices_Concat_int_int.l1, ind_, obs_]
 simp
theorem bounded_f {a : Int} {k : Nat} (hk : 5 ≤ k) : model_bounded.f k [] a = some true := by
 obtain ⟨k, rfl⟩ : ∃ k', k = k' + 1 := ⟨k - 1, by omega⟩
 unfold model_bounded.f slices_ContainsFunc_int_int_70_at_model_bounded_1.f slices_IndexFunc_int_int_101_at_model_bounded_1.f
 rw [slices_IndexFunc_int_int_101_at_model_bounded_1.l0, ind_, obs_, obs_]
 rfl
theorem counted_f (kd : Int) (n : Nat) (hd : Kind kd n) (p : List Int) (hp : p.length = n) : model_counted.f kd p [] [] [] [] 0 [] (shape n) = some true := by
 have h0 : kd ≠ 12 := by unfold Kind at hd; omega
 have named : ∀ (m : Int) (c d : UInt8), Lib.indexByte (shape n).data.toList d < 0 → (Lib.countByte (shape n).data.toList c : Int) = m → model_named.f m (shape n) ⟨#[c]⟩ ⟨#[d]⟩ = some true := by
  intro m c d h1 h2
  unfold model_named.f
  rw [show strings_Contains.f (shape n) ⟨#[d]⟩ = some (decide (0 ≤ Lib.indexByte (shape n).data.toList d)) from rfl, obs_, if_neg (by simp; omega), show strings_Count.f (shape n) ⟨#[c]⟩ = some ((Lib.countByte (shape n).data.toList c : Nat) : Int) from rfl, obs_, h2]
  simp
 unfold model_counted.f
 rw [if_neg h0]
 rcases hd with ⟨rfl, rfl⟩ | ⟨rfl, rfl⟩ | ⟨rfl, rfl⟩ <;>
 rw [show strings_Contains.f (shape _) ⟨#[114]⟩ = some false from by decide +kernel, obs_, ind_, if_pos (by decide), named _ 118 86 (by decide +kernel) (by rw [hp]; decide +kernel), obs_, if_pos rfl, named _ 119 87 (by decide +kernel) (by decide +kernel), obs_, if_pos rfl, named _ 45 99 (by decide +kernel) (by decide +kernel), obs_, if_pos rfl, named _ 45 100 (by decide +kernel) (by decide +kernel), obs_, if_pos rfl, named _ 45 101 (by decide +kernel) (by decide +kernel), obs_]
theorem right_f (kd : Int) (n : Nat) (hd : Kind kd n) (p : List Int) (hp : Places n p) {k : Nat} (hk : 30 ≤ k) : model_Right.f k kd p [] [] [] [] 0 [] 256 = some 0 := by
 have hn : n ≤ 4 := by unfold Kind at hd; omega
 have hs : model_Shape.f kd = some (shape n) := by rcases hd with ⟨rfl, rfl⟩ | ⟨rfl, rfl⟩ | ⟨rfl, rfl⟩ <;> decide +kernel
 have hne : ¬ (shape n).toList = ([] : List UInt8) := by rcases hd with ⟨rfl, rfl⟩ | ⟨rfl, rfl⟩ | ⟨rfl, rfl⟩ <;> decide +kernel
 have ha : model_alike.f kd p [] [] [] [] 0 [] = some true := by
  unfold model_alike.f
  rcases hd with ⟨rfl, rfl⟩ | ⟨rfl, rfl⟩ | ⟨rfl, rfl⟩ <;>
  rw [ind_, ind_, ind_, ind_, ind_, ind_, ind_, ind_, ind_]
 have hi : slices_ContainsFunc_int_int_70_at_model_Right_1.f k p 256 = some false := by
  unfold slices_ContainsFunc_int_int_70_at_model_Right_1.f slices_IndexFunc_int_int_101_at_model_Right_1.f
  have h := idx_right p hp.2 (by rw [hp.1]; omega) p.length 0 k (by omega) (by rw [hp.1]; omega)
  have h' : slices_IndexFunc_int_int_101_at_model_Right_1.l0 k p (p.length : Int) 0 256 = some (-1) := h
  rw [h', obs_]
  rfl
 have h3 : kd ≠ 19 ∧ kd ≠ 21 := by unfold Kind at hd; omega
 have hb : model_numbers.f k kd p [] [] [] [] 0 [] = some true := by
  obtain ⟨k, rfl⟩ : ∃ k', k = k' + 1 := ⟨k - 1, by omega⟩
  unfold model_numbers.f
  rw [if_neg h3.1, if_neg h3.2, model_numbers.l0, ind_, bounded_f (by omega), obs_, if_pos rfl, obs_, if_pos rfl, obs_, if_pos rfl, if_pos (by decide)]
  rfl
 have hn' : model_counts.f kd p [] [] [] [] 0 [] = some true := by unfold model_counts.f; rw [if_neg h3.2]
 unfold model_Right.f
 rw [hs, obs_, if_neg hne, counted_f kd n hd p hp.1, obs_, if_pos rfl, ha, obs_, if_pos rfl, if_pos rfl, vars_f kd p n hp.1 hn (by omega), obs_, hi, obs_, ind_, hb, obs_, if_pos rfl, hn', obs_, if_pos rfl]
theorem fits_f (kd : Int) (n : Nat) (hd : Kind kd n) (p : List Int) (ds : List S61) (hp : Places n p) (hv : ds.length = n) (hz : ∀ d ∈ ds, d.f4 ≠ 0) {k : Nat} (hk : 30 ≤ k) : prop_Fits.f k kd p [] [] [] [] 0 [] ds 5 7 = some true := by
 have hn : n ≤ 4 := by unfold Kind at hd; omega
 have hi : dom_Dom_61_at_prop_Fits_1.f k ds = some false := by
  unfold dom_Dom_61_at_prop_Fits_1.f dom_Dom_86_at_prop_Fits_1.f
  have h' : dom_Dom_86_at_prop_Fits_1.l0 k ds (ds.length : Int) 0 = some (-1) := idx_fits ds hz (by omega) ds.length 0 k (by omega) (by omega)
  rw [h', obs_]
  rfl
 have hr : kd ≥ 5 ∧ kd ≤ 7 := by unfold Kind at hd; omega
 have hw : wrap64 ((n : Int) + (([] : List Int).length : Int)) = (n : Int) := by rw [wrap_id (by simp <;> omega) (by simp <;> omega)]; simp
 unfold prop_Fits.f
 rw [hi, obs_, if_pos hr.1, if_pos hr.2, right_f kd n hd p hp hk, obs_, if_pos rfl, hp.1, hw, ipo_]
 rfl
theorem doms_l0 (ms : List (Fin 2048)) (hs : ∀ c ∈ ms, c.val ≠ 0) (hl : ms.length ≤ 100) : ∀ (m j k : Nat), ms.length = j + m → m + 50 < k →
  jigsawlaw11_doms.l0 k ((ms.take j).map D) (ms.map LL) (ms.length : Int) (j : Int) = some (ms.map D)
 | 0, j, k + 1, e, _ => by
  rw [jigsawlaw11_doms.l0, ino_, List.take_of_length_le (by omega)]
 | m + 1, j, k + 1, e, hk => by
  have hj : j < ms.length := by omega
  have hv := hs (ms.getD j 0) (by rw [getD_lt _ _ hj]; exact List.getElem_mem _)
  rw [jigsawlaw11_doms.l0, if_pos (nlt hj), ipo_, if_pos (by rw [List.length_map]; exact nlt hj), rdL_at, getD_map LL ms 0 [] hj, of_one hv (by omega), obs_, if_pos (by simp; omega), wsu_]
  have h := doms_l0 ms hs hl m (j + 1) k (by omega) (by omega)
  rw [← take_step ms 0 hj, List.map_append] at h
  exact h
theorem doms_f (ms : List (Fin 2048)) (hs : ∀ c ∈ ms, c.val ≠ 0) (hl : ms.length ≤ 100) {k : Nat} (hk : 200 ≤ k) : jigsawlaw11_doms.f k (ms.map LL) = some (ms.map D) := by
 have h := doms_l0 ms hs hl ms.length 0 k (by omega) (by omega)
 unfold jigsawlaw11_doms.f
 rw [List.length_map]
 exact h
def Listed (ds : List S61) (ls : List (List Int)) : Prop := ds.length = ls.length ∧ ∀ i, i < ds.length → ∀ k, 40 ≤ k → dom_Dom_List.f k (ds.getD i z61).f0 (ds.getD i z61).f1 (ds.getD i z61).f2 (ds.getD i z61).f3 (ds.getD i z61).f4 = some (ls.getD i [])
theorem lists_l0 (ds : List S61) (ls : List (List Int)) (hL : Listed ds ls) (hl : ds.length ≤ 100) : ∀ (m j k : Nat), ds.length = j + m → m + 50 < k →
  jigsawlaw11_lists.l0 k (ls.take j) ds (ds.length : Int) (j : Int) = some ls
 | 0, j, k + 1, e, _ => by
  have := hL.1
  rw [jigsawlaw11_lists.l0, ino_, List.take_of_length_le (by omega)]
 | m + 1, j, k + 1, e, hk => by
  have hj : j < ds.length := by omega
  have hl2 := hL.1
  rw [jigsawlaw11_lists.l0, if_pos (nlt hj), ipo_, if_pos (nlt hj), rdD_at, hL.2 j hj k (by omega), obs_, if_pos (by simp; omega), wsu_, take_step ls [] (by omega)]
  exact lists_l0 ds ls hL hl m (j + 1) k (by omega) (by omega)
theorem lists_f (ds : List S61) (ls : List (List Int)) (hL : Listed ds ls) (hl : ds.length ≤ 100) {k : Nat} (hk : 200 ≤ k) : jigsawlaw11_lists.f k ds = some ls :=
 lists_l0 ds ls hL hl ds.length 0 k (by omega) (by omega)
theorem same_l1 (ls : List (List Int)) (hl : ls.length ≤ 100) (i : Nat) (hi : i < ls.length) (hb : (ls.getD i []).length ≤ 11) : ∀ (m j k : Nat), (ls.getD i []).length = j + m → m < k →
  ∃ k', k' + m + 1 = k ∧ jigsawref10_Same.l1 k ls ls (i : Int) (j : Int) = jigsawref10_Same.l0 k' ls ls (((i + 1 : Nat)) : Int)
 | 0, j, k + 1, e, hk => by
  refine ⟨k, rfl, ?_⟩
  rw [jigsawref10_Same.l1, ipo_, if_pos (nlt hi), rdL_at, ino_, wsu_]
 | m + 1, j, k + 1, e, hk => by
  obtain ⟨k', h1, h2⟩ := same_l1 ls hl i hi hb m (j + 1) k (by omega) (by omega)
  refine ⟨k', by omega, ?_⟩
  rw [jigsawref10_Same.l1, ipo_, if_pos (nlt hi), rdL_at, ipo_, ipo_, if_pos (nlt hi), ipo_, if_pos rfl, wsu_]
  exact h2
theorem same_l0 (ls : List (List Int)) (hl : ls.length ≤ 100) (hb : ∀ i, i < ls.length → (ls.getD i []).length ≤ 11) : ∀ (m j k : Nat), ls.length = j + m → 14 * m < k →
  jigsawref10_Same.l0 k ls ls (j : Int) = some true
 | 0, j, k + 1, e, _ => by
  rw [jigsawref10_Same.l0, ino_]
 | m + 1, j, k + 1, e, hk => by
  have hj : j < ls.length := by omega
  have hb' := hb j hj
  obtain ⟨k', h1, h2⟩ := same_l1 ls hl j hj hb' (ls.getD j []).length 0 k (by omega) (by omega)
  have h3 : jigsawref10_Same.l1 k ls ls (j : Int) 0 = _ := h2
  rw [jigsawref10_Same.l0, if_pos (nlt hj), ipo_, if_pos (nlt hj), if_pos rfl, h3]
  exact same_l0 ls hl hb m (j + 1) k' (by omega) (by omega)
theorem same_f (ls : List (List Int)) (hl : ls.length ≤ 100) (hb : ∀ i, i < ls.length → (ls.getD i []).length ≤ 11) {k : Nat} (hk : 2000 ≤ k) : jigsawref10_Same.f k ls ls = some true := by
 unfold jigsawref10_Same.f
 rw [if_pos rfl]
 exact same_l0 ls hl hb ls.length 0 k (by omega) (by omega)
theorem wf_u8 {x : Int} (h : (Lit.int .u8 x).wf = true) : 0 ≤ x ∧ x ≤ 255 := by
 simp only [Lit.wf, IntKind.min, IntKind.max, IntKind.signed, IntKind.bits, Bool.and_eq_true] at h
 simp at h
 omega
theorem pl1_mul (mx_ my mz : Fin 2048) (i : Nat) (hi : i < (LL mx_).length) : ∀ (m j k : Nat) (acc : List (List Int)), (LL my).length = j + m → m + 30 < k → acc.length + m ≤ 500 →
  ∃ k', k' + m + 1 = k ∧ prop_Pairs_at_num_Mul.l1 k (col acc 0) (col acc 1) (col acc 2) ((LL mx_).getD i 0) (LL mx_) ((LL mx_).length : Int) (i : Int) (LL my) ((LL my).length : Int) (j : Int) (D my).f0 (D my).f1 (D my).f2 (D my).f3 (D my).f4 (D mz).f0 (D mz).f1 (D mz).f2 (D mz).f3 (D mz).f4 =
   prop_Pairs_at_num_Mul.l0 k' (col (acc ++ rowsOf gmul (LL mz) ((LL mx_).getD i 0) ((LL my).drop j)) 0) (col (acc ++ rowsOf gmul (LL mz) ((LL mx_).getD i 0) ((LL my).drop j)) 1) (col (acc ++ rowsOf gmul (LL mz) ((LL mx_).getD i 0) ((LL my).drop j)) 2) (LL mx_) ((LL mx_).length : Int) (((i + 1 : Nat)) : Int) (D my).f0 (D my).f1 (D my).f2 (D my).f3 (D my).f4 (D mz).f0 (D mz).f1 (D mz).f2 (D mz).f3 (D mz).f4
 | 0, j, k + 1, acc, e, hk, ha => by
  have h11 := (len_all mx_).1
  refine ⟨k, rfl, ?_⟩
  rw [prop_Pairs_at_num_Mul.l1, ino_, wsu_, List.drop_eq_nil_of_le (by omega), show rowsOf gmul (LL mz) ((LL mx_).getD i 0) [] = [] from rfl, List.append_nil]
 | m + 1, j, k + 1, acc, e, hk, ha => by
  have h11 := (len_all my).1
  have hj : j < (LL my).length := by omega
  have hv := near_LL mx_ _ (getD_mem (LL mx_) 0 hi)
  have hw := near_LL my _ (getD_mem (LL my) 0 hj)
  have hd : (LL my).drop j = (LL my).getD j 0 :: (LL my).drop (j + 1) := by rw [getD_lt (LL my) 0 hj]; exact List.drop_eq_getElem_cons hj
  have hcall : num_Mul.f k ((LL mx_).getD i 0) ((LL my).getD j 0) = some (gmul ((LL mx_).getD i 0) ((LL my).getD j 0)) := mul_f hv hw (by omega)
  have hrange := rng_mul hv hw
  have hg : gmul ((LL mx_).getD i 0) ((LL my).getD j 0) = gmul ((LL mx_).getD i 0) ((LL my).getD j 0) := rfl
  rw [prop_Pairs_at_num_Mul.l1, if_pos (nlt hj), ipo_, if_pos (nlt hj), rd_at, hcall, obs_, wsu_, hd]
  by_cases hb : (gmul ((LL mx_).getD i 0) ((LL my).getD j 0)).2 = true
  ·
   rw [if_pos hb, has_far mz hrange, obs_]
   by_cases hz : (gmul ((LL mx_).getD i 0) ((LL my).getD j 0)).1 ∈ LL mz
   ·
    obtain ⟨k', h1, h2⟩ := pl1_mul mx_ my mz i hi m (j + 1) k (acc ++ [[(LL mx_).getD i 0, (LL my).getD j 0, (gmul ((LL mx_).getD i 0) ((LL my).getD j 0)).1]]) (by omega) (by omega) (by simp; omega)
    refine ⟨k', by omega, ?_⟩
    rw [if_pos (decide_eq_true hz), if_pos (by rw [col_len]; omega), if_pos (by rw [col_len]; omega), if_pos (by rw [col_len]; omega), rows_pos hb hz, ← List.append_assoc]
    rw [col_app acc, col_app acc, col_app acc] at h2
    exact h2
   ·
    obtain ⟨k', h1, h2⟩ := pl1_mul mx_ my mz i hi m (j + 1) k acc (by omega) (by omega) (by omega)
    refine ⟨k', by omega, ?_⟩
    rw [if_neg (by simpa using hz), rows_neg (fun h => hz h.2), h2]
  ·
   obtain ⟨k', h1, h2⟩ := pl1_mul mx_ my mz i hi m (j + 1) k acc (by omega) (by omega) (by omega)
   refine ⟨k', by omega, ?_⟩
   rw [if_neg hb, rows_neg (fun h => hb h.1), h2]
theorem pl0_mul (mx_ my mz : Fin 2048) : ∀ (m j k : Nat) (T : List (List Int)), (LL mx_).length = j + m → 20 * m + 1300 < k → T.length + 11 * m ≤ 400 →
  ∃ k', 1200 ≤ k' ∧ prop_Pairs_at_num_Mul.l0 k (col T 0) (col T 1) (col T 2) (LL mx_) ((LL mx_).length : Int) (j : Int) (D my).f0 (D my).f1 (D my).f2 (D my).f3 (D my).f4 (D mz).f0 (D mz).f1 (D mz).f2 (D mz).f3 (D mz).f4 =
   ((prop_Made.f k' ((List.range 3).map (col (T ++ trips gmul ((LL mx_).drop j) (LL my) (LL mz))))).bind fun bt => some (bt.1, bt.2)) ∧ (T ++ trips gmul ((LL mx_).drop j) (LL my) (LL mz)).length ≤ 400
 | 0, j, k + 1, T, e, hk, ha => by
  refine ⟨k, by omega, ?_, ?_⟩
  ·
   rw [prop_Pairs_at_num_Mul.l0, ino_, List.drop_eq_nil_of_le (by omega), show trips gmul [] (LL my) (LL mz) = [] from rfl, List.append_nil]
   rfl
  ·
   rw [List.drop_eq_nil_of_le (by omega), show trips gmul [] (LL my) (LL mz) = [] from rfl, List.append_nil]; omega
 | m + 1, j, k + 1, T, e, hk, ha => by
  have h11 := (len_all my).1
  have h12 := (len_all mx_).1
  have hj : j < (LL mx_).length := by omega
  obtain ⟨k1, h1, h2⟩ := pl1_mul mx_ my mz j hj (LL my).length 0 k T (by omega) (by omega) (by omega)
  have h2' : prop_Pairs_at_num_Mul.l1 k (col T 0) (col T 1) (col T 2) ((LL mx_).getD j 0) (LL mx_) ((LL mx_).length : Int) (j : Int) (LL my) ((LL my).length : Int) 0 (D my).f0 (D my).f1 (D my).f2 (D my).f3 (D my).f4 (D mz).f0 (D mz).f1 (D mz).f2 (D mz).f3 (D mz).f4 = _ := h2
  have hd : (LL mx_).drop j = (LL mx_).getD j 0 :: (LL mx_).drop (j + 1) := by rw [getD_lt (LL mx_) 0 hj]; exact List.drop_eq_getElem_cons hj
  have hlen := rows_len gmul (LL mz) ((LL mx_).getD j 0) (LL my)
  obtain ⟨k', h3, h4, h5⟩ := pl0_mul mx_ my mz m (j + 1) k1 (T ++ rowsOf gmul (LL mz) ((LL mx_).getD j 0) (LL my)) (by omega) (by omega) (by rw [List.length_append]; omega)
  have et : T ++ trips gmul ((LL mx_).drop j) (LL my) (LL mz) = T ++ rowsOf gmul (LL mz) ((LL mx_).getD j 0) (LL my) ++ trips gmul ((LL mx_).drop (j + 1)) (LL my) (LL mz) := by
   rw [hd, List.append_assoc]; rfl
  refine ⟨k', h3, ?_, by rw [et]; exact h5⟩
  rw [prop_Pairs_at_num_Mul.l0, if_pos (nlt hj), ipo_, if_pos (nlt hj), list_one my (by omega), obs_, rd_at, h2', List.drop_zero, et]
  exact h4
theorem pf_mul (mx_ my mz : Fin 2048) {k : Nat} (hk : 1600 ≤ k) : ∃ T, (∀ r, r ∈ T ↔ ∃ v w, r = [v, w, (gmul v w).1] ∧ v ∈ LL mx_ ∧ w ∈ LL my ∧ (gmul v w).1 ∈ LL mz ∧ (gmul v w).2 = true) ∧
  prop_Pairs_at_num_Mul.f k (D mx_).f0 (D mx_).f1 (D mx_).f2 (D mx_).f3 (D mx_).f4 (D my).f0 (D my).f1 (D my).f2 (D my).f3 (D my).f4 (D mz).f0 (D mz).f1 (D mz).f2 (D mz).f3 (D mz).f4 = some (made 3 T) := by
 have h11 := (len_all mx_).1
 obtain ⟨k', h1, h2, h3⟩ := pl0_mul mx_ my mz (LL mx_).length 0 k [] (by omega) (by omega) (by simp; omega)
 rw [List.drop_zero, List.nil_append] at h2 h3
 have hm : ∀ r, r ∈ trips gmul (LL mx_) (LL my) (LL mz) ↔ _ := fun r => mem_trips
 refine ⟨trips gmul (LL mx_) (LL my) (LL mz), hm, ?_⟩
 have hn : ∀ i, i < 3 → Near (col (trips gmul (LL mx_) (LL my) (LL mz)) i) := fun i hi v hv => by
  obtain ⟨r, hr, rfl⟩ := mem_col.1 hv
  obtain ⟨a, b, rfl, ha, hb, hc, _⟩ := (hm r).1 hr
  match i, hi with
  | 0, _ => exact near_LL mx_ _ ha
  | 1, _ => exact near_LL my _ hb
  | 2, _ => exact near_LL mz _ hc
 have hmade := made_f 3 (by decide) _ (by omega) hn h1
 unfold prop_Pairs_at_num_Mul.f
 rw [list_one mx_ (by omega), obs_]
 have h2' : prop_Pairs_at_num_Mul.l0 k [] [] [] (LL mx_) ((LL mx_).length : Int) 0 (D my).f0 (D my).f1 (D my).f2 (D my).f3 (D my).f4 (D mz).f0 (D mz).f1 (D mz).f2 (D mz).f3 (D mz).f4 = _ := h2
 rw [h2', hmade, obs_]
theorem pl1_quo (mx_ my mz : Fin 2048) (i : Nat) (hi : i < (LL mx_).length) : ∀ (m j k : Nat) (acc : List (List Int)), (LL my).length = j + m → m + 30 < k → acc.length + m ≤ 500 →
  ∃ k', k' + m + 1 = k ∧ prop_Pairs_at_num_Quo.l1 k (col acc 0) (col acc 1) (col acc 2) ((LL mx_).getD i 0) (LL mx_) ((LL mx_).length : Int) (i : Int) (LL my) ((LL my).length : Int) (j : Int) (D my).f0 (D my).f1 (D my).f2 (D my).f3 (D my).f4 (D mz).f0 (D mz).f1 (D mz).f2 (D mz).f3 (D mz).f4 =
   prop_Pairs_at_num_Quo.l0 k' (col (acc ++ rowsOf quo (LL mz) ((LL mx_).getD i 0) ((LL my).drop j)) 0) (col (acc ++ rowsOf quo (LL mz) ((LL mx_).getD i 0) ((LL my).drop j)) 1) (col (acc ++ rowsOf quo (LL mz) ((LL mx_).getD i 0) ((LL my).drop j)) 2) (LL mx_) ((LL mx_).length : Int) (((i + 1 : Nat)) : Int) (D my).f0 (D my).f1 (D my).f2 (D my).f3 (D my).f4 (D mz).f0 (D mz).f1 (D mz).f2 (D mz).f3 (D mz).f4
 | 0, j, k + 1, acc, e, hk, ha => by
  have h11 := (len_all mx_).1
  refine ⟨k, rfl, ?_⟩
  rw [prop_Pairs_at_num_Quo.l1, ino_, wsu_, List.drop_eq_nil_of_le (by omega), show rowsOf quo (LL mz) ((LL mx_).getD i 0) [] = [] from rfl, List.append_nil]
 | m + 1, j, k + 1, acc, e, hk, ha => by
  have h11 := (len_all my).1
  have hj : j < (LL my).length := by omega
  have hv := near_LL mx_ _ (getD_mem (LL mx_) 0 hi)
  have hw := near_LL my _ (getD_mem (LL my) 0 hj)
  have hd : (LL my).drop j = (LL my).getD j 0 :: (LL my).drop (j + 1) := by rw [getD_lt (LL my) 0 hj]; exact List.drop_eq_getElem_cons hj
  have hcall : num_Quo.f ((LL mx_).getD i 0) ((LL my).getD j 0) = some (quo ((LL mx_).getD i 0) ((LL my).getD j 0)) := quo_f hv hw
  have hrange := rng_quo hv hw
  have hg : quo ((LL mx_).getD i 0) ((LL my).getD j 0) = quo ((LL mx_).getD i 0) ((LL my).getD j 0) := rfl
  rw [prop_Pairs_at_num_Quo.l1, if_pos (nlt hj), ipo_, if_pos (nlt hj), rd_at, hcall, obs_, wsu_, hd]
  by_cases hb : (quo ((LL mx_).getD i 0) ((LL my).getD j 0)).2 = true
  ·
   rw [if_pos hb, has_far mz hrange, obs_]
   by_cases hz : (quo ((LL mx_).getD i 0) ((LL my).getD j 0)).1 ∈ LL mz
   ·
    obtain ⟨k', h1, h2⟩ := pl1_quo mx_ my mz i hi m (j + 1) k (acc ++ [[(LL mx_).getD i 0, (LL my).getD j 0, (quo ((LL mx_).getD i 0) ((LL my).getD j 0)).1]]) (by omega) (by omega) (by simp; omega)
    refine ⟨k', by omega, ?_⟩
    rw [if_pos (decide_eq_true hz), if_pos (by rw [col_len]; omega), if_pos (by rw [col_len]; omega), if_pos (by rw [col_len]; omega), rows_pos hb hz, ← List.append_assoc]
    rw [col_app acc, col_app acc, col_app acc] at h2
    exact h2
   ·
    obtain ⟨k', h1, h2⟩ := pl1_quo mx_ my mz i hi m (j + 1) k acc (by omega) (by omega) (by omega)
    refine ⟨k', by omega, ?_⟩
    rw [if_neg (by simpa using hz), rows_neg (fun h => hz h.2), h2]
  ·
   obtain ⟨k', h1, h2⟩ := pl1_quo mx_ my mz i hi m (j + 1) k acc (by omega) (by omega) (by omega)
   refine ⟨k', by omega, ?_⟩
   rw [if_neg hb, rows_neg (fun h => hb h.1), h2]
theorem pl0_quo (mx_ my mz : Fin 2048) : ∀ (m j k : Nat) (T : List (List Int)), (LL mx_).length = j + m → 20 * m + 1300 < k → T.length + 11 * m ≤ 400 →
  ∃ k', 1200 ≤ k' ∧ prop_Pairs_at_num_Quo.l0 k (col T 0) (col T 1) (col T 2) (LL mx_) ((LL mx_).length : Int) (j : Int) (D my).f0 (D my).f1 (D my).f2 (D my).f3 (D my).f4 (D mz).f0 (D mz).f1 (D mz).f2 (D mz).f3 (D mz).f4 =
   ((prop_Made.f k' ((List.range 3).map (col (T ++ trips quo ((LL mx_).drop j) (LL my) (LL mz))))).bind fun bt => some (bt.1, bt.2)) ∧ (T ++ trips quo ((LL mx_).drop j) (LL my) (LL mz)).length ≤ 400
 | 0, j, k + 1, T, e, hk, ha => by
  refine ⟨k, by omega, ?_, ?_⟩
  ·
   rw [prop_Pairs_at_num_Quo.l0, ino_, List.drop_eq_nil_of_le (by omega), show trips quo [] (LL my) (LL mz) = [] from rfl, List.append_nil]
   rfl
  ·
   rw [List.drop_eq_nil_of_le (by omega), show trips quo [] (LL my) (LL mz) = [] from rfl, List.append_nil]; omega
 | m + 1, j, k + 1, T, e, hk, ha => by
  have h11 := (len_all my).1
  have h12 := (len_all mx_).1
  have hj : j < (LL mx_).length := by omega
  obtain ⟨k1, h1, h2⟩ := pl1_quo mx_ my mz j hj (LL my).length 0 k T (by omega) (by omega) (by omega)
  have h2' : prop_Pairs_at_num_Quo.l1 k (col T 0) (col T 1) (col T 2) ((LL mx_).getD j 0) (LL mx_) ((LL mx_).length : Int) (j : Int) (LL my) ((LL my).length : Int) 0 (D my).f0 (D my).f1 (D my).f2 (D my).f3 (D my).f4 (D mz).f0 (D mz).f1 (D mz).f2 (D mz).f3 (D mz).f4 = _ := h2
  have hd : (LL mx_).drop j = (LL mx_).getD j 0 :: (LL mx_).drop (j + 1) := by rw [getD_lt (LL mx_) 0 hj]; exact List.drop_eq_getElem_cons hj
  have hlen := rows_len quo (LL mz) ((LL mx_).getD j 0) (LL my)
  obtain ⟨k', h3, h4, h5⟩ := pl0_quo mx_ my mz m (j + 1) k1 (T ++ rowsOf quo (LL mz) ((LL mx_).getD j 0) (LL my)) (by omega) (by omega) (by rw [List.length_append]; omega)
  have et : T ++ trips quo ((LL mx_).drop j) (LL my) (LL mz) = T ++ rowsOf quo (LL mz) ((LL mx_).getD j 0) (LL my) ++ trips quo ((LL mx_).drop (j + 1)) (LL my) (LL mz) := by
   rw [hd, List.append_assoc]; rfl
  refine ⟨k', h3, ?_, by rw [et]; exact h5⟩
  rw [prop_Pairs_at_num_Quo.l0, if_pos (nlt hj), ipo_, if_pos (nlt hj), list_one my (by omega), obs_, rd_at, h2', List.drop_zero, et]
  exact h4
theorem pf_quo (mx_ my mz : Fin 2048) {k : Nat} (hk : 1600 ≤ k) : ∃ T, (∀ r, r ∈ T ↔ ∃ v w, r = [v, w, (quo v w).1] ∧ v ∈ LL mx_ ∧ w ∈ LL my ∧ (quo v w).1 ∈ LL mz ∧ (quo v w).2 = true) ∧
  prop_Pairs_at_num_Quo.f k (D mx_).f0 (D mx_).f1 (D mx_).f2 (D mx_).f3 (D mx_).f4 (D my).f0 (D my).f1 (D my).f2 (D my).f3 (D my).f4 (D mz).f0 (D mz).f1 (D mz).f2 (D mz).f3 (D mz).f4 = some (made 3 T) := by
 have h11 := (len_all mx_).1
 obtain ⟨k', h1, h2, h3⟩ := pl0_quo mx_ my mz (LL mx_).length 0 k [] (by omega) (by omega) (by simp; omega)
 rw [List.drop_zero, List.nil_append] at h2 h3
 have hm : ∀ r, r ∈ trips quo (LL mx_) (LL my) (LL mz) ↔ _ := fun r => mem_trips
 refine ⟨trips quo (LL mx_) (LL my) (LL mz), hm, ?_⟩
 have hn : ∀ i, i < 3 → Near (col (trips quo (LL mx_) (LL my) (LL mz)) i) := fun i hi v hv => by
  obtain ⟨r, hr, rfl⟩ := mem_col.1 hv
  obtain ⟨a, b, rfl, ha, hb, hc, _⟩ := (hm r).1 hr
  match i, hi with
  | 0, _ => exact near_LL mx_ _ ha
  | 1, _ => exact near_LL my _ hb
  | 2, _ => exact near_LL mz _ hc
 have hmade := made_f 3 (by decide) _ (by omega) hn h1
 unfold prop_Pairs_at_num_Quo.f
 rw [list_one mx_ (by omega), obs_]
 have h2' : prop_Pairs_at_num_Quo.l0 k [] [] [] (LL mx_) ((LL mx_).length : Int) 0 (D my).f0 (D my).f1 (D my).f2 (D my).f3 (D my).f4 (D mz).f0 (D mz).f1 (D mz).f2 (D mz).f3 (D mz).f4 = _ := h2
 rw [h2', hmade, obs_]
theorem pl1_rmd (mx_ my mz : Fin 2048) (i : Nat) (hi : i < (LL mx_).length) : ∀ (m j k : Nat) (acc : List (List Int)), (LL my).length = j + m → m + 30 < k → acc.length + m ≤ 500 →
  ∃ k', k' + m + 1 = k ∧ prop_Pairs_at_num_Rem.l1 k (col acc 0) (col acc 1) (col acc 2) ((LL mx_).getD i 0) (LL mx_) ((LL mx_).length : Int) (i : Int) (LL my) ((LL my).length : Int) (j : Int) (D my).f0 (D my).f1 (D my).f2 (D my).f3 (D my).f4 (D mz).f0 (D mz).f1 (D mz).f2 (D mz).f3 (D mz).f4 =
   prop_Pairs_at_num_Rem.l0 k' (col (acc ++ rowsOf rmd (LL mz) ((LL mx_).getD i 0) ((LL my).drop j)) 0) (col (acc ++ rowsOf rmd (LL mz) ((LL mx_).getD i 0) ((LL my).drop j)) 1) (col (acc ++ rowsOf rmd (LL mz) ((LL mx_).getD i 0) ((LL my).drop j)) 2) (LL mx_) ((LL mx_).length : Int) (((i + 1 : Nat)) : Int) (D my).f0 (D my).f1 (D my).f2 (D my).f3 (D my).f4 (D mz).f0 (D mz).f1 (D mz).f2 (D mz).f3 (D mz).f4
 | 0, j, k + 1, acc, e, hk, ha => by
  have h11 := (len_all mx_).1
  refine ⟨k, rfl, ?_⟩
  rw [prop_Pairs_at_num_Rem.l1, ino_, wsu_, List.drop_eq_nil_of_le (by omega), show rowsOf rmd (LL mz) ((LL mx_).getD i 0) [] = [] from rfl, List.append_nil]
 | m + 1, j, k + 1, acc, e, hk, ha => by
  have h11 := (len_all my).1
  have hj : j < (LL my).length := by omega
  have hv := near_LL mx_ _ (getD_mem (LL mx_) 0 hi)
  have hw := near_LL my _ (getD_mem (LL my) 0 hj)
  have hd : (LL my).drop j = (LL my).getD j 0 :: (LL my).drop (j + 1) := by rw [getD_lt (LL my) 0 hj]; exact List.drop_eq_getElem_cons hj
  have hcall : num_Rem.f ((LL mx_).getD i 0) ((LL my).getD j 0) = some (rmd ((LL mx_).getD i 0) ((LL my).getD j 0)) := rmd_f hv hw
  have hrange := rng_rmd hv hw
  have hg : rmd ((LL mx_).getD i 0) ((LL my).getD j 0) = rmd ((LL mx_).getD i 0) ((LL my).getD j 0) := rfl
  rw [prop_Pairs_at_num_Rem.l1, if_pos (nlt hj), ipo_, if_pos (nlt hj), rd_at, hcall, obs_, wsu_, hd]
  by_cases hb : (rmd ((LL mx_).getD i 0) ((LL my).getD j 0)).2 = true
  ·
   rw [if_pos hb, has_far mz hrange, obs_]
   by_cases hz : (rmd ((LL mx_).getD i 0) ((LL my).getD j 0)).1 ∈ LL mz
   ·
    obtain ⟨k', h1, h2⟩ := pl1_rmd mx_ my mz i hi m (j + 1) k (acc ++ [[(LL mx_).getD i 0, (LL my).getD j 0, (rmd ((LL mx_).getD i 0) ((LL my).getD j 0)).1]]) (by omega) (by omega) (by simp; omega)
    refine ⟨k', by omega, ?_⟩
    rw [if_pos (decide_eq_true hz), if_pos (by rw [col_len]; omega), if_pos (by rw [col_len]; omega), if_pos (by rw [col_len]; omega), rows_pos hb hz, ← List.append_assoc]
    rw [col_app acc, col_app acc, col_app acc] at h2
    exact h2
   ·
    obtain ⟨k', h1, h2⟩ := pl1_rmd mx_ my mz i hi m (j + 1) k acc (by omega) (by omega) (by omega)
    refine ⟨k', by omega, ?_⟩
    rw [if_neg (by simpa using hz), rows_neg (fun h => hz h.2), h2]
  ·
   obtain ⟨k', h1, h2⟩ := pl1_rmd mx_ my mz i hi m (j + 1) k acc (by omega) (by omega) (by omega)
   refine ⟨k', by omega, ?_⟩
   rw [if_neg hb, rows_neg (fun h => hb h.1), h2]
theorem pl0_rmd (mx_ my mz : Fin 2048) : ∀ (m j k : Nat) (T : List (List Int)), (LL mx_).length = j + m → 20 * m + 1300 < k → T.length + 11 * m ≤ 400 →
  ∃ k', 1200 ≤ k' ∧ prop_Pairs_at_num_Rem.l0 k (col T 0) (col T 1) (col T 2) (LL mx_) ((LL mx_).length : Int) (j : Int) (D my).f0 (D my).f1 (D my).f2 (D my).f3 (D my).f4 (D mz).f0 (D mz).f1 (D mz).f2 (D mz).f3 (D mz).f4 =
   ((prop_Made.f k' ((List.range 3).map (col (T ++ trips rmd ((LL mx_).drop j) (LL my) (LL mz))))).bind fun bt => some (bt.1, bt.2)) ∧ (T ++ trips rmd ((LL mx_).drop j) (LL my) (LL mz)).length ≤ 400
 | 0, j, k + 1, T, e, hk, ha => by
  refine ⟨k, by omega, ?_, ?_⟩
  ·
   rw [prop_Pairs_at_num_Rem.l0, ino_, List.drop_eq_nil_of_le (by omega), show trips rmd [] (LL my) (LL mz) = [] from rfl, List.append_nil]
   rfl
  ·
   rw [List.drop_eq_nil_of_le (by omega), show trips rmd [] (LL my) (LL mz) = [] from rfl, List.append_nil]; omega
 | m + 1, j, k + 1, T, e, hk, ha => by
  have h11 := (len_all my).1
  have h12 := (len_all mx_).1
  have hj : j < (LL mx_).length := by omega
  obtain ⟨k1, h1, h2⟩ := pl1_rmd mx_ my mz j hj (LL my).length 0 k T (by omega) (by omega) (by omega)
  have h2' : prop_Pairs_at_num_Rem.l1 k (col T 0) (col T 1) (col T 2) ((LL mx_).getD j 0) (LL mx_) ((LL mx_).length : Int) (j : Int) (LL my) ((LL my).length : Int) 0 (D my).f0 (D my).f1 (D my).f2 (D my).f3 (D my).f4 (D mz).f0 (D mz).f1 (D mz).f2 (D mz).f3 (D mz).f4 = _ := h2
  have hd : (LL mx_).drop j = (LL mx_).getD j 0 :: (LL mx_).drop (j + 1) := by rw [getD_lt (LL mx_) 0 hj]; exact List.drop_eq_getElem_cons hj
  have hlen := rows_len rmd (LL mz) ((LL mx_).getD j 0) (LL my)
  obtain ⟨k', h3, h4, h5⟩ := pl0_rmd mx_ my mz m (j + 1) k1 (T ++ rowsOf rmd (LL mz) ((LL mx_).getD j 0) (LL my)) (by omega) (by omega) (by rw [List.length_append]; omega)
  have et : T ++ trips rmd ((LL mx_).drop j) (LL my) (LL mz) = T ++ rowsOf rmd (LL mz) ((LL mx_).getD j 0) (LL my) ++ trips rmd ((LL mx_).drop (j + 1)) (LL my) (LL mz) := by
   rw [hd, List.append_assoc]; rfl
  refine ⟨k', h3, ?_, by rw [et]; exact h5⟩
  rw [prop_Pairs_at_num_Rem.l0, if_pos (nlt hj), ipo_, if_pos (nlt hj), list_one my (by omega), obs_, rd_at, h2', List.drop_zero, et]
  exact h4
theorem pf_rmd (mx_ my mz : Fin 2048) {k : Nat} (hk : 1600 ≤ k) : ∃ T, (∀ r, r ∈ T ↔ ∃ v w, r = [v, w, (rmd v w).1] ∧ v ∈ LL mx_ ∧ w ∈ LL my ∧ (rmd v w).1 ∈ LL mz ∧ (rmd v w).2 = true) ∧
  prop_Pairs_at_num_Rem.f k (D mx_).f0 (D mx_).f1 (D mx_).f2 (D mx_).f3 (D mx_).f4 (D my).f0 (D my).f1 (D my).f2 (D my).f3 (D my).f4 (D mz).f0 (D mz).f1 (D mz).f2 (D mz).f3 (D mz).f4 = some (made 3 T) := by
 have h11 := (len_all mx_).1
 obtain ⟨k', h1, h2, h3⟩ := pl0_rmd mx_ my mz (LL mx_).length 0 k [] (by omega) (by omega) (by simp; omega)
 rw [List.drop_zero, List.nil_append] at h2 h3
 have hm : ∀ r, r ∈ trips rmd (LL mx_) (LL my) (LL mz) ↔ _ := fun r => mem_trips
 refine ⟨trips rmd (LL mx_) (LL my) (LL mz), hm, ?_⟩
 have hn : ∀ i, i < 3 → Near (col (trips rmd (LL mx_) (LL my) (LL mz)) i) := fun i hi v hv => by
  obtain ⟨r, hr, rfl⟩ := mem_col.1 hv
  obtain ⟨a, b, rfl, ha, hb, hc, _⟩ := (hm r).1 hr
  match i, hi with
  | 0, _ => exact near_LL mx_ _ ha
  | 1, _ => exact near_LL my _ hb
  | 2, _ => exact near_LL mz _ hc
 have hmade := made_f 3 (by decide) _ (by omega) hn h1
 unfold prop_Pairs_at_num_Rem.f
 rw [list_one mx_ (by omega), obs_]
 have h2' : prop_Pairs_at_num_Rem.l0 k [] [] [] (LL mx_) ((LL mx_).length : Int) 0 (D my).f0 (D my).f1 (D my).f2 (D my).f3 (D my).f4 (D mz).f0 (D mz).f1 (D mz).f2 (D mz).f3 (D mz).f4 = _ := h2
 rw [h2', hmade, obs_]
theorem threeM {ms : List (Fin 2048)} (h : ms.length = 3) : ∃ x y z, ms = [x, y, z] := by
 match ms, h with
 | [x, y, z], _ => exact ⟨x, y, z, rfl⟩
theorem f4_len (m : Fin 2048) : (D m).f4 = ((LL m).length : Int) := by
 unfold D DM LL
 split
 ·
  rfl
 ·
  split <;> rfl
theorem few_pairs (a b : Fin 2048) : ¬ wrap64 ((D a).f4 * (D b).f4) > 4096 := by
 have h : (LL a).length * (LL b).length ≤ 11 * 11 := Nat.mul_le_mul (len_all a).1 (len_all b).1
 have e : (D a).f4 * (D b).f4 = (((LL a).length * (LL b).length : Nat) : Int) := by rw [f4_len, f4_len, Int.natCast_mul]
 rw [e, wrap_id (by omega) (by omega)]
 omega
theorem rows_good {kd : Int} {g : Int → Int → Int × Bool} (hg : ∀ x y, res kd x y = g x y) {X Y Z : List Int} {r : List Int} : (∃ v w, r = [v, w, (g v w).1] ∧ v ∈ X ∧ w ∈ Y ∧ (g v w).1 ∈ Z ∧ (g v w).2 = true) ↔ Good kd [X, Y, Z] r := by
 constructor
 ·
  rintro ⟨v, w, rfl, hv, hw, hz, hb⟩
  refine ⟨row3.2 ⟨v, w, _, rfl, hv, hw, hz⟩, ?_⟩
  show ((res kd v w).2 && (g v w).1 == (res kd v w).1) = true
  rw [hg, hb, Bool.true_and]; exact beq_iff_eq.2 rfl
 ·
  rintro ⟨h, h2⟩
  obtain ⟨x, y, z, rfl, hx, hy, hz⟩ := row3.1 h
  have h3 : ((res kd x y).2 && z == (res kd x y).1) = true := h2
  rw [hg, Bool.and_eq_true, beq_iff_eq] at h3
  rw [h3.2] at hz ⊢
  exact ⟨x, y, rfl, hx, hy, hz, h3.1⟩
theorem filter_f (kd : Int) (n : Nat) (hd : Kind kd n) (p : List Int) (hp : Places n p) (ms : List (Fin 2048)) (hl : ms.length = n) (hs : ∀ c ∈ ms, c.val ≠ 0) {k : Nat} (hk : 2000 ≤ k) :
  ∃ T, (∀ r, r ∈ T ↔ Good kd (ms.map LL) r) ∧ mul_Filter.f k kd p [] [] [] [] 0 [] (ms.map D) = some (made n T) := by
 have hf := fits_f kd n hd p (ms.map D) hp (by simp [hl]) (fun d hd' => by obtain ⟨m, hm, rfl⟩ := List.mem_map.1 hd'; exact size_all m (hs m hm)) (k := k) (by omega)
 unfold mul_Filter.f
 rw [hf, obs_, if_pos rfl]
 rcases hd with ⟨rfl, rfl⟩ | ⟨rfl, rfl⟩ | ⟨rfl, rfl⟩
 ·
  obtain ⟨a, b, c, rfl⟩ := threeM hl
  obtain ⟨T, hT, e⟩ := pf_mul a b c (k := k) (by omega)
  refine ⟨T, fun r => (hT r).trans (rows_good (kd := 5) (g := gmul) (X := LL a) (Y := LL b) (Z := LL c) (fun x y => rfl)), ?_⟩
  rw [if_pos (by simp)]
  show (some (D a).f4).bind _ = _
  rw [obs_, if_pos (by simp)]
  show (some (D b).f4).bind _ = _
  rw [obs_, if_neg (few_pairs a b), ind_, ind_, if_pos (by simp)]
  show (prop_Pairs_at_num_Mul.f k (D a).f0 (D a).f1 (D a).f2 (D a).f3 (D a).f4 (D b).f0 (D b).f1 (D b).f2 (D b).f3 (D b).f4 (D c).f0 (D c).f1 (D c).f2 (D c).f3 (D c).f4).bind _ = _
  rw [e, obs_]
 ·
  obtain ⟨a, b, c, rfl⟩ := threeM hl
  obtain ⟨T, hT, e⟩ := pf_quo a b c (k := k) (by omega)
  refine ⟨T, fun r => (hT r).trans (rows_good (kd := 6) (g := quo) (X := LL a) (Y := LL b) (Z := LL c) (fun x y => rfl)), ?_⟩
  rw [if_pos (by simp)]
  show (some (D a).f4).bind _ = _
  rw [obs_, if_pos (by simp)]
  show (some (D b).f4).bind _ = _
  rw [obs_, if_neg (few_pairs a b), if_pos rfl, if_pos (by simp)]
  show (prop_Pairs_at_num_Quo.f k (D a).f0 (D a).f1 (D a).f2 (D a).f3 (D a).f4 (D b).f0 (D b).f1 (D b).f2 (D b).f3 (D b).f4 (D c).f0 (D c).f1 (D c).f2 (D c).f3 (D c).f4).bind _ = _
  rw [e, obs_]
 ·
  obtain ⟨a, b, c, rfl⟩ := threeM hl
  obtain ⟨T, hT, e⟩ := pf_rmd a b c (k := k) (by omega)
  refine ⟨T, fun r => (hT r).trans (rows_good (kd := 7) (g := rmd) (X := LL a) (Y := LL b) (Z := LL c) (fun x y => rfl)), ?_⟩
  rw [if_pos (by simp)]
  show (some (D a).f4).bind _ = _
  rw [obs_, if_pos (by simp)]
  show (some (D b).f4).bind _ = _
  rw [obs_, if_neg (few_pairs a b), ind_, if_pos rfl, if_pos (by simp)]
  show (prop_Pairs_at_num_Rem.f k (D a).f0 (D a).f1 (D a).f2 (D a).f3 (D a).f4 (D b).f0 (D b).f1 (D b).f2 (D b).f3 (D b).f4 (D c).f0 (D c).f1 (D c).f2 (D c).f3 (D c).f4).bind _ = _
  rw [e, obs_]
def mark (n : Nat) (is : List Nat) : List Bool := (List.range n).map fun i => decide (i ∈ is)
theorem mark_len (n : Nat) (is : List Nat) : (mark n is).length = n := by simp [mark]
theorem mark_at {n i : Nat} (is : List Nat) (hi : i < n) : (mark n is).getD i false = decide (i ∈ is) := by
 unfold mark
 rw [getD_map (fun i => decide (i ∈ is)) (List.range n) 0 false (by simpa using hi), getD_lt _ _ (by simpa using hi)]; simp
theorem mark_nil (n : Nat) : List.replicate n false = mark n [] := by
 symm
 rw [List.eq_replicate_iff]
 refine ⟨mark_len _ _, fun b hb => ?_⟩
 obtain ⟨i, _, rfl⟩ := List.mem_map.1 hb
 simp
theorem mark_set {n i : Nat} (is : List Nat) (hi : i < n) : (mark n is).set i true = mark n (i :: is) := by
 apply List.ext_getElem (by simp [mark_len])
 intro j h1 h2
 have hj : j < n := by rw [mark_len] at h2; exact h2
 have e1 := mark_at (i :: is) hj
 have e2 := mark_at is hj
 rw [getD_lt _ _ (by rw [mark_len]; exact hj)] at e1 e2
 rw [List.getElem_set, e1]
 by_cases h : i = j
 ·
  rw [if_pos h, h]; symm; exact decide_eq_true List.mem_cons_self
 ·
  rw [if_neg h, e2, decide_eq_decide, List.mem_cons]
  exact ⟨fun h' => Or.inr h', fun h' => h'.resolve_left fun h'' => h h''.symm⟩
theorem rdB_at (l : List Bool) (j : Nat) : rdOf false l (j : Int) = l.getD j false := rfl
theorem those_l0 (l : List Int) (is : List Nat) (p : Int → Bool) (hl : l.length ≤ 100) (hp : ∀ i, i < l.length → (decide (i ∈ is) = p (l.getD i 0))) : ∀ (m j k : Nat) (acc : List Int), l.length = j + m → m < k → acc.length ≤ j →
  jigsawref11_Those.l0 k l (mark l.length is) acc (j : Int) = some (acc ++ (l.drop j).filter p)
 | 0, j, k + 1, acc, e, hk, ha => by
  rw [jigsawref11_Those.l0, ino_, List.drop_eq_nil_of_le (by omega)]; simp
 | m + 1, j, k + 1, acc, e, hk, ha => by
  have hj : j < l.length := by omega
  have hd : l.drop j = l.getD j 0 :: l.drop (j + 1) := by rw [getD_lt l 0 hj]; exact List.drop_eq_getElem_cons hj
  rw [jigsawref11_Those.l0, if_pos (nlt hj), ipo_, if_pos (by rw [mark_len]; exact nlt hj), rdB_at, mark_at is hj, hp j hj, rd_at, wsu_, hd]
  by_cases h : p (l.getD j 0) = true
  ·
   rw [if_pos h, ipo_, those_l0 l is p hl hp m (j + 1) k _ (by omega) (by omega) (by simp; omega), List.filter_cons_of_pos h, List.append_assoc]; rfl
  ·
   rw [if_neg h, those_l0 l is p hl hp m (j + 1) k acc (by omega) (by omega) (by omega), List.filter_cons_of_neg h]
theorem those_f (l : List Int) (is : List Nat) (p : Int → Bool) (hl : l.length ≤ 100) (hp : ∀ i, i < l.length → (decide (i ∈ is) = p (l.getD i 0))) {k : Nat} (hk : 101 ≤ k) : jigsawref11_Those.f k l (mark l.length is) = some (l.filter p) := by
 have h := those_l0 l is p hl hp l.length 0 k [] (by omega) (by omega) (by simp)
 rw [List.drop_zero, List.nil_append] at h
 exact h
def madeL (n : Nat) (T : List (List Int)) : List (List Int) × Bool := if T = [] then ([], false) else ((List.range n).map fun i => LL (mk (col T i)), true)
theorem col_filter {T : List (List Int)} {i : Nat} (hn : Near (col T i)) (m : Fin 2048) (hs : ∀ v ∈ col T i, v ∈ LL m) : (LL m).filter (fun v => decide (v ∈ col T i)) = LL (mk (col T i)) := by
 symm
 unfold LL
 apply L_filter
 intro v h1 h2
 have e := mem_mk hn (v := v)
 unfold LL at e hs
 rw [e, decide_eq_true_iff]
 exact ⟨fun h => ⟨hs v h, h⟩, fun h => h.2⟩

def Bef (i k j : Nat) (t : Nat × Nat × Nat) : Prop := t.1 < i ∨ (t.1 = i ∧ (t.2.1 < k ∨ (t.2.1 = k ∧ t.2.2 < j)))
def Hit (g : Int → Int → Int × Bool) (X Y Z : List Int) (t : Nat × Nat × Nat) : Prop := t.1 < X.length ∧ t.2.1 < Y.length ∧ t.2.2 < Z.length ∧ (g (X.getD t.1 0) (Y.getD t.2.1 0)).2 = true ∧ Z.getD t.2.2 0 = (g (X.getD t.1 0) (Y.getD t.2.1 0)).1
def Inv (g : Int → Int → Int × Bool) (X Y Z : List Int) (i k j : Nat) (F : List (Nat × Nat × Nat)) : Prop := ∀ t, t ∈ F ↔ Bef i k j t ∧ Hit g X Y Z t
theorem inv_keep {g : Int → Int → Int × Bool} {X Y Z : List Int} {i k j i' k' j' : Nat} {F : List (Nat × Nat × Nat)} (h : Inv g X Y Z i k j F) (he : ∀ t, Hit g X Y Z t → (Bef i k j t ↔ Bef i' k' j' t)) : Inv g X Y Z i' k' j' F := by
 intro t
 rw [h t]
 exact ⟨fun ⟨a, b⟩ => ⟨(he t b).1 a, b⟩, fun ⟨a, b⟩ => ⟨(he t b).2 a, b⟩⟩
theorem inv_put {g : Int → Int → Int × Bool} {X Y Z : List Int} {i k j : Nat} {F : List (Nat × Nat × Nat)} (h : Inv g X Y Z i k j F) (hh : Hit g X Y Z (i, k, j)) : Inv g X Y Z i k (j + 1) ((i, k, j) :: F) := by
 intro t
 rw [List.mem_cons, h t]
 constructor
 ·
  rintro (rfl | ⟨a, b⟩)
  ·
   exact ⟨Or.inr ⟨rfl, Or.inr ⟨rfl, Nat.lt_succ_self _⟩⟩, hh⟩
  ·
   refine ⟨?_, b⟩
   unfold Bef at *; omega
 ·
  rintro ⟨a, b⟩
  by_cases ht : t = (i, k, j)
  ·
   exact Or.inl ht
  ·
   refine Or.inr ⟨?_, b⟩
   obtain ⟨x, y, z⟩ := t
   simp only [Prod.mk.injEq] at ht
   unfold Bef at *
   simp only [] at *
   omega
section
variable (kd : Int) (g : Int → Int → Int × Bool) (X Y Z : List Int) (hX : X.length ≤ 11) (hY : Y.length ≤ 11) (hZ : Z.length ≤ 11)
include hY hZ
theorem dp_l2 (i kk : Nat) (hi : i < X.length) (hkk : kk < Y.length) : ∀ (m j k : Nat) (F : List (Nat × Nat × Nat)), Z.length = j + m → 2 * m + 3 < k → Inv g X Y Z i kk j F →
  ∃ k' F', k ≤ k' + 2 * m + 2 ∧ Inv g X Y Z i (kk + 1) 0 F' ∧ jigsawref11_Pairs.l2 k kd [X, Y, Z] (mark X.length (F.map (·.1))) (mark Y.length (F.map (·.2.1))) (mark Z.length (F.map (·.2.2))) (!F.isEmpty) (i : Int) (kk : Int) (g (X.getD i 0) (Y.getD kk 0)).1 (g (X.getD i 0) (Y.getD kk 0)).2 (j : Int) =
   jigsawref11_Pairs.l1 k' kd [X, Y, Z] (mark X.length (F'.map (·.1))) (mark Y.length (F'.map (·.2.1))) (mark Z.length (F'.map (·.2.2))) (!F'.isEmpty) (i : Int) (((kk + 1 : Nat)) : Int) := by
 intro m
 induction m with
 | zero =>
  intro j k F e hk hF
  obtain ⟨k, rfl⟩ : ∃ k', k = k' + 2 := ⟨k - 2, by omega⟩
  refine ⟨k, F, by omega, inv_keep hF (fun t ht => ?_), ?_⟩
  ·
   have h1 := ht.2.2.1
   unfold Bef; omega
  ·
   rw [jigsawref11_Pairs.l2, if_pos (by simp), show rd_L7 [X, Y, Z] 2 = Z from rfl, ino_, jigsawref11_Pairs.j3, ind_, wsu_]
 | succ m ih =>
  intro j k F e hk hF
  have hj : j < Z.length := by omega
  obtain ⟨k, rfl⟩ : ∃ k', k = k' + 2 := ⟨k - 2, by omega⟩
  rw [jigsawref11_Pairs.l2, if_pos (by simp), show rd_L7 [X, Y, Z] 2 = Z from rfl, if_pos (nlt hj), jigsawref11_Pairs.j3]
  by_cases hb : (g (X.getD i 0) (Y.getD kk 0)).2 = true
  ·
   rw [if_pos hb, if_pos (by simp), ipo_, show rd_L7 [X, Y, Z] 2 = Z from rfl, if_pos (nlt hj), rd_at]
   by_cases hz : Z.getD j 0 = (g (X.getD i 0) (Y.getD kk 0)).1
   ·
    obtain ⟨k', F', h1, h2, h3⟩ := ih (j + 1) k ((i, kk, j) :: F) (by omega) (by omega) (inv_put hF ⟨hi, hkk, hj, hb, hz⟩)
    refine ⟨k', F', by omega, h2, ?_⟩
    rw [if_pos hz, ipo_, if_pos (by rw [mark_len]; exact nlt hi), ipo_, if_pos (by rw [mark_len]; exact nlt hkk), if_pos (by rw [mark_len]; exact nlt hj), Int.toNat_natCast, Int.toNat_natCast, Int.toNat_natCast, mark_set _ hi, mark_set _ hkk, mark_set _ hj, wsu_]
    exact h3
   ·
    obtain ⟨k', F', h1, h2, h3⟩ := ih (j + 1) k F (by omega) (by omega) (inv_keep hF (fun t ht => by
     have hne : t ≠ (i, kk, j) := fun h => by rw [h] at ht; exact hz ht.2.2.2.2
     obtain ⟨x, y, z⟩ := t
     simp only [ne_eq, Prod.mk.injEq] at hne
     unfold Bef
     simp only []
     omega))
    refine ⟨k', F', by omega, h2, ?_⟩
    rw [if_neg hz, wsu_]
    exact h3
  ·
   refine ⟨k, F, by omega, inv_keep hF (fun t ht => ?_), ?_⟩
   ·
    have hne : ¬ (t.1 = i ∧ t.2.1 = kk) := fun ⟨h1, h2⟩ => by
     have := ht.2.2.2.1
     rw [h1, h2] at this
     exact hb this
    unfold Bef; omega
   ·
    rw [if_neg hb, wsu_]
include hX
theorem dp_l1 (hv : ∀ i kk k, i < X.length → kk < Y.length → 20 ≤ k → jigsawref11_value.f k kd (X.getD i 0) (Y.getD kk 0) = some (g (X.getD i 0) (Y.getD kk 0))) (i : Nat) (hi : i < X.length) : ∀ (m kk k : Nat) (F : List (Nat × Nat × Nat)), Y.length = kk + m → 30 * m + 40 < k → Inv g X Y Z i kk 0 F →
  ∃ k' F', k ≤ k' + 30 * m + 1 ∧ Inv g X Y Z (i + 1) 0 0 F' ∧ jigsawref11_Pairs.l1 k kd [X, Y, Z] (mark X.length (F.map (·.1))) (mark Y.length (F.map (·.2.1))) (mark Z.length (F.map (·.2.2))) (!F.isEmpty) (i : Int) (kk : Int) =
   jigsawref11_Pairs.l0 k' kd [X, Y, Z] (mark X.length (F'.map (·.1))) (mark Y.length (F'.map (·.2.1))) (mark Z.length (F'.map (·.2.2))) (!F'.isEmpty) (((i + 1 : Nat)) : Int) := by
 intro m
 induction m with
 | zero =>
  intro kk k F e hk hF
  obtain ⟨k, rfl⟩ : ∃ k', k = k' + 1 := ⟨k - 1, by omega⟩
  refine ⟨k, F, by omega, inv_keep hF (fun t ht => ?_), ?_⟩
  ·
   have h1 := ht.2.1
   unfold Bef; omega
  ·
   rw [jigsawref11_Pairs.l1, if_pos (by simp), show rd_L7 [X, Y, Z] 1 = Y from rfl, ino_, wsu_]
 | succ m ih =>
  intro kk k F e hk hF
  have hkk : kk < Y.length := by omega
  obtain ⟨k, rfl⟩ : ∃ k', k = k' + 1 := ⟨k - 1, by omega⟩
  obtain ⟨k1, F1, h1, h2, h3⟩ := dp_l2 kd g X Y Z hY hZ i kk hi hkk Z.length 0 k F (by omega) (by omega) hF
  obtain ⟨k', F', h4, h5, h6⟩ := ih (kk + 1) k1 F1 (by omega) (by omega) h2
  refine ⟨k', F', by omega, h5, ?_⟩
  rw [jigsawref11_Pairs.l1, if_pos (by simp), show rd_L7 [X, Y, Z] 1 = Y from rfl, show rd_L7 [X, Y, Z] 0 = X from rfl, if_pos (nlt hkk), if_pos (by simp), ipo_, if_pos (nlt hi), ipo_, rd_at, rd_at, hv i kk k hi hkk (by omega), obs_]
  have h3' : jigsawref11_Pairs.l2 k kd [X, Y, Z] (mark X.length (F.map (·.1))) (mark Y.length (F.map (·.2.1))) (mark Z.length (F.map (·.2.2))) (!F.isEmpty) (i : Int) (kk : Int) (g (X.getD i 0) (Y.getD kk 0)).1 (g (X.getD i 0) (Y.getD kk 0)).2 0 = _ := h3
  rw [h3']
  exact h6
theorem dp_l0 (hv : ∀ i kk k, i < X.length → kk < Y.length → 20 ≤ k → jigsawref11_value.f k kd (X.getD i 0) (Y.getD kk 0) = some (g (X.getD i 0) (Y.getD kk 0))) (T : List (List Int)) (hT : ∀ r, r ∈ T ↔ ∃ v w, r = [v, w, (g v w).1] ∧ v ∈ X ∧ w ∈ Y ∧ (g v w).1 ∈ Z ∧ (g v w).2 = true) : ∀ (m i k : Nat) (F : List (Nat × Nat × Nat)), X.length = i + m → 400 * m + 300 < k → Inv g X Y Z i 0 0 F →
  jigsawref11_Pairs.l0 k kd [X, Y, Z] (mark X.length (F.map (·.1))) (mark Y.length (F.map (·.2.1))) (mark Z.length (F.map (·.2.2))) (!F.isEmpty) (i : Int) = some (if T = [] then ([], false) else ([X.filter fun v => decide (v ∈ col T 0), Y.filter fun v => decide (v ∈ col T 1), Z.filter fun v => decide (v ∈ col T 2)], true)) := by
 intro m
 induction m with
 | zero =>
  intro i k F e hk hF
  obtain ⟨k, rfl⟩ : ∃ k', k = k' + 1 := ⟨k - 1, by omega⟩
  have hF' : ∀ t, t ∈ F ↔ Hit g X Y Z t := fun t => by
   rw [hF t]
   exact ⟨fun h => h.2, fun h => ⟨by have := h.1; unfold Bef; omega, h⟩⟩
  have toRow : ∀ t, Hit g X Y Z t → [X.getD t.1 0, Y.getD t.2.1 0, Z.getD t.2.2 0] ∈ T := fun t ht => by
   obtain ⟨h1, h2, h3, h4, h5⟩ := ht
   rw [hT]
   exact ⟨_, _, by rw [h5], getD_mem X 0 h1, getD_mem Y 0 h2, by rw [← h5]; exact getD_mem Z 0 h3, h4⟩
  have toHit : ∀ r ∈ T, ∃ t, Hit g X Y Z t ∧ r = [X.getD t.1 0, Y.getD t.2.1 0, Z.getD t.2.2 0] := fun r hr => by
   obtain ⟨v, w, rfl, hv, hw, hz, hb⟩ := (hT r).1 hr
   obtain ⟨a, ha, rfl⟩ := mem_getD (0 : Int) hv
   obtain ⟨b, hb', rfl⟩ := mem_getD (0 : Int) hw
   obtain ⟨c, hc, hc'⟩ := mem_getD (0 : Int) hz
   exact ⟨(a, b, c), ⟨ha, hb', hc, hb, hc'⟩, by rw [hc']⟩
  have hnil : (!F.isEmpty) = true ↔ T ≠ [] := by
   rw [Bool.not_eq_true', List.isEmpty_eq_false_iff]
   constructor
   ·
    intro h h'
    obtain ⟨t, ht⟩ := List.exists_mem_of_ne_nil F h
    have := toRow t ((hF' t).1 ht)
    rw [h'] at this; cases this
   ·
    intro h h'
    obtain ⟨r, hr⟩ := List.exists_mem_of_ne_nil T h
    obtain ⟨t, ht, _⟩ := toHit r hr
    have := (hF' t).2 ht
    rw [h'] at this; cases this
  rw [jigsawref11_Pairs.l0, if_pos (by simp), show rd_L7 [X, Y, Z] 0 = X from rfl, ino_]
  by_cases h0 : T = []
  ·
   rw [if_neg (fun h => hnil.1 h h0), if_pos h0]
  ·
   rw [if_pos (hnil.2 h0), if_neg h0]
   have p0 : ∀ i, i < X.length → (decide (i ∈ F.map (·.1)) = decide (X.getD i 0 ∈ col T 0)) := fun i hi => by
    rw [decide_eq_decide, List.mem_map, mem_col]
    constructor
    ·
     rintro ⟨t, ht, rfl⟩
     exact ⟨_, toRow t ((hF' t).1 ht), rfl⟩
    ·
     rintro ⟨r, hr, h⟩
     obtain ⟨t, ht, rfl⟩ := toHit r hr
     have h' : X.getD t.1 0 = X.getD i 0 := h
     obtain ⟨h1, h2, h3, h4, h5⟩ := ht
     rw [h'] at h4 h5
     exact ⟨(i, t.2.1, t.2.2), (hF' _).2 ⟨hi, h2, h3, h4, h5⟩, rfl⟩
   have p1 : ∀ i, i < Y.length → (decide (i ∈ F.map (·.2.1)) = decide (Y.getD i 0 ∈ col T 1)) := fun i hi => by
    rw [decide_eq_decide, List.mem_map, mem_col]
    constructor
    ·
     rintro ⟨t, ht, rfl⟩
     exact ⟨_, toRow t ((hF' t).1 ht), rfl⟩
    ·
     rintro ⟨r, hr, h⟩
     obtain ⟨t, ht, rfl⟩ := toHit r hr
     have h' : Y.getD t.2.1 0 = Y.getD i 0 := h
     obtain ⟨h1, h2, h3, h4, h5⟩ := ht
     rw [h'] at h4 h5
     exact ⟨(t.1, i, t.2.2), (hF' _).2 ⟨h1, hi, h3, h4, h5⟩, rfl⟩
   have p2 : ∀ i, i < Z.length → (decide (i ∈ F.map (·.2.2)) = decide (Z.getD i 0 ∈ col T 2)) := fun i hi => by
    rw [decide_eq_decide, List.mem_map, mem_col]
    constructor
    ·
     rintro ⟨t, ht, rfl⟩
     exact ⟨_, toRow t ((hF' t).1 ht), rfl⟩
    ·
     rintro ⟨r, hr, h⟩
     obtain ⟨t, ht, rfl⟩ := toHit r hr
     have h' : Z.getD t.2.2 0 = Z.getD i 0 := h
     obtain ⟨h1, h2, h3, h4, h5⟩ := ht
     rw [h'] at h5
     exact ⟨(t.1, t.2.1, i), (hF' _).2 ⟨h1, h2, hi, h4, h5⟩, rfl⟩
   rw [those_f X _ (fun v => decide (v ∈ col T 0)) (by omega) p0 (by omega), obs_, if_pos (by simp), show rd_L7 [X, Y, Z] 1 = Y from rfl, those_f Y _ (fun v => decide (v ∈ col T 1)) (by omega) p1 (by omega), obs_, if_pos (by simp), show rd_L7 [X, Y, Z] 2 = Z from rfl, those_f Z _ (fun v => decide (v ∈ col T 2)) (by omega) p2 (by omega), obs_]
 | succ m ih =>
  intro i k F e hk hF
  have hi : i < X.length := by omega
  obtain ⟨k, rfl⟩ : ∃ k', k = k' + 1 := ⟨k - 1, by omega⟩
  obtain ⟨k1, F1, h1, h2, h3⟩ := dp_l1 kd g X Y Z hX hY hZ hv i hi Y.length 0 k F (by omega) (by omega) hF
  have h3' : jigsawref11_Pairs.l1 k kd [X, Y, Z] (mark X.length (F.map (·.1))) (mark Y.length (F.map (·.2.1))) (mark Z.length (F.map (·.2.2))) (!F.isEmpty) (i : Int) 0 = _ := h3
  rw [jigsawref11_Pairs.l0, if_pos (by simp), show rd_L7 [X, Y, Z] 0 = X from rfl, if_pos (nlt hi), h3']
  exact ih (i + 1) k1 F1 (by omega) (by omega) h2
end
theorem dp_f (kd : Int) (g : Int → Int → Int × Bool) (a b c : Fin 2048) (hv : ∀ i kk k, i < (LL a).length → kk < (LL b).length → 20 ≤ k → jigsawref11_value.f k kd ((LL a).getD i 0) ((LL b).getD kk 0) = some (g ((LL a).getD i 0) ((LL b).getD kk 0))) (T : List (List Int)) (hT : ∀ r, r ∈ T ↔ ∃ v w, r = [v, w, (g v w).1] ∧ v ∈ LL a ∧ w ∈ LL b ∧ (g v w).1 ∈ LL c ∧ (g v w).2 = true) {k : Nat} (hk : 6000 ≤ k) :
  jigsawref11_Pairs.f k kd [LL a, LL b, LL c] = some (madeL 3 T) := by
 have ha := (len_all a).1
 have hb := (len_all b).1
 have hc := (len_all c).1
 have h := dp_l0 kd g (LL a) (LL b) (LL c) ha hb hc hv T hT (LL a).length 0 k [] (by omega) (by omega) (fun t => ⟨fun h => absurd h List.not_mem_nil, fun ⟨h, _⟩ => by unfold Bef at h; omega⟩)
 have hn : ∀ i, i < 3 → Near (col T i) := fun i hi v hv' => by
  obtain ⟨r, hr, rfl⟩ := mem_col.1 hv'
  obtain ⟨x, y, rfl, hx, hy, hz, _⟩ := (hT r).1 hr
  match i, hi with
  | 0, _ => exact near_LL a _ hx
  | 1, _ => exact near_LL b _ hy
  | 2, _ => exact near_LL c _ hz
 have hs : (∀ v ∈ col T 0, v ∈ LL a) ∧ (∀ v ∈ col T 1, v ∈ LL b) ∧ (∀ v ∈ col T 2, v ∈ LL c) := by
  refine ⟨fun v hv' => ?_, fun v hv' => ?_, fun v hv' => ?_⟩ <;> (obtain ⟨r, hr, rfl⟩ := mem_col.1 hv'; obtain ⟨x, y, rfl, hx, hy, hz, _⟩ := (hT r).1 hr)
  ·
   exact hx
  ·
   exact hy
  ·
   exact hz
 unfold jigsawref11_Pairs.f
 rw [if_pos (by simp), show rd_L7 [LL a, LL b, LL c] 0 = LL a from rfl, ipo_, ipo_, if_pos (by simp), show rd_L7 [LL a, LL b, LL c] 1 = LL b from rfl, ipo_, ipo_, if_pos (by simp), show rd_L7 [LL a, LL b, LL c] 2 = LL c from rfl, ipo_, ipo_, Int.toNat_natCast, Int.toNat_natCast, Int.toNat_natCast, mark_nil, mark_nil, mark_nil]
 have h' : jigsawref11_Pairs.l0 k kd [LL a, LL b, LL c] (mark (LL a).length []) (mark (LL b).length []) (mark (LL c).length []) false 0 = _ := h
 rw [h']
 unfold madeL
 by_cases h0 : T = []
 ·
  rw [if_pos h0, if_pos h0]
 ·
  rw [if_neg h0, if_neg h0, col_filter (hn 0 (by decide)) a hs.1, col_filter (hn 1 (by decide)) b hs.2.1, col_filter (hn 2 (by decide)) c hs.2.2]
  rfl
theorem in_l0 (l : List Int) (lo hi : Int) (hl : l.length ≤ 100) (hb : ∀ x ∈ l, lo ≤ x ∧ x ≤ hi) : ∀ (m j k : Nat), l.length = j + m → m < k → jigsawref06_in.l0 k l lo hi (j : Int) = some true
 | 0, j, k + 1, e, _ => by rw [jigsawref06_in.l0, ino_]
 | m + 1, j, k + 1, e, hk => by
  have hj : j < l.length := by omega
  have hv := hb (l.getD j 0) (by rw [getD_lt _ _ hj]; exact List.getElem_mem _)
  rw [jigsawref06_in.l0, if_pos (nlt hj), ipo_, rd_at, ino_, ino_, wsu_]
  exact in_l0 l lo hi hl hb m (j + 1) k (by omega) (by omega)
theorem in_f (l : List Int) (lo hi : Int) (hl : l.length ≤ 100) (hb : ∀ x ∈ l, lo ≤ x ∧ x ≤ hi) {k : Nat} (hk : 200 ≤ k) : jigsawref06_in.f k l lo hi = some true :=
 in_l0 l lo hi hl hb l.length 0 k (by omega) (by omega)
theorem rcoefs_f (kd : Int) (p : List Int) (h : kd ≠ 19 ∧ kd ≠ 21) {k : Nat} (hk : 300 ≤ k) : jigsawref06_Coefs.f k kd p [] [] [] [] 0 [] = some true := by
 obtain ⟨k, rfl⟩ : ∃ k', k = k' + 2 := ⟨k - 2, by omega⟩
 have h0 := in_f [] (-1000000) 1000000 (by simp) (fun x hx => by simp at hx) (k := k + 2) (by omega)
 unfold jigsawref06_Coefs.f
 rw [if_neg h.1, if_neg h.2, h0, obs_, obs_, obs_, if_pos rfl, if_pos rfl, if_pos rfl, ind_, ind_, jigsawref06_Coefs.l0, ind_, jigsawref06_Coefs.l1, if_neg h.2]
theorem rarity_f (kd : Int) (n : Nat) (hd : Kind kd n) (p : List Int) (hp : p.length = n) {k : Nat} (hk : 10 ≤ k) : jigsawref06_Arity.f k kd p [] [] [] [] 0 [] (shape n) = some true := by
 have key : jigsawref06_has.f 6 (shape n) 118 = some (n : Int) → jigsawref06_has.f 6 (shape n) 86 = some 0 → jigsawref06_has.f 6 (shape n) 119 = some 0 → jigsawref06_has.f 6 (shape n) 87 = some 0 → jigsawref06_has.f 6 (shape n) 99 = some 0 → jigsawref06_has.f 6 (shape n) 100 = some 0 → jigsawref06_has.f 6 (shape n) 101 = some 0 → jigsawref06_has.f 6 (shape n) 114 = some 0 → jigsawref06_Arity.f k kd p [] [] [] [] 0 [] (shape n) = some true := by
  intro e1 e2 e3 e4 e5 e6 e7 e8
  have hkd : kd ≠ 12 ∧ ¬ kd ≤ 4 ∧ kd ≠ 19 ∧ kd ≠ 21 ∧ ¬ kd ≥ 22 := by unfold Kind at hd; omega
  obtain ⟨k, rfl⟩ : ∃ k', k = k' + 1 := ⟨k - 1, by omega⟩
  unfold jigsawref06_Arity.f jigsawref06_list.f
  rw [if_pos rfl, if_neg hkd.1, has_f e1 (by omega), obs_, has_f e2 (by omega), obs_, ind_, obs_, has_f e3 (by omega), obs_, has_f e4 (by omega), obs_, ind_, obs_, has_f e5 (by omega), obs_, ind_, obs_, has_f e6 (by omega), obs_, ind_, obs_, has_f e7 (by omega), obs_, ind_, obs_]
  rw [if_pos (by rw [hp]; exact beq_iff_eq.2 rfl), if_pos (by decide), if_pos (by decide), if_pos (by decide), if_pos (by decide), has_f e8 (by omega), obs_, if_pos rfl, ind_, obs_, ind_, if_neg hkd.2.1, if_neg hkd.2.2.1, if_neg hkd.2.2.2.1, if_neg hkd.2.2.2.2, jigsawref06_Arity.l0, ind_]
 rcases hd with ⟨rfl, rfl⟩ | ⟨rfl, rfl⟩ | ⟨rfl, rfl⟩ <;>
 exact key (by decide +kernel) (by decide +kernel) (by decide +kernel) (by decide +kernel) (by decide +kernel) (by decide +kernel) (by decide +kernel) (by decide +kernel)
theorem rright_f (kd : Int) (n : Nat) (hd : Kind kd n) (p : List Int) (hp : Places n p) {k : Nat} (hk : 400 ≤ k) : jigsawref06_Right.f k kd p [] [] [] [] 0 [] 256 = some 0 := by
 have hs : jigsawref06_Shapes.f = some ((jigsawref06_Shapes.f).getD []) := by rfl
 have hlen : ((jigsawref06_Shapes.f).getD []).length = 24 := by decide +kernel
 have hv : rdOf ByteArray.empty ((jigsawref06_Shapes.f).getD []) kd = shape n := by rcases hd with ⟨rfl, rfl⟩ | ⟨rfl, rfl⟩ | ⟨rfl, rfl⟩ <;> rfl
 have hkd : ¬ kd < 1 ∧ ¬ kd > 23 ∧ kd ≠ 19 ∧ kd ≠ 21 ∧ 0 ≤ kd ∧ kd < 24 ∧ n ≤ 4 := by unfold Kind at hd; omega
 have e : wrap64 (256 - 1) = 255 := by decide +kernel
 have hip := in_f p 0 255 (by rw [hp.1]; omega) (fun x hx => by have := hp.2 x hx; omega) (k := k) (by omega)
 have hiq := in_f [] 0 255 (by simp) (fun x hx => by simp at hx) (k := k) (by omega)
 unfold jigsawref06_Right.f
 rw [if_neg hkd.1, if_neg hkd.2.1, hs, obs_, hlen, if_pos hkd.2.2.2.2.1, ipo_, hv, rarity_f kd n hd p hp.1 (by omega), obs_, if_pos rfl, if_pos (by decide), e, hip, obs_, hiq, obs_, if_pos rfl, if_pos rfl, rcoefs_f kd p ⟨hkd.2.2.1, hkd.2.2.2.1⟩ (by omega), obs_, if_pos rfl]
theorem rfits_l0 (ls : List (List Int)) (hls : Lists ls) : ∀ (m j k : Nat), ls.length = j + m → m < k → jigsawref10_Fits.l0 k ls (j : Int) = some true
 | 0, j, k + 1, e, _ => by rw [jigsawref10_Fits.l0, ino_]
 | m + 1, j, k + 1, e, hk => by
  have hj : j < ls.length := by omega
  have h8 := hls.1
  have hlen := hls.at hj
  rw [jigsawref10_Fits.l0, if_pos (nlt hj), ipo_, rdL_at, ino_, wsu_]
  exact rfits_l0 ls hls m (j + 1) k (by omega) (by omega)
theorem rfits_f (kd : Int) (n : Nat) (hd : Kind kd n) (p : List Int) (hp : Places n p) (ls : List (List Int)) (hls : Lists ls) (hl : ls.length = n) {k : Nat} (hk : 500 ≤ k) : jigsawref10_Fits.f k kd p [] [] [] [] 0 [] ls 5 7 = some true := by
 have hkd : ¬ kd < 5 ∧ ¬ kd > 7 ∧ n ≤ 4 := by unfold Kind at hd; omega
 have hw : wrap64 ((n : Int) + (([] : List Int).length : Int)) = (n : Int) := by rw [wrap_id (by simp <;> omega) (by simp <;> omega)]; simp
 unfold jigsawref10_Fits.f
 rw [if_neg hkd.1, if_neg hkd.2.1, hp.1, hw, ipo_, rright_f kd n hd p hp (by omega), obs_, if_pos rfl]
 exact rfits_l0 ls hls ls.length 0 k (by omega) (by have := hls.1; omega)
theorem val5 : ∀ i : Fin 11, ∀ j : Fin 11, jigsawref11_value.f 8 5 ((i.val : Int) - 5) ((j.val : Int) - 5) = some (gmul ((i.val : Int) - 5) ((j.val : Int) - 5)) := by decide +kernel
theorem val6 : ∀ i : Fin 11, ∀ j : Fin 11, jigsawref11_value.f 8 6 ((i.val : Int) - 5) ((j.val : Int) - 5) = some (quo ((i.val : Int) - 5) ((j.val : Int) - 5)) := by decide +kernel
theorem val7 : ∀ i : Fin 11, ∀ j : Fin 11, jigsawref11_value.f 8 7 ((i.val : Int) - 5) ((j.val : Int) - 5) = some (rmd ((i.val : Int) - 5) ((j.val : Int) - 5)) := by decide +kernel
theorem val_f (kd : Int) (g : Int → Int → Int × Bool) (h : (kd = 5 ∧ g = gmul) ∨ (kd = 6 ∧ g = quo) ∨ (kd = 7 ∧ g = rmd)) {x y : Int} (hx : Small x) (hy : Small y) {k : Nat} (hk : 8 ≤ k) : jigsawref11_value.f k kd x y = some (g x y) := by
 refine up (f := fun k => jigsawref11_value.f k kd x y) (jigsawref11_value.mono _ _ _) (k := 8) ?_ hk
 show jigsawref11_value.f 8 kd x y = some (g x y)
 rcases h with ⟨rfl, rfl⟩ | ⟨rfl, rfl⟩ | ⟨rfl, rfl⟩
 ·
  exact by_two (P := fun x y => jigsawref11_value.f 8 5 x y = some (gmul x y)) val5 hx hy
 ·
  exact by_two (P := fun x y => jigsawref11_value.f 8 6 x y = some (quo x y)) val6 hx hy
 ·
  exact by_two (P := fun x y => jigsawref11_value.f 8 7 x y = some (rmd x y)) val7 hx hy
theorem doc_f (kd : Int) (n : Nat) (hd : Kind kd n) (p : List Int) (hp : Places n p) (ms : List (Fin 2048)) (hl : ms.length = n) (hs : ∀ c ∈ ms, c.val ≠ 0) (T : List (List Int)) (hT : ∀ r, r ∈ T ↔ Good kd (ms.map LL) r) {k : Nat} (hk : 6000 ≤ k) :
  jigsawref11_Filter.f k kd p [] [] [] [] 0 [] (ms.map LL) = some (madeL n T) := by
 have hn : n ≤ 4 := by unfold Kind at hd; omega
 have hls : Lists (ms.map LL) := ⟨by simp; omega, fun l h => by obtain ⟨m, hm', rfl⟩ := List.mem_map.1 h; exact ⟨Nat.pos_of_ne_zero (ne_all m (hs m hm')), (len_all m).1⟩⟩
 have hf := rfits_f kd n hd p hp (ms.map LL) hls (by simp [hl]) (k := k) (by omega)
 unfold jigsawref11_Filter.f
 rw [hf, obs_, if_pos rfl]
 have few : ∀ a b : Fin 2048, wrap64 (((LL a).length : Int) * ((LL b).length : Int)) ≤ 4096 := fun a b => by
  have h : (LL a).length * (LL b).length ≤ 11 * 11 := Nat.mul_le_mul (len_all a).1 (len_all b).1
  rw [← Int.natCast_mul, wrap_id (by omega) (by omega)]
  omega
 rcases hd with ⟨rfl, rfl⟩ | ⟨rfl, rfl⟩ | ⟨rfl, rfl⟩
 ·
  obtain ⟨a, b, c, rfl⟩ := threeM hl
  rw [if_pos (by simp), if_pos (by simp)]
  show (if wrap64 (((LL a).length : Int) * ((LL b).length : Int)) ≤ 4096 then (jigsawref11_Pairs.f k 5 [LL a, LL b, LL c]).bind _ else none) = _
  rw [if_pos (few a b), dp_f 5 gmul a b c (fun i kk k hi hkk hk => val_f 5 gmul (Or.inl ⟨rfl, rfl⟩) (near_LL a _ (getD_mem _ 0 hi)) (near_LL b _ (getD_mem _ 0 hkk)) (by omega)) T (fun r => (hT r).trans (rows_good (kd := 5) (g := gmul) (X := LL a) (Y := LL b) (Z := LL c) (fun x y => rfl)).symm) (by omega), obs_]
 ·
  obtain ⟨a, b, c, rfl⟩ := threeM hl
  rw [if_pos (by simp), if_pos (by simp)]
  show (if wrap64 (((LL a).length : Int) * ((LL b).length : Int)) ≤ 4096 then (jigsawref11_Pairs.f k 6 [LL a, LL b, LL c]).bind _ else none) = _
  rw [if_pos (few a b), dp_f 6 quo a b c (fun i kk k hi hkk hk => val_f 6 quo (Or.inr (Or.inl ⟨rfl, rfl⟩)) (near_LL a _ (getD_mem _ 0 hi)) (near_LL b _ (getD_mem _ 0 hkk)) (by omega)) T (fun r => (hT r).trans (rows_good (kd := 6) (g := quo) (X := LL a) (Y := LL b) (Z := LL c) (fun x y => rfl)).symm) (by omega), obs_]
 ·
  obtain ⟨a, b, c, rfl⟩ := threeM hl
  rw [if_pos (by simp), if_pos (by simp)]
  show (if wrap64 (((LL a).length : Int) * ((LL b).length : Int)) ≤ 4096 then (jigsawref11_Pairs.f k 7 [LL a, LL b, LL c]).bind _ else none) = _
  rw [if_pos (few a b), dp_f 7 rmd a b c (fun i kk k hi hkk hk => val_f 7 rmd (Or.inr (Or.inr ⟨rfl, rfl⟩)) (near_LL a _ (getD_mem _ 0 hi)) (near_LL b _ (getD_mem _ 0 hkk)) (by omega)) T (fun r => (hT r).trans (rows_good (kd := 7) (g := rmd) (X := LL a) (Y := LL b) (Z := LL c) (fun x y => rfl)).symm) (by omega), obs_]
theorem wakes_true {k : Nat} (hk : 100 ≤ k) : jigsawlaw11_wakes.f k = some true :=
 up (f := fun k => jigsawlaw11_wakes.f k) jigsawlaw11_wakes.mono (by decide +kernel) hk
theorem kind_f (a1 : Int) (h : 0 ≤ a1 ∧ a1 ≤ 255) : ∃ kd n, Kind kd n ∧ jigsawlaw11_kind.f a1 = some kd := by
 have e1 : Int.tmod a1 3 = a1 % 3 := Int.tmod_eq_emod_of_nonneg (by omega)
 have e2 : wrap64 (Int.tmod a1 3) = a1 % 3 := by rw [e1]; exact wrap_id (by omega) (by omega)
 have e3 : wrap64 (5 + a1 % 3) = 5 + a1 % 3 := wrap_id (by omega) (by omega)
 refine ⟨5 + a1 % 3, 3, ?_, by unfold jigsawlaw11_kind.f; rw [e2, e3]⟩
 unfold Kind
 omega
theorem mulFilters (a0 : Int) (l1 l3 l4 : List Int) (a4 a5 : Int) (l6 : List (List Int)) (a1 : Int) (_ : (Lit.int .u8 a0).wf = true) (hw1 : ∀ x ∈ l1, (Lit.int .u8 x).wf = true) (hw3 : ∀ x ∈ l3, (Lit.int .u8 x).wf = true) (_ : ∀ x ∈ l4, (Lit.int .i8 x).wf = true) (_ : (Lit.int .i16 a4).wf = true) (_ : (Lit.int .u8 a5).wf = true) (hwa : (Lit.int .u8 a1).wf = true) :
  ∃ k, jigsawlaw11_MulFilters.f k a0 l1 l3 l4 a4 a5 l6 a1 = some true := by
 refine ⟨100000, ?_⟩
 obtain ⟨kd, n, hd, hk⟩ := kind_f a1 (wf_u8 hwa)
 have hn : 1 ≤ n ∧ n ≤ 4 := by unfold Kind at hd; omega
 obtain ⟨p, ms, hp, hl, hs, hm⟩ := case_f kd n hd a0 a4 a5 l1 l3 l4 l6 (fun x hx => wf_u8 (hw1 x hx)) (k := 100000) (by decide)
 obtain ⟨T, hT, e2⟩ := filter_f kd n hd p hp ms hl hs (k := 100000) (by decide)
 have e3 := doc_f kd n hd p hp ms hl hs T hT (k := 100000) (by decide)
 have hb : (made n T).2 = (madeL n T).2 := by unfold made madeL; split <;> rfl
 have hlen : ∀ i, i < (madeL n T).1.length → ((madeL n T).1.getD i []).length ≤ 11 := fun i hi => by
  have hm' := getD_mem (madeL n T).1 [] hi
  unfold madeL at hm'
  split at hm'
  ·
   cases hm'
  ·
   obtain ⟨j, _, h⟩ := List.mem_map.1 hm'
   unfold madeL
   rw [if_neg (by assumption), ← h]; exact (len_all _).1
 have hlen2 : (madeL n T).1.length ≤ 4 := by unfold madeL; split <;> simp <;> omega
 have hL : Listed (made n T).1 (madeL n T).1 := by
  unfold made madeL
  by_cases h0 : T = []
  ·
   rw [if_pos h0, if_pos h0]
   exact ⟨rfl, fun i hi => absurd hi (Nat.not_lt_zero _)⟩
  ·
   rw [if_neg h0, if_neg h0]
   refine ⟨by simp, fun i hi k hk => ?_⟩
   have hi' : i < n := by simpa using hi
   have e4 : ((List.range n).map fun i => D (mk (col T i))).getD i z61 = D (mk (col T i)) := by
    rw [getD_map (fun i => D (mk (col T i))) (List.range n) 0 z61 (by simpa using hi'), getD_lt _ _ (by simpa using hi')]; simp
   have e5 : ((List.range n).map fun i => LL (mk (col T i))).getD i [] = LL (mk (col T i)) := by
    rw [getD_map (fun i => LL (mk (col T i))) (List.range n) 0 [] (by simpa using hi'), getD_lt _ _ (by simpa using hi')]; simp
   show dom_Dom_List.f k (((List.range n).map fun i => D (mk (col T i))).getD i z61).f0 (((List.range n).map fun i => D (mk (col T i))).getD i z61).f1 (((List.range n).map fun i => D (mk (col T i))).getD i z61).f2 (((List.range n).map fun i => D (mk (col T i))).getD i z61).f3 (((List.range n).map fun i => D (mk (col T i))).getD i z61).f4 = some (((List.range n).map fun i => LL (mk (col T i))).getD i [])
   rw [e4, e5]
   exact list_one _ hk
 unfold jigsawlaw11_MulFilters.f
 rw [hk, obs_, hm, obs_]
 show (jigsawlaw11_doms.f 100000 (ms.map LL)).bind _ = _
 rw [doms_f ms hs (by omega) (by decide), obs_]
 show (mul_Filter.f 100000 kd p [] [] [] [] 0 [] (ms.map D)).bind _ = _
 rw [e2, obs_]
 show (jigsawref11_Filter.f 100000 kd p [] [] [] [] 0 [] (ms.map LL)).bind _ = _
 rw [e3, obs_, wakes_true (by decide), obs_, if_pos rfl, hb, if_pos (by simp), lists_f _ _ hL (by rw [hL.1]; omega) (by decide), obs_, same_f _ (by omega) hlen (by decide), obs_]
end Go.Proofs.YtbhhbgoamomacaaGreatDoor.Pure
