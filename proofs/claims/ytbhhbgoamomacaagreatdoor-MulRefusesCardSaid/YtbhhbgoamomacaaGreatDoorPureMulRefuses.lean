/- The plain law of MulRefuses: what the walk computes answers true, for every input. -/
import Derived.Test.YtbhhbgoamomacaaGreatDoorXMRex24
import Derived.Test.YtbhhbgoamomacaaGreatDoorKMa
import Derived.Test.YtbhhbgoamomacaaGreatDoorKMb
import Derived.Test.YtbhhbgoamomacaaGreatDoorKMc
import Derived.Test.YtbhhbgoamomacaaGreatDoorKMd
namespace Go.Proofs.YtbhhbgoamomacaaGreatDoor.Pure
open Go.RowKit Go.Proofs.YtbhhbgoamomacaaGreatDoor.XMulRefuses Go.Proofs.YtbhhbgoamomacaaGreatDoorW.PrintWords Go.Proofs.YtbhhbgoamomacaaGreatDoorW.PrintLast Go.Proofs.YtbhhbgoamomacaaGreatDoorW.PrintMore
set_option linter.unusedVariables false
theorem ind_ {c : Prop} [Decidable c] {α : Type} {a b : α} (h : ¬ c := by decide) : (if c then a else b) = b := if_neg h
theorem obs_ {α β : Type} (a : α) (f : α → Option β) : (some a).bind f = f a := rfl
theorem ino_ {c : Prop} [Decidable c] {α : Type} {a b : α} (h : ¬ c := by omega) : (if c then a else b) = b := if_neg h
theorem ipo_ {c : Prop} [Decidable c] {α : Type} {a b : α} (h : c := by omega) : (if c then a else b) = a := if_pos h
theorem wsu_ {j : Nat} (h : j ≤ 100000 := by omega) : wrap64 ((j : Int) + 1) = ((j + 1 : Nat) : Int) := wrap_succ h
def Near (x : List Int) : Prop := ∀ v ∈ x, -5 ≤ v ∧ v ≤ 5
theorem mem_vals {v : Int} : v ∈ vals ↔ -5 ≤ v ∧ v ≤ 5 := by
 unfold vals
 simp only [List.mem_cons, List.not_mem_nil, or_false]
 omega
theorem mem_L {m : Nat} {v : Int} : v ∈ L m ↔ (-5 ≤ v ∧ v ≤ 5) ∧ m.testBit (v + 5).toNat = true := by
 unfold L; rw [List.mem_filter, mem_vals]
def msk : List Int → Nat
 | [] => 0
 | v :: l => msk l ||| 1 <<< (v + 5).toNat
theorem msk_append (a b : List Int) : msk (a ++ b) = msk a ||| msk b := by
 induction a with
 | nil => simp [msk]
 | cons v a ih => rw [List.cons_append, msk, ih, msk, Nat.or_assoc, Nat.or_assoc, Nat.or_comm (msk b)]
theorem msk_bit (l : List Int) (i : Nat) : (msk l).testBit i = true ↔ ∃ v, v ∈ l ∧ (v + 5).toNat = i := by
 induction l with
 | nil => simp [msk]
 | cons v l ih =>
  rw [msk, Nat.testBit_or, Bool.or_eq_true, ih, Nat.one_shiftLeft, Nat.testBit_two_pow, decide_eq_true_iff]
  constructor
  ·
   rintro (⟨u, h1, h2⟩ | h)
   ·
    exact ⟨u, List.mem_cons_of_mem _ h1, h2⟩
   ·
    exact ⟨v, List.mem_cons_self, h⟩
  ·
   rintro ⟨u, h1, h2⟩
   rcases List.mem_cons.1 h1 with rfl | h1
   ·
    exact Or.inr h2
   ·
    exact Or.inl ⟨u, h1, h2⟩
theorem msk_lt {l : List Int} (h : Near l) : msk l < 2048 := by
 induction l with
 | nil => decide
 | cons v l ih =>
  have hv := h v List.mem_cons_self
  refine Nat.or_lt_two_pow (n := 11) (ih fun u hu => h u (List.mem_cons_of_mem _ hu)) ?_
  rw [Nat.one_shiftLeft]
  exact Nat.pow_lt_pow_right (by decide) (by omega)
theorem mem_msk {l : List Int} (h : Near l) {v : Int} : v ∈ L (msk l) ↔ v ∈ l := by
 rw [mem_L, msk_bit]
 constructor
 ·
  rintro ⟨hv, u, hu, e⟩
  have := h u hu
  have : u = v := by omega
  rwa [← this]
 ·
  exact fun hv => ⟨h v hv, v, hv, rfl⟩
def mk (l : List Int) : Fin 2048 := ⟨msk l % 2048, Nat.mod_lt _ (by decide)⟩
theorem mk_val {l : List Int} (h : Near l) : (mk l).val = msk l := Nat.mod_eq_of_lt (msk_lt h)
theorem mem_mk {l : List Int} (h : Near l) {v : Int} : v ∈ LL (mk l) ↔ v ∈ l := by
 unfold LL; rw [mk_val h]; exact mem_msk h
theorem mk_ne {l : List Int} (h : Near l) (h0 : l ≠ []) : (mk l).val ≠ 0 := by
 intro h1
 obtain ⟨v, hv⟩ := List.exists_mem_of_ne_nil l h0
 have h2 := (mem_mk h).2 hv
 have : LL (mk l) = [] := by unfold LL; rw [h1]; decide +kernel
 rw [this] at h2; cases h2
theorem mask_ext {m m' : Fin 2048} (h : ∀ v, v ∈ LL m ↔ v ∈ LL m') : m = m' := by
 apply Fin.ext
 apply Nat.eq_of_testBit_eq
 intro i
 by_cases hi : i < 11
 ·
  have h1 := h ((i : Int) - 5)
  unfold LL at h1
  rw [mem_L, mem_L, show ((i : Int) - 5 + 5).toNat = i by omega] at h1
  have hr : -5 ≤ (i : Int) - 5 ∧ (i : Int) - 5 ≤ 5 := by omega
  rw [Bool.eq_iff_iff]
  exact ⟨fun h2 => (h1.1 ⟨hr, h2⟩).2, fun h2 => (h1.2 ⟨hr, h2⟩).2⟩
 ·
  have h2 : 2 ^ 11 ≤ 2 ^ i := Nat.pow_le_pow_right (by decide) (by omega)
  rw [Nat.testBit_lt_two_pow (Nat.lt_of_lt_of_le m.isLt h2), Nat.testBit_lt_two_pow (Nat.lt_of_lt_of_le m'.isLt h2)]
theorem near_LL (m : Fin 2048) : Near (LL m) := (len_all m).2
theorem mk_LL (m : Fin 2048) : mk (LL m) = m := mask_ext fun _ => mem_mk (near_LL m)
theorem fold_mn : ∀ (l : List Int) (z : Int), (l.foldl mn z ≤ z) ∧ (∀ v ∈ l, l.foldl mn z ≤ v) ∧ (l.foldl mn z = z ∨ l.foldl mn z ∈ l)
 | [], z => ⟨Int.le_refl _, fun v hv => absurd hv List.not_mem_nil, Or.inl rfl⟩
 | a :: l, z => by
  obtain ⟨h1, h2, h3⟩ := fold_mn l (mn z a)
  have hz : mn z a ≤ z ∧ mn z a ≤ a ∧ (mn z a = z ∨ mn z a = a) := by unfold mn; split <;> omega
  rw [List.foldl_cons]
  refine ⟨by omega, fun v hv => ?_, ?_⟩
  ·
   rcases List.mem_cons.1 hv with rfl | hv
   ·
    omega
   ·
    exact h2 v hv
  ·
   rcases h3 with h3 | h3
   ·
    rw [h3]
    rcases hz.2.2 with h | h
    ·
     exact Or.inl h
    ·
     exact Or.inr (by rw [h]; exact List.mem_cons_self)
   ·
    exact Or.inr (List.mem_cons_of_mem _ h3)
theorem fold_mx : ∀ (l : List Int) (z : Int), (z ≤ l.foldl mx z) ∧ (∀ v ∈ l, v ≤ l.foldl mx z) ∧ (l.foldl mx z = z ∨ l.foldl mx z ∈ l)
 | [], z => ⟨Int.le_refl _, fun v hv => absurd hv List.not_mem_nil, Or.inl rfl⟩
 | a :: l, z => by
  obtain ⟨h1, h2, h3⟩ := fold_mx l (mx z a)
  have hz : z ≤ mx z a ∧ a ≤ mx z a ∧ (mx z a = z ∨ mx z a = a) := by unfold mx; split <;> omega
  rw [List.foldl_cons]
  refine ⟨by omega, fun v hv => ?_, ?_⟩
  ·
   rcases List.mem_cons.1 hv with rfl | hv
   ·
    omega
   ·
    exact h2 v hv
  ·
   rcases h3 with h3 | h3
   ·
    rw [h3]
    rcases hz.2.2 with h | h
    ·
     exact Or.inl h
    ·
     exact Or.inr (by rw [h]; exact List.mem_cons_self)
   ·
    exact Or.inr (List.mem_cons_of_mem _ h3)
theorem rd_at (l : List Int) (j : Nat) : rd l (j : Int) = l.getD j 0 := rfl
theorem rdL_at (l : List (List Int)) (j : Nat) : rd_L7 l (j : Int) = l.getD j [] := rfl
theorem rdD_at (l : List S61) (j : Nat) : rd_T61 l (j : Int) = l.getD j z61 := rfl
theorem getD_lt {α : Type} (l : List α) (z : α) {j : Nat} (h : j < l.length) : l.getD j z = l[j] := by
 rw [List.getD_eq_getElem?_getD, List.getElem?_eq_getElem h]; rfl
theorem getD_mem {α : Type} (l : List α) (z : α) {j : Nat} (h : j < l.length) : l.getD j z ∈ l := by
 rw [getD_lt _ _ h]; exact List.getElem_mem _
theorem getD_map {α β : Type} (f : α → β) (l : List α) (z : α) (y : β) {j : Nat} (h : j < l.length) : (l.map f).getD j y = f (l.getD j z) := by
 rw [getD_lt _ _ (by simpa using h), getD_lt _ _ h]; simp
theorem take_step {α : Type} (l : List α) (z : α) {j : Nat} (h : j < l.length) : l.take j ++ [l.getD j z] = l.take (j + 1) := by
 rw [getD_lt _ _ h]; simp
theorem nlt {a b : Nat} (h : a < b) : (a : Int) < (b : Int) := by omega
theorem nge {a b : Nat} (h : ¬ a < b) : ¬ (a : Int) < (b : Int) := by omega
theorem has_one (m : Fin 2048) {v : Int} (hv : -5 ≤ v ∧ v ≤ 5) : dom_Dom_Has.f (D m).f0 (D m).f1 (D m).f2 (D m).f3 (D m).f4 v = some (decide (v ∈ LL m)) := by
 have h := has_all m ⟨(v + 5).toNat, by omega⟩
 simp only [] at h
 rwa [show (((v + 5).toNat : Nat) : Int) - 5 = v by omega] at h
theorem list_one (m : Fin 2048) {k : Nat} (hk : 40 ≤ k) : dom_Dom_List.f k (D m).f0 (D m).f1 (D m).f2 (D m).f3 (D m).f4 = some (LL m) :=
 up (f := fun k => dom_Dom_List.f k _ _ _ _ _) (dom_Dom_List.mono _ _ _ _ _) (list_all m) hk
theorem place_one {v : Int} (hv : -5 ≤ v ∧ v ≤ 5) : dom_place.f v = some (if v < 0 then -64 else 0) := by
 have h := place_all ⟨(v + 5).toNat, by omega⟩
 simp only [] at h
 rwa [show (((v + 5).toNat : Nat) : Int) - 5 = v by omega] at h
def wd (neg pos : Bool) (m : Nat) : List Int := (if neg then [((m % 32 * 576460752303423488 : Nat) : Int)] else []) ++ (if pos then [((m / 32 : Nat) : Int)] else [])
def off (neg : Bool) : Int := if neg then -64 else 0
theorem put_one (neg pos : Bool) (m : Fin 2048) {v : Int} (hv : -5 ≤ v ∧ v ≤ 5) (hn : v < 0 → neg = true) (hp : 0 ≤ v → pos = true) :
  ∃ i : Nat, wrap64 (Int.tdiv (wrap64 (v - off neg)) 64) = (i : Int) ∧ i < (wd neg pos m.val).length ∧ 0 ≤ Int.tmod (wrap64 (v - off neg)) 64 ∧ (wd neg pos m.val).set i (Go.bits .or .u64 (rd (wd neg pos m.val) (i : Int)) (shl .u64 1 (Int.tmod (wrap64 (v - off neg)) 64))) = wd neg pos (m.val ||| 1 <<< (v + 5).toNat) := by
 have hs := split_all m ⟨(v + 5).toNat, by omega⟩
 simp only [] at hs
 by_cases h : v < 0
 ·
  obtain rfl := hn h
  have hl := put_lo ⟨m.val % 32, Nat.mod_lt _ (by decide)⟩ ⟨(v + 5).toNat, by omega⟩
  simp only [] at hl
  rw [ipo_, ipo_, Nat.or_zero] at hs
  rw [show (((v + 5).toNat : Nat) : Int) - 5 = v by omega] at hl
  have e1 : wrap64 (v - off true) = v + 64 := by rw [show off true = -64 from rfl, wrap_id (by omega) (by omega)]; omega
  have e2 : Int.tdiv (v + 64) 64 = 0 := Int.tdiv_eq_zero_of_lt (by omega) (by omega)
  refine ⟨0, by rw [e1, e2]; decide +kernel, by simp [wd], by rw [e1]; exact Int.tmod_nonneg _ (by omega), ?_⟩
  show List.set (((m.val % 32 * 576460752303423488 : Nat) : Int) :: _) 0 (Go.bits .or .u64 ((m.val % 32 * 576460752303423488 : Nat) : Int) (shl .u64 1 (Int.tmod (wrap64 (v - (-64))) 64))) = _
  rw [List.set_cons_zero, hl]
  unfold wd
  rw [hs.1, hs.2]; rfl
 ·
  obtain rfl := hp (by omega)
  rw [ino_, ino_, Nat.or_zero] at hs
  have hh := put_hi ⟨m.val / 32, by have := m.isLt; omega⟩ ⟨v.toNat, by omega⟩
  simp only [] at hh
  rw [show ((v.toNat : Nat) : Int) = v by omega] at hh
  have e0 : (v + 5).toNat - 5 = v.toNat := by omega
  cases neg with
  | true =>
   have e1 : wrap64 (v - off true) = v + 64 := by rw [show off true = -64 from rfl, wrap_id (by omega) (by omega)]; omega
   have e2 : Int.tdiv (v + 64) 64 = 1 := by rw [Int.tdiv_eq_ediv_of_nonneg (by omega)]; omega
   refine ⟨1, by rw [e1, e2]; decide +kernel, by simp [wd], by rw [e1]; exact Int.tmod_nonneg _ (by omega), ?_⟩
   show List.set [((m.val % 32 * 576460752303423488 : Nat) : Int), ((m.val / 32 : Nat) : Int)] 1 (Go.bits .or .u64 ((m.val / 32 : Nat) : Int) (shl .u64 1 (Int.tmod (wrap64 (v - (-64))) 64))) = _
   rw [hh.2]
   unfold wd
   rw [hs.1, hs.2, e0]; rfl
  | false =>
   have e1 : wrap64 (v - off false) = v := by rw [show off false = 0 from rfl, wrap_id (by omega) (by omega)]; omega
   have e2 : Int.tdiv v 64 = 0 := Int.tdiv_eq_zero_of_lt (by omega) (by omega)
   refine ⟨0, by rw [e1, e2]; decide +kernel, by simp [wd], by rw [e1]; exact Int.tmod_nonneg _ (by omega), ?_⟩
   show List.set [((m.val / 32 : Nat) : Int)] 0 (Go.bits .or .u64 ((m.val / 32 : Nat) : Int) (shl .u64 1 (Int.tmod (wrap64 (v - 0)) 64))) = _
   rw [hh.1]
   unfold wd
   rw [hs.1, hs.2, e0]; rfl
theorem wd_D (neg pos : Bool) (m : Fin 2048) (hm : m.val ≠ 0) (hn : neg = true ↔ ¬ (∀ v ∈ LL m, 0 ≤ v)) (hp : pos = true ↔ ¬ (∀ v ∈ LL m, v < 0)) : off neg = (D m).f0 ∧ wd neg pos m.val = (D m).f1 := by
 obtain ⟨h1, h2⟩ := low_all m
 rw [← h1] at hn
 rw [← h2] at hp
 unfold D DM
 cases neg with
 | false =>
  have e : m.val % 32 = 0 := Classical.byContradiction fun h => absurd (hn.2 h) (by decide)
  have ep : pos = true := hp.2 (by omega)
  rw [if_pos e, ep]; exact ⟨rfl, rfl⟩
 | true =>
  rw [if_neg (hn.1 rfl)]
  cases pos with
  | false =>
   have e : m.val / 32 = 0 := Classical.byContradiction fun h => absurd (hp.2 h) (by decide)
   rw [if_pos e]; exact ⟨rfl, rfl⟩
  | true => rw [if_neg (hp.1 rfl)]; exact ⟨rfl, rfl⟩
theorem of_l0 (neg pos : Bool) (l : List Int) (hl : l.length ≤ 2000) (hr : Near l) (hn : ∀ v ∈ l, v < 0 → neg = true) (hp : ∀ v ∈ l, 0 ≤ v → pos = true) : ∀ (m j k : Nat), l.length = j + m → m + 20 < k →
  dom_Of.l0 k l (l.length : Int) (j : Int) (off neg) (wd neg pos (msk (l.take j))) 0 0 0 = (dom_made.f (k - m - 1) (off neg) (wd neg pos (msk l))).bind fun bt => some (bt.1, bt.2.1, bt.2.2.1, bt.2.2.2.1, bt.2.2.2.2, 0)
 | 0, j, k + 1, e, hk => by
  rw [dom_Of.l0, ino_, List.take_of_length_le (by omega)]
  rfl
 | m + 1, j, k + 1, e, hk => by
  have hj : j < l.length := by omega
  have hv := getD_mem l 0 hj
  have hnt : Near (l.take j) := fun u hu => hr u (List.mem_of_mem_take hu)
  obtain ⟨i, e1, e2, e3, e4⟩ := put_one neg pos ⟨msk (l.take j), msk_lt hnt⟩ (hr _ hv) (hn _ hv) (hp _ hv)
  simp only [] at e2 e4
  have e5 : msk (l.take (j + 1)) = msk (l.take j) ||| 1 <<< (l.getD j 0 + 5).toNat := by
   rw [← take_step l 0 hj, msk_append, msk, msk, Nat.zero_or]
  rw [dom_Of.l0, if_pos (nlt hj), ipo_, if_pos (nlt hj), rd_at, e1, ipo_, if_pos (nlt e2), if_pos e3, Int.toNat_natCast, e4, ← e5, wsu_, of_l0 neg pos l hl hr hn hp m (j + 1) k (by omega) (by omega)]
  rw [show k + 1 - (m + 1) - 1 = k - m - 1 by omega]
theorem idx_of (l : List Int) (hl : l.length ≤ 2000) (hr : Near l) : ∀ (m j k : Nat), l.length = j + m → m < k → slices_IndexFunc_int_int_101_at_dom_Of_1.l0 k l (l.length : Int) (j : Int) = some (-1)
 | 0, j, k + 1, e, _ => by rw [slices_IndexFunc_int_int_101_at_dom_Of_1.l0, ino_]
 | m + 1, j, k + 1, e, hk => by
  have hj : j < l.length := by omega
  have hv := hr _ (getD_mem l 0 hj)
  have hf : dom_Of_1.f (l.getD j 0) = some false := by
   unfold dom_Of_1.f dom_in.f
   rw [ipo_, obs_, decide_eq_true (by omega)]; rfl
  rw [slices_IndexFunc_int_int_101_at_dom_Of_1.l0, if_pos (nlt hj), ipo_, if_pos (nlt hj), rd_at, hf, obs_, ind_, wsu_]
  exact idx_of l hl hr m (j + 1) k (by omega) (by omega)
theorem room_f {a b : Int} (ha : -5 ≤ a ∧ a ≤ 5) (hb : -5 ≤ b ∧ b ≤ 5) (hab : a ≤ b) : dom_room.f a b = some (off (decide (a < 0)), wd (decide (a < 0)) (decide (0 ≤ b)) 0, 0, 0, 0) := by
 unfold dom_room.f
 rw [place_one ha, obs_, place_one hb, obs_, obs_]
 by_cases h1 : a < 0
 ·
  rw [if_pos h1, decide_eq_true h1]
  by_cases h2 : b < 0
  ·
   rw [if_pos h2, decide_eq_false (by omega)]; decide +kernel
  ·
   rw [if_neg h2, decide_eq_true (by omega)]; decide +kernel
 ·
  rw [if_neg h1, if_neg (show ¬ b < 0 by omega), decide_eq_false h1, decide_eq_true (by omega)]; decide +kernel
theorem of_list (l : List Int) (h0 : l ≠ []) (hl : l.length ≤ 2000) (hr : Near l) {k : Nat} (hk : l.length + 20 < k) : dom_Of.f k l = some ((D (mk l)).f0, (D (mk l)).f1, (D (mk l)).f2, (D (mk l)).f3, (D (mk l)).f4, 0) := by
 have hp : 0 < l.length := List.length_pos_iff.2 h0
 have h00 := getD_mem l 0 hp
 obtain ⟨a1, a2, a3⟩ := fold_mn l (rd l 0)
 obtain ⟨b1, b2, b3⟩ := fold_mx l (rd l 0)
 have ham : l.foldl mn (rd l 0) ∈ l := by
  rcases a3 with h | h
  ·
   rw [h]; exact h00
  ·
   exact h
 have hbm : l.foldl mx (rd l 0) ∈ l := by
  rcases b3 with h | h
  ·
   rw [h]; exact h00
  ·
   exact h
 have hra := hr _ ham
 have hrb := hr _ hbm
 have emin : slices_Min_int.f l = some (l.foldl mn (rd l 0)) := by unfold slices_Min_int.f; rw [if_neg h0]
 have emax : slices_Max_int.f l = some (l.foldl mx (rd l 0)) := by unfold slices_Max_int.f; rw [if_neg h0]
 have hidx : slices_IndexFunc_int_int_101_at_dom_Of_1.l0 k l (l.length : Int) 0 = some (-1) := idx_of l hl hr l.length 0 k (by omega) (by omega)
 generalize l.foldl mn (rd l 0) = a at *
 generalize l.foldl mx (rd l 0) = b at *
 have hw : wrap64 (b - a) = b - a := wrap_id (by omega) (by omega)
 have hc : slices_ContainsFunc_int_int_70_at_dom_Of_1.f k l = some false := by
  unfold slices_ContainsFunc_int_int_70_at_dom_Of_1.f slices_IndexFunc_int_int_101_at_dom_Of_1.f
  rw [hidx, obs_]; rfl
 unfold dom_Of.f
 rw [ino_, hc, obs_, ind_, emax, obs_, emin, obs_, hw, ino_, obs_, obs_, room_f hra hrb (by omega), obs_]
 have hcall := of_l0 (decide (a < 0)) (decide (0 ≤ b)) l hl hr (fun v hv h => decide_eq_true (by have := a2 v hv; omega)) (fun v hv h => decide_eq_true (by have := b2 v hv; omega)) l.length 0 k (by omega) (by omega)
 have hcall' : dom_Of.l0 k l (l.length : Int) 0 (off (decide (a < 0))) (wd (decide (a < 0)) (decide (0 ≤ b)) 0) 0 0 0 = _ := hcall
 rw [hcall']
 have hne := mk_ne hr h0
 obtain ⟨w1, w2⟩ := wd_D (decide (a < 0)) (decide (0 ≤ b)) (mk l) hne (by
   rw [decide_eq_true_iff]
   constructor
   ·
    exact fun h h' => by have := h' a ((mem_mk hr).2 ham); omega
   ·
    exact fun h => Classical.byContradiction fun h' => h fun v hv => by have := a2 v ((mem_mk hr).1 hv); omega) (by
   rw [decide_eq_true_iff]
   constructor
   ·
    exact fun h h' => by have := h' b ((mem_mk hr).2 hbm); omega
   ·
    exact fun h => Classical.byContradiction fun h' => h fun v hv => by have := b2 v ((mem_mk hr).1 hv); omega)
 rw [mk_val hr] at w2
 rw [w1, w2]
 have hm := up (f := fun k => dom_made.f k (D (mk l)).f0 (D (mk l)).f1) (dom_made.mono _ _) (made_all _ hne) (show 10 ≤ k - l.length - 1 by omega)
 rw [hm, obs_]
theorem of_one {m : Fin 2048} (hm : m.val ≠ 0) {k : Nat} (hk : 40 ≤ k) : dom_Of.f k (LL m) = some ((D m).f0, (D m).f1, (D m).f2, (D m).f3, (D m).f4, 0) := by
 have h := of_list (LL m) (fun h => ne_all m hm (by rw [h]; rfl)) (by have := (len_all m).1; omega) (near_LL m) (k := k) (by have := (len_all m).1; omega)
 rwa [mk_LL] at h
theorem has_far (m : Fin 2048) {v : Int} (hv : -30 ≤ v ∧ v ≤ 30) : dom_Dom_Has.f (D m).f0 (D m).f1 (D m).f2 (D m).f3 (D m).f4 v = some (decide (v ∈ LL m)) := by
 by_cases hn : -5 ≤ v ∧ v ≤ 5
 ·
  exact has_one m hn
 ·
  rw [decide_eq_false (fun h => hn (near_LL m v h))]
  have hp := place_far ⟨(v + 30).toNat, by omega⟩
  simp only [] at hp
  rw [show (((v + 30).toNat : Nat) : Int) - 30 = v by omega] at hp
  unfold dom_Dom_Has.f dom_in.f
  rw [ipo_, obs_, if_pos (decide_eq_true (by omega)), hp, obs_]
  have hm := m.isLt
  by_cases h : v < 0
  ·
   have hw : wrap64 (v - (-64)) = v + 64 := by rw [wrap_id (by omega) (by omega)]; omega
   have hf := far_lo ⟨m.val % 32, Nat.mod_lt _ (by decide)⟩ ⟨(v + 30).toNat, by omega⟩
   simp only [] at hf
   rw [show (((v + 30).toNat : Nat) : Int) + 34 = v + 64 by omega] at hf
   rw [if_pos h, word_lo m, obs_, obs_, hw, ipo_, hf]
  ·
   have hw : wrap64 (v - 0) = v := by rw [wrap_id (by omega) (by omega)]; omega
   have hf := far_hi ⟨m.val / 32, by omega⟩ ⟨(v - 6).toNat, by omega⟩
   simp only [] at hf
   rw [show (((v - 6).toNat : Nat) : Int) + 6 = v by omega] at hf
   rw [if_neg h, word_hi m, obs_, obs_, hw, ipo_, hf]
theorem rhas_l0 (l : List Int) (v : Int) (hl : l.length ≤ 100) : ∀ (m j k : Nat), l.length = j + m → m < k → jigsawref02_Has.l0 k l v (j : Int) = some (decide (v ∈ l.drop j))
 | 0, j, k + 1, e, _ => by
  rw [jigsawref02_Has.l0, ino_, List.drop_eq_nil_of_le (by omega)]; rfl
 | m + 1, j, k + 1, e, hk => by
  have hj : j < l.length := by omega
  have hd : l.drop j = l[j] :: l.drop (j + 1) := List.drop_eq_getElem_cons hj
  rw [jigsawref02_Has.l0, if_pos (nlt hj), ipo_, rd_at, getD_lt _ _ hj]
  by_cases h : l[j] = v
  ·
   rw [if_pos h, hd]; congr 1; symm; exact decide_eq_true (by rw [h]; exact List.mem_cons_self)
  ·
   rw [if_neg h, wsu_, rhas_l0 l v hl m (j + 1) k (by omega) (by omega), hd]
   congr 1
   rw [decide_eq_decide]
   constructor
   ·
    exact fun h' => List.mem_cons_of_mem _ h'
   ·
    intro h'
    rcases List.mem_cons.1 h' with h2 | h2
    ·
     exact absurd h2.symm h
    ·
     exact h2
theorem rhas_f (l : List Int) (v : Int) (hl : l.length ≤ 100) {k : Nat} (hk : 200 ≤ k) : jigsawref02_Has.f k l v = some (decide (v ∈ l)) := by
 have h := rhas_l0 l v hl l.length 0 k (by omega) (by omega)
 exact h
def insR : Bool → Int → List Int → List Int
 | true, _, r => r
 | false, v, r => ins v r
theorem of_l2 (x : List Int) (hx : x.length ≤ 100) (i : Nat) (hi : i < x.length) (l : List Int) (hl : l.length ≤ 100) : ∀ (m j k : Nat) (acc : List Int) (done : Bool), l.length = j + m → acc.length ≤ 2 * j → m < k →
  ∃ k', k' + m + 1 = k ∧ jigsawref02_Of.l2 k x l (i : Int) acc done (j : Int) = jigsawref02_Of.l1 k' x (acc ++ insR done (x.getD i 0) (l.drop j)) (((i + 1 : Nat)) : Int)
 | 0, j, k + 1, acc, done, e, ha, hk => by
  refine ⟨k, rfl, ?_⟩
  rw [jigsawref02_Of.l2, ino_, List.drop_eq_nil_of_le (by omega)]
  cases done with
  | true => rw [if_pos rfl, wsu_]; simp [insR]
  | false => rw [ind_, ipo_, if_pos (nlt hi), ipo_, wsu_, rd_at]; rfl
 | m + 1, j, k + 1, acc, done, e, ha, hk => by
  have hj : j < l.length := by omega
  have hd : l.drop j = l.getD j 0 :: l.drop (j + 1) := by rw [getD_lt _ _ hj]; exact List.drop_eq_getElem_cons hj
  rw [jigsawref02_Of.l2, if_pos (nlt hj), ipo_, ipo_, if_pos (nlt hi), rd_at, rd_at, wsu_, hd]
  by_cases h : l.getD j 0 > x.getD i 0
  ·
   rw [if_pos h]
   cases done with
   | true =>
    rw [if_pos rfl, ipo_]
    obtain ⟨k', hk', h'⟩ := of_l2 x hx i hi l hl m (j + 1) k (acc ++ [l.getD j 0]) true (by omega) (by simp; omega) (by omega)
    refine ⟨k', by omega, ?_⟩
    rw [h']; simp [insR]
   | false =>
    rw [ind_, ipo_, obs_, if_pos (by simp; omega)]
    obtain ⟨k', hk', h'⟩ := of_l2 x hx i hi l hl m (j + 1) k ((acc ++ [x.getD i 0]) ++ [l.getD j 0]) true (by omega) (by simp; omega) (by omega)
    refine ⟨k', by omega, ?_⟩
    have e1 : insR false (x.getD i 0) (l.getD j 0 :: l.drop (j + 1)) = x.getD i 0 :: l.getD j 0 :: l.drop (j + 1) := by show ins _ _ = _; rw [ins, if_pos h]
    rw [h', e1]; simp [insR]
  ·
   rw [if_neg h, ipo_]
   obtain ⟨k', hk', h'⟩ := of_l2 x hx i hi l hl m (j + 1) k (acc ++ [l.getD j 0]) done (by omega) (by simp; omega) (by omega)
   refine ⟨k', by omega, ?_⟩
   rw [h']
   cases done with
   | true => simp [insR]
   | false =>
    have e1 : insR false (x.getD i 0) (l.getD j 0 :: l.drop (j + 1)) = l.getD j 0 :: ins (x.getD i 0) (l.drop (j + 1)) := by show ins _ _ = _; rw [ins, if_neg h]
    rw [e1]; simp [insR]
theorem of_l1 (x : List Int) (hx : x.length ≤ 6) (hn : Near x) : ∀ (m j k : Nat) (b : Fin 2048), x.length = j + m → 300 * m + 300 < k → (0 < j → b.val ≠ 0) →
  ∃ c : Fin 2048, (0 < x.length → c.val ≠ 0) ∧ jigsawref02_Of.l1 k x (LL b) (j : Int) = some (LL c, 0)
 | 0, j, k + 1, b, e, hk, hb => by
  refine ⟨b, fun h => hb (by omega), ?_⟩
  rw [jigsawref02_Of.l1, ino_]
 | m + 1, j, k + 1, b, e, hk, hb => by
  have hj : j < x.length := by omega
  have hv := hn (x.getD j 0) (by rw [getD_lt _ _ hj]; exact List.getElem_mem _)
  have hl := (len_all b).1
  rw [jigsawref02_Of.l1, if_pos (nlt hj), ipo_, rd_at, rhas_f (LL b) _ (by omega) (by omega), obs_]
  by_cases h : x.getD j 0 ∈ LL b
  ·
   rw [if_pos (decide_eq_true h), wsu_]
   refine of_l1 x hx hn m (j + 1) k b (by omega) (by omega) (fun _ h0 => ?_)
   have : LL b = [] := by unfold LL; rw [h0]; decide +kernel
   rw [this] at h; cases h
  ·
   rw [if_neg (by simpa using h)]
   obtain ⟨k', hk', h'⟩ := of_l2 x (by omega) j hj (LL b) (by omega) (LL b).length 0 k [] false (by omega) (by simp) (by omega)
   have e0 : jigsawref02_Of.l2 k x (LL b) (j : Int) [] false 0 = _ := h'
   rw [e0]
   have hins := ins_all b ⟨(x.getD j 0 + 5).toNat, by omega⟩
   simp only [] at hins
   rw [show (((x.getD j 0 + 5).toNat : Nat) : Int) - 5 = x.getD j 0 by omega] at hins
   obtain ⟨h1, h2⟩ := hins h
   rw [List.nil_append, List.drop_zero, insR, h1]
   exact of_l1 x hx hn m (j + 1) k' _ (by omega) (by omega) (fun _ => h2)
theorem rof_l0 (x : List Int) (hx : x.length ≤ 6) (hn : Near x) : ∀ (m j k : Nat) (lo hi : Int), x.length = j + m → m + 3000 < k → -5 ≤ lo → lo ≤ 5 → -5 ≤ hi → hi ≤ 5 →
  ∃ c : Fin 2048, (0 < x.length → c.val ≠ 0) ∧ jigsawref02_Of.l0 k x lo hi (j : Int) = some (LL c, 0)
 | 0, j, k + 1, lo, hi, e, hk, h1, h2, h3, h4 => by
  have ew : wrap64 (hi - lo) = hi - lo := wrap_id (by omega) (by omega)
  rw [jigsawref02_Of.l0, ino_, ew, ino_]
  have h0 : LL 0 = [] := by decide +kernel
  have h := of_l1 x hx hn x.length 0 k 0 (by omega) (by omega) (fun h => absurd h (by decide))
  rw [h0] at h
  exact h
 | m + 1, j, k + 1, lo, hi, e, hk, h1, h2, h3, h4 => by
  have hj : j < x.length := by omega
  have hv := hn (x.getD j 0) (by rw [getD_lt _ _ hj]; exact List.getElem_mem _)
  rw [jigsawref02_Of.l0, if_pos (nlt hj), ipo_, rd_at, ino_, ino_, wsu_]
  split <;> split <;> exact rof_l0 x hx hn m (j + 1) k _ _ (by omega) (by omega) (by omega) (by omega) (by omega) (by omega)
theorem rof_f (x : List Int) (hx : x.length ≤ 6) (h0 : 0 < x.length) (hn : Near x) {k : Nat} (hk : 4000 ≤ k) : ∃ c : Fin 2048, c.val ≠ 0 ∧ jigsawref02_Of.f k x = some (LL c, 0) := by
 have hv := hn (x.getD 0 0) (by rw [getD_lt _ _ h0]; exact List.getElem_mem _)
 obtain ⟨c, h1, h2⟩ := rof_l0 x hx hn x.length 0 k (x.getD 0 0) (x.getD 0 0) (by omega) (by omega) hv.1 hv.2 hv.1 hv.2
 refine ⟨c, h1 h0, ?_⟩
 unfold jigsawref02_Of.f
 rw [ino_, ipo_]
 exact h2
theorem mod_near (v : Int) : -5 ≤ Int.tmod v 6 ∧ Int.tmod v 6 ≤ 5 := by
 have h1 := Int.tmod_lt_of_pos v (show (0 : Int) < 6 by decide)
 have h2 := Int.lt_tmod_of_pos v (show (0 : Int) < 6 by decide)
 omega
theorem small_l0 (l : List Int) (h0 : 0 < l.length) : ∀ (m j k : Nat) (acc : List Int), 6 = j + m → j ≤ l.length → m + 4100 < k → acc.length = j → Near acc →
  ∃ c : Fin 2048, c.val ≠ 0 ∧ jigsawref02_Small.l0 k l 6 6 acc (j : Int) = some (LL c)
 | m, j, k + 1, acc, e, hjl, hk, ha, hn => by
  have fin : ∀ (hx : 0 < acc.length), ∃ c : Fin 2048, c.val ≠ 0 ∧ ((jigsawref02_Of.f k acc).bind fun bt => some bt.1) = some (LL c) := by
   intro hx
   obtain ⟨c, h1, h2⟩ := rof_f acc (by omega) hx hn (k := k) (by omega)
   exact ⟨c, h1, by rw [h2, obs_]⟩
  rw [jigsawref02_Small.l0]
  by_cases hj : j < l.length
  ·
   rw [if_pos (nlt hj)]
   by_cases h6 : j < 6
   ·
    obtain ⟨m, rfl⟩ : ∃ m', m = m' + 1 := ⟨m - 1, by omega⟩
    rw [ipo_, ipo_, ind_, ipo_, wsu_]
    refine small_l0 l h0 m (j + 1) k _ (by omega) (by omega) (by omega) (by simp [ha]) (fun v hv => ?_)
    rcases List.mem_append.1 hv with h | h
    ·
     exact hn v h
    ·
     rw [List.mem_singleton] at h; rw [h]; exact mod_near _
   ·
    rw [ino_]
    exact fin (by omega)
  ·
   rw [if_neg (nge hj)]
   exact fin (by omega)
theorem small_f (l : List Int) (h0 : 0 < l.length) {k : Nat} (hk : 4200 ≤ k) : ∃ c : Fin 2048, c.val ≠ 0 ∧ jigsawref02_Small.f k l 6 6 = some (LL c) :=
 small_l0 l h0 6 0 k [] rfl (by omega) (by omega) rfl (fun v hv => by simp at hv)
def Places (n : Nat) (r : List Int) : Prop := r.length = n ∧ ∀ x ∈ r, 0 ≤ x ∧ x ≤ 4
theorem places_l0 (l : List Int) (hl : ∀ x ∈ l, 0 ≤ x ∧ x ≤ 255) (n : Nat) (hn : n ≤ 4) : ∀ (m j k : Nat) (acc : List Int), n = j + m → m < k → Places j acc → ∃ r, jigsawref06_places.l0 k l (n : Int) 5 acc (j : Int) = some r ∧ Places n r
 | 0, j, k + 1, acc, e, _, ha => by
  obtain rfl : n = j := by omega
  refine ⟨acc, ?_, ha⟩
  rw [jigsawref06_places.l0, ino_]
 | m + 1, j, k + 1, acc, e, hk, ha => by
  have hj : j < n := by omega
  obtain ⟨h1, h2⟩ := ha
  have hlen : acc.length < 17592186044416 := by omega
  by_cases hx : j < l.length
  ·
   have hm := hl (l.getD j 0) (by rw [getD_lt _ _ hx]; exact List.getElem_mem _)
   obtain ⟨r, hr, hp⟩ := places_l0 l hl n hn m (j + 1) k (acc ++ [Int.tmod (wrap64 (rd l (j : Int))) 5]) (by omega) (by omega) ⟨by simp [h1], fun x hx => by
    rcases List.mem_append.1 hx with h | h
    ·
     exact h2 x h
    ·
     rw [List.mem_singleton] at h
     rw [h, rd_at, wrap_id (by omega) (by omega), Int.tmod_eq_emod_of_nonneg (by omega)]
     omega⟩
   refine ⟨r, ?_, hp⟩
   rw [jigsawref06_places.l0, if_pos (nlt hj), if_pos (nlt hx), ipo_, ind_, if_pos hlen, wsu_]
   exact hr
  ·
   obtain ⟨r, hr, hp⟩ := places_l0 l hl n hn m (j + 1) k (acc ++ [Int.tmod (j : Int) 5]) (by omega) (by omega) ⟨by simp [h1], fun x hx => by
    rcases List.mem_append.1 hx with h | h
    ·
     exact h2 x h
    ·
     rw [List.mem_singleton] at h
     rw [h, Int.tmod_eq_emod_of_nonneg (by omega)]
     omega⟩
   refine ⟨r, ?_, hp⟩
   rw [jigsawref06_places.l0, if_pos (nlt hj), if_neg (nge hx), ind_, if_pos hlen, wsu_]
   exact hr
theorem places_f (l : List Int) (hl : ∀ x ∈ l, 0 ≤ x ∧ x ≤ 255) (n : Nat) (hn : n ≤ 4) {k : Nat} (hk : 5 ≤ k) : ∃ r, jigsawref06_places.f k l (n : Int) 5 = some r ∧ Places n r :=
 places_l0 l hl n hn n 0 k [] (by omega) (by omega) ⟨rfl, fun x hx => by simp at hx⟩
theorem has_f {s : ByteArray} {c r : Int} (h : jigsawref06_has.f 6 s c = some r) {k : Nat} (hk : 6 ≤ k) : jigsawref06_has.f k s c = some r :=
 up (f := fun k => jigsawref06_has.f k s c) (jigsawref06_has.mono _ _) h hk
theorem has_g0 (s : ByteArray) (c : Int) (hs : s.size ≤ 4) : ∀ (m j k n : Nat), s.size = j + m → m < k → n + m ≤ 100 → ∃ r : Nat, jigsawref06_has.l0 k s c (n : Int) (j : Int) = some (r : Int) ∧ r ≤ n + m
 | 0, j, k + 1, n, e, _, _ => ⟨n, by rw [jigsawref06_has.l0, ino_], by omega⟩
 | m + 1, j, k + 1, n, e, hk, hn => by
  have hj : j < s.size := by omega
  rw [jigsawref06_has.l0, if_pos (nlt hj), ipo_, wsu_, wsu_]
  by_cases h : bt s (j : Int) = c
  ·
   obtain ⟨r, h1, h2⟩ := has_g0 s c hs m (j + 1) k (n + 1) (by omega) (by omega) (by omega)
   exact ⟨r, by rw [if_pos h]; exact h1, by omega⟩
  ·
   obtain ⟨r, h1, h2⟩ := has_g0 s c hs m (j + 1) k n (by omega) (by omega) (by omega)
   exact ⟨r, by rw [if_neg h]; exact h1, by omega⟩
theorem numbers_g0 (l : List Int) (from_ : Nat) (hf : from_ ≤ 1000) (n : Nat) (hn : n ≤ 50) (least wide : Int) (hw : wide ≠ 0) : ∀ (m j k : Nat) (acc : List Int), n = j + m → m < k → acc.length = j → ∃ r, jigsawref06_numbers.l0 k l (from_ : Int) (n : Int) least wide acc (j : Int) = some r ∧ r.length = n
 | 0, j, k + 1, acc, e, _, ha => ⟨acc, by rw [jigsawref06_numbers.l0, ino_], by omega⟩
 | m + 1, j, k + 1, acc, e, hk, ha => by
  have hj : j < n := by omega
  have hlen : acc.length < 17592186044416 := by omega
  have ew : wrap64 ((from_ : Int) + (j : Int)) = ((from_ + j : Nat) : Int) := by rw [wrap_id (by omega) (by omega)]; omega
  have step : ∀ v, ∃ r, jigsawref06_numbers.l0 k l (from_ : Int) (n : Int) least wide (acc ++ [v]) (((j + 1 : Nat)) : Int) = some r ∧ r.length = n := fun v =>
   numbers_g0 l from_ hf n hn least wide hw m (j + 1) k (acc ++ [v]) (by omega) (by omega) (by simp [ha])
  rw [jigsawref06_numbers.l0, if_pos (nlt hj), ew, wsu_]
  simp only [if_pos hlen, if_neg hw]
  (repeat' split) <;> first | exact step _ | (exfalso; omega)
theorem numbers_g (l : List Int) (from_ : Nat) (hf : from_ ≤ 1000) (n : Nat) (hn : n ≤ 50) (least wide : Int) (hw : wide ≠ 0) {k : Nat} (hk : 60 ≤ k) : ∃ r, jigsawref06_numbers.f k l (from_ : Int) (n : Int) least wide = some r ∧ r.length = n :=
 numbers_g0 l from_ hf n hn least wide hw n 0 k [] (by omega) (by omega) rfl
abbrev Con := Int × List Int × List Int × List Int × List Int × List Int × Int × List (List Int)
def Ends (kd : Int) (p q : List Int) (o : Option Con) : Prop := ∃ C D E K R, o = some (kd, p, q, C, D, E, K, R)
section
variable (a0 a4 a5 kd : Int) (l1 l2 l3 : List Int) (n : Nat) (hn : 1 ≤ n ∧ n ≤ 4)
include hn
theorem mk_l2 (p q C D E : List Int) (K : Int) (N : Nat) (hN : N ≤ 6) : ∀ (m j k : Nat) (R : List (List Int)), N = j + m → m + 70 < k → R.length = j → Ends kd p q (jigsawref06_Make.l2 k (n : Int) (N : Int) (j : Int) a0 l1 l2 l3 a4 a5 kd p q C D E K R)
 | 0, j, k + 1, R, e, _, hR => ⟨C, D, E, K, R, by rw [jigsawref06_Make.l2, ino_]⟩
 | m + 1, j, k + 1, R, e, hk, hR => by
  have hm : j * n ≤ 6 * 4 := Nat.mul_le_mul (by omega) hn.2
  have ew : wrap64 ((j : Int) * (n : Int)) = ((j * n : Nat) : Int) := by rw [← Int.natCast_mul]; exact wrap_id (by omega) (by omega)
  obtain ⟨r, h1, _⟩ := numbers_g l3 (j * n) (by omega) n (by omega) (-1) 4 (by decide) (k := k) (by omega)
  rw [jigsawref06_Make.l2, ipo_, ew, h1, obs_, ipo_, wsu_]
  exact mk_l2 p q C D E K N hN m (j + 1) k (R ++ [r]) (by omega) (by omega) (by simp [hR])
theorem mk_j11 (p q C D E : List Int) (K : Int) {k : Nat} (hk : 80 ≤ k) : Ends kd p q (jigsawref06_Make.j11 k (n : Int) a0 l1 l2 l3 a4 a5 kd p q C D E K) := by
 obtain ⟨k, rfl⟩ : ∃ k', k = k' + 1 := ⟨k - 1, by omega⟩
 rw [jigsawref06_Make.j11]
 split
 ·
  have e : (1 : Int) + ((l3.length : Int) % 6) = ((1 + l3.length % 6 : Nat) : Int) := by omega
  rw [e]
  exact mk_l2 a0 a4 a5 kd l1 l2 l3 n hn p q C D E K _ (by omega) (1 + l3.length % 6) 0 k [] (by omega) (by omega) rfl
 ·
  exact ⟨C, D, E, K, [], rfl⟩
theorem mk_l1 (p q C D : List Int) (K : Int) (N : Nat) (hN : N ≤ 3) (hD : D.length = N) : ∀ (m j k : Nat) (E : List Int), N = j + m → m + 90 < k → E.length = j → Ends kd p q (jigsawref06_Make.l1 k (n : Int) (N : Int) (j : Int) a0 l1 l2 l3 a4 a5 kd p q C D E K)
 | 0, j, k + 1, E, e, hk, hE => by
  rw [jigsawref06_Make.l1, ino_]
  exact mk_j11 a0 a4 a5 kd l1 l2 l3 n hn p q C D E K (by omega)
 | m + 1, j, k + 1, E, e, hk, hE => by
  rw [jigsawref06_Make.l1, ipo_, ipo_, ipo_, ipo_, wsu_]
  exact mk_l1 p q C D K N hN hD m (j + 1) k _ (by omega) (by omega) (by simp [hE])
theorem mk_l0 (p q D : List Int) (K : Int) (N : Nat) (hN : 1 ≤ N ∧ N ≤ 3) : ∀ (m j k : Nat) (C : List Int), N = j + m → m + 100 < k → C.length = j → Ends kd p q (jigsawref06_Make.l0 k (n : Int) (N : Int) (j : Int) a0 l1 l2 l3 a4 a5 kd p q C D K)
 | 0, j, k + 1, C, e, hk, hC => by
  obtain ⟨r, h1, h2⟩ := numbers_g l3 0 (by omega) N (by omega) 0 2 (by decide) (k := k) (by omega)
  have h1' : jigsawref06_numbers.f k l3 0 (N : Int) 0 2 = some r := h1
  rw [jigsawref06_Make.l0, ino_, h1', obs_]
  exact mk_l1 a0 a4 a5 kd l1 l2 l3 n hn p q C r K N hN.2 h2 N 0 k [] (by omega) (by omega) rfl
 | m + 1, j, k + 1, C, e, hk, hC => by
  rw [jigsawref06_Make.l0, ipo_, ipo_, wsu_]
  exact mk_l0 p q D K N hN m (j + 1) k _ (by omega) (by omega) (by simp [hC])
theorem mk_j8 (p q C D : List Int) (K : Int) {k : Nat} (hk : 120 ≤ k) : Ends kd p q (jigsawref06_Make.j8 k (n : Int) a0 l1 l2 l3 a4 a5 kd p q C D K) := by
 obtain ⟨k, rfl⟩ : ∃ k', k = k' + 1 := ⟨k - 1, by omega⟩
 rw [jigsawref06_Make.j8]
 split
 ·
  have e : (1 : Int) + ((l3.length : Int) % 3) = ((1 + l3.length % 3 : Nat) : Int) := by omega
  rw [e]
  exact mk_l0 a0 a4 a5 kd l1 l2 l3 n hn p q D K _ (by omega) (1 + l3.length % 3) 0 k [] (by omega) (by omega) rfl
 ·
  exact mk_j11 a0 a4 a5 kd l1 l2 l3 n hn p q C D [] K (by omega)
theorem mk_j7 (p q C : List Int) (K : Int) {k : Nat} (hk : 130 ≤ k) : Ends kd p q (jigsawref06_Make.j7 k (n : Int) a0 l1 l2 l3 a4 a5 kd p q C K) := by
 obtain ⟨k, rfl⟩ : ∃ k', k = k' + 1 := ⟨k - 1, by omega⟩
 rw [jigsawref06_Make.j7]
 split
 ·
  obtain ⟨r, h1, _⟩ := numbers_g l3 0 (by omega) n (by omega) 0 4 (by decide) (k := k) (by omega)
  obtain ⟨r2, h2, _⟩ := numbers_g l3 n (by omega) n (by omega) 0 4 (by decide) (k := k) (by omega)
  have h1' : jigsawref06_numbers.f k l3 0 (n : Int) 0 4 = some r := h1
  rw [h1', obs_, h2, obs_]
  split <;> exact mk_j8 a0 a4 a5 kd l1 l2 l3 n hn p q _ _ _ (by omega)
 ·
  exact mk_j8 a0 a4 a5 kd l1 l2 l3 n hn p q C [] K (by omega)
theorem mk_j6 (s : ByteArray) (hs : s.size ≤ 4) (p q C : List Int) (K : Int) {k : Nat} (hk : 140 ≤ k) : Ends kd p q (jigsawref06_Make.j6 k s (n : Int) a0 l1 l2 l3 a4 a5 kd p q C K) := by
 obtain ⟨k, rfl⟩ : ∃ k', k = k' + 1 := ⟨k - 1, by omega⟩
 obtain ⟨r, h, _⟩ := has_g0 s 107 hs s.size 0 k 0 (by omega) (by omega) (by omega)
 have h' : jigsawref06_has.f k s 107 = some (r : Int) := h
 rw [jigsawref06_Make.j6, h', obs_]
 split <;> exact mk_j7 a0 a4 a5 kd l1 l2 l3 n hn p q C _ (by omega)
theorem mk_j5 (s : ByteArray) (hs : s.size ≤ 4) (p q C : List Int) (K : Int) {k : Nat} (hk : 150 ≤ k) : Ends kd p q (jigsawref06_Make.j5 k s (n : Int) a0 l1 l2 l3 a4 a5 kd p q C K) := by
 obtain ⟨k, rfl⟩ : ∃ k', k = k' + 1 := ⟨k - 1, by omega⟩
 rw [jigsawref06_Make.j5]
 split
 ·
  have e : (1 : Int) + ((l3.length : Int) % 5) = ((1 + l3.length % 5 : Nat) : Int) := by omega
  obtain ⟨r, h1, _⟩ := numbers_g l3 0 (by omega) (1 + l3.length % 5) (by omega) (-1) 5 (by decide) (k := k) (by omega)
  have h1' : jigsawref06_numbers.f k l3 0 ((1 + l3.length % 5 : Nat) : Int) (-1) 5 = some r := h1
  rw [e, h1', obs_]
  exact mk_j6 a0 a4 a5 kd l1 l2 l3 n hn s hs p q r K (by omega)
 ·
  exact mk_j6 a0 a4 a5 kd l1 l2 l3 n hn s hs p q C K (by omega)
theorem mk_j4 (s : ByteArray) (hs : s.size ≤ 4) (p q : List Int) (K : Int) {k : Nat} (hk : 160 ≤ k) : Ends kd p q (jigsawref06_Make.j4 k s (n : Int) a0 l1 l2 l3 a4 a5 kd p q K) := by
 obtain ⟨k, rfl⟩ : ∃ k', k = k' + 1 := ⟨k - 1, by omega⟩
 obtain ⟨r, h, _⟩ := has_g0 s 99 hs s.size 0 k 0 (by omega) (by omega) (by omega)
 have h' : jigsawref06_has.f k s 99 = some (r : Int) := h
 rw [jigsawref06_Make.j4, h', obs_]
 split
 ·
  obtain ⟨r, h1, _⟩ := numbers_g l3 0 (by omega) n (by omega) (-1) 5 (by decide) (k := k) (by omega)
  have h1' : jigsawref06_numbers.f k l3 0 (n : Int) (-1) 5 = some r := h1
  rw [h1', obs_]
  exact mk_j5 a0 a4 a5 kd l1 l2 l3 n hn s hs p q r K (by omega)
 ·
  exact mk_j5 a0 a4 a5 kd l1 l2 l3 n hn s hs p q [] K (by omega)
end
def EndsP (kd : Int) (o : Option Con) : Prop := ∃ (n m : Nat) (p q : List Int), 1 ≤ n ∧ n ≤ 4 ∧ m ≤ 4 ∧ Places n p ∧ Places m q ∧ Ends kd p q o
section
variable (a0 a4 a5 kd : Int) (l1 l2 l3 : List Int) (h1 : ∀ x ∈ l1, 0 ≤ x ∧ x ≤ 255) (h2 : ∀ x ∈ l2, 0 ≤ x ∧ x ≤ 255) (s : ByteArray) (hs : s.size ≤ 4)
include h2 hs
theorem mk_j3 (n m : Nat) (hn : 1 ≤ n ∧ n ≤ 4) (hm : m ≤ 4) (p q : List Int) (hp : Places n p) (hq : Places m q) (K : Int) {k : Nat} (hk : 170 ≤ k) : EndsP kd (jigsawref06_Make.j3 k 5 s (n : Int) a0 l1 l2 l3 a4 a5 kd p q K) := by
 obtain ⟨k, rfl⟩ : ∃ k', k = k' + 1 := ⟨k - 1, by omega⟩
 obtain ⟨r, h, _⟩ := has_g0 s 87 hs s.size 0 k 0 (by omega) (by omega) (by omega)
 have h' : jigsawref06_has.f k s 87 = some (r : Int) := h
 rw [jigsawref06_Make.j3, h', obs_]
 split
 ·
  obtain ⟨t, h1, h3⟩ := places_f l2 h2 n hn.2 (k := k) (by omega)
  rw [h1, obs_]
  exact ⟨n, n, p, t, hn.1, hn.2, hn.2, hp, h3, mk_j4 a0 a4 a5 kd l1 l2 l3 n hn s hs p t K (by omega)⟩
 ·
  exact ⟨n, m, p, q, hn.1, hn.2, hm, hp, hq, mk_j4 a0 a4 a5 kd l1 l2 l3 n hn s hs p q K (by omega)⟩
include h1
theorem mk_j2 (n : Nat) (hn : 1 ≤ n ∧ n ≤ 4) (K : Int) {k : Nat} (hk : 180 ≤ k) : EndsP kd (jigsawref06_Make.j2 k 5 s (n : Int) a0 l1 l2 l3 a4 a5 kd K) := by
 obtain ⟨k, rfl⟩ : ∃ k', k = k' + 1 := ⟨k - 1, by omega⟩
 obtain ⟨p, hp, hpp⟩ := places_f l1 h1 n hn.2 (k := k) (by omega)
 obtain ⟨r, h, _⟩ := has_g0 s 119 hs s.size 0 k 0 (by omega) (by omega) (by omega)
 have h' : jigsawref06_has.f k s 119 = some (r : Int) := h
 rw [jigsawref06_Make.j2, hp, obs_, h', obs_]
 split
 ·
  obtain ⟨t, h3, h4⟩ := places_f l2 h2 1 (by omega) (k := k) (by omega)
  have h3' : jigsawref06_places.f k l2 1 5 = some t := h3
  rw [h3', obs_]
  exact mk_j3 a0 a4 a5 kd l1 l2 l3 h2 s hs n 1 hn (by omega) p t hpp h4 K (by omega)
 ·
  exact mk_j3 a0 a4 a5 kd l1 l2 l3 h2 s hs n 0 hn (by omega) p [] hpp ⟨rfl, fun x hx => absurd hx List.not_mem_nil⟩ K (by omega)
theorem mk_j1 (n : Nat) (hn : 1 ≤ n ∧ n ≤ 4) (K : Int) {k : Nat} (hk : 190 ≤ k) : EndsP kd (jigsawref06_Make.j1 k 5 s (n : Int) a0 l1 l2 l3 a4 a5 kd K) := by
 obtain ⟨k, rfl⟩ : ∃ k', k = k' + 1 := ⟨k - 1, by omega⟩
 obtain ⟨r, h, hr⟩ := has_g0 s 118 hs s.size 0 k 0 (by omega) (by omega) (by omega)
 have h' : jigsawref06_has.f k s 118 = some (r : Int) := h
 rw [jigsawref06_Make.j1, h', obs_]
 split
 ·
  rw [obs_]
  exact mk_j2 a0 a4 a5 kd l1 l2 l3 h1 h2 s hs r (by omega) K (by omega)
 ·
  exact mk_j2 a0 a4 a5 kd l1 l2 l3 h1 h2 s hs n hn K (by omega)
theorem mk_j0 (n : Nat) (hn : 1 ≤ n) (K : Int) {k : Nat} (hk : 200 ≤ k) : EndsP kd (jigsawref06_Make.j0 k 5 s (n : Int) a0 l1 l2 l3 a4 a5 kd K) := by
 obtain ⟨k, rfl⟩ : ∃ k', k = k' + 1 := ⟨k - 1, by omega⟩
 rw [jigsawref06_Make.j0]
 split
 ·
  exact mk_j1 a0 a4 a5 kd l1 l2 l3 h1 h2 s hs 4 (by omega) K (by omega)
 ·
  exact mk_j1 a0 a4 a5 kd l1 l2 l3 h1 h2 s hs n (by omega) K (by omega)
end
theorem shape_size : ∀ i : Fin 24, (rdOf ByteArray.empty ((jigsawref06_Shapes.f).getD []) (i.val : Int)).size ≤ 4 := by decide +kernel
theorem kd_back {kd : Int} (h : 1 ≤ kd ∧ kd ≤ 23) : wrap64 (1 + Int.tmod (wrap64 ((wrap64 (kd - 1)) % 256)) 23) = kd := by
 have e0 : wrap64 (kd - 1) = kd - 1 := wrap_id (by omega) (by omega)
 have e1 : (kd - 1) % 256 = kd - 1 := by omega
 have e2 : Int.tmod (kd - 1) 23 = kd - 1 := by rw [Int.tmod_eq_emod_of_nonneg (by omega)]; omega
 rw [e0, e1, e0, e2, wrap_id (by omega) (by omega)]; omega
theorem make_any (kd : Int) (hkd : 1 ≤ kd ∧ kd ≤ 23) (l1 l2 l3 : List Int) (a4 a5 : Int) (h1 : ∀ x ∈ l1, 0 ≤ x ∧ x ≤ 255) (h2 : ∀ x ∈ l2, 0 ≤ x ∧ x ≤ 255) {k : Nat} (hk : 300 ≤ k) :
  EndsP kd (jigsawref06_Make.f k ((wrap64 (kd - 1)) % 256) l1 l2 l3 a4 a5 5) := by
 have hs : jigsawref06_Shapes.f = some ((jigsawref06_Shapes.f).getD []) := by rfl
 have hlen : ((jigsawref06_Shapes.f).getD []).length = 24 := by decide +kernel
 have hsz := shape_size ⟨kd.toNat, by omega⟩
 simp only [] at hsz
 rw [show ((kd.toNat : Nat) : Int) = kd by omega] at hsz
 unfold jigsawref06_Make.f
 rw [hs, obs_, kd_back hkd, hlen, ipo_, ipo_]
 split
 ·
  exact mk_j0 _ a4 a5 kd l1 l2 l3 h1 h2 _ hsz 1 (by omega) 0 (by omega)
 ·
  exact mk_j0 _ a4 a5 kd l1 l2 l3 h1 h2 _ hsz l1.length (by omega) 0 (by omega)
theorem make_key (kd : Int) (n : Nat) (s : ByteArray) (l1 l2 l3 : List Int) (a0 a4 a5 : Int) (h1 : ∀ x ∈ l1, 0 ≤ x ∧ x ≤ 255) (hn : 1 ≤ n ∧ n ≤ 4) (e1 : jigsawref06_has.f 6 s 118 = some (n : Int)) (e2 : jigsawref06_has.f 6 s 119 = some 0) (e3 : jigsawref06_has.f 6 s 87 = some 0) (e4 : jigsawref06_has.f 6 s 99 = some 0) (e5 : jigsawref06_has.f 6 s 107 = some 0)
  (k1 : kd ≠ 11) (k2 : kd ≠ 19) (k3 : kd ≠ 21) (k4 : kd ≠ 18) {k : Nat} (hk : 60 ≤ k) : ∃ p, Places n p ∧ ∀ m : Int, jigsawref06_Make.j1 k 5 s m a0 l1 l2 l3 a4 a5 kd 0 = some (kd, p, [], [], [], [], 0, []) := by
 obtain ⟨p, hp, hpp⟩ := places_f l1 h1 n hn.2 (k := 5) (by omega)
 have hp' : ∀ k', 5 ≤ k' → jigsawref06_places.f k' l1 (n : Int) 5 = some p := fun k' h => up (f := fun k => jigsawref06_places.f k l1 (n : Int) 5) (jigsawref06_places.mono _ _ _) hp h
 obtain ⟨k, rfl⟩ : ∃ k', k = k' + 12 := ⟨k - 12, by omega⟩
 refine ⟨p, hpp, fun m => ?_⟩
 rw [jigsawref06_Make.j1, has_f e1 (by omega), obs_, ipo_, obs_, jigsawref06_Make.j2, hp' _ (by omega), obs_, has_f e2 (by omega), obs_, ind_, jigsawref06_Make.j3, has_f e3 (by omega), obs_, ind_, jigsawref06_Make.j4, has_f e4 (by omega), obs_, ind_, jigsawref06_Make.j5, if_neg k1, jigsawref06_Make.j6, has_f e5 (by omega), obs_, ind_, jigsawref06_Make.j7, if_neg k2, jigsawref06_Make.j8, if_neg k3, jigsawref06_Make.j11, if_neg k4]
def Kind (kd : Int) (n : Nat) : Prop := (kd = 5 ∧ n = 3) ∨ (kd = 6 ∧ n = 3) ∨ (kd = 7 ∧ n = 3)
def shape (_ : Nat) : ByteArray := ⟨#[118, 118, 118]⟩
theorem make_f (kd : Int) (n : Nat) (hd : Kind kd n) (l1 l2 l3 : List Int) (a4 a5 : Int) (h1 : ∀ x ∈ l1, 0 ≤ x ∧ x ≤ 255) {k : Nat} (hk : 70 ≤ k) :
  ∃ p, Places n p ∧ jigsawref06_Make.f k ((wrap64 (kd - 1)) % 256) l1 l2 l3 a4 a5 5 = some (kd, p, [], [], [], [], 0, []) := by
 have hs : jigsawref06_Shapes.f = some ((jigsawref06_Shapes.f).getD []) := by rfl
 have hlen : ((jigsawref06_Shapes.f).getD []).length = 24 := by decide +kernel
 have hw : wrap64 (1 + Int.tmod (wrap64 ((wrap64 (kd - 1)) % 256)) 23) = kd := by rcases hd with ⟨rfl, _⟩ | ⟨rfl, _⟩ | ⟨rfl, _⟩ <;> decide +kernel
 have hv : rdOf ByteArray.empty ((jigsawref06_Shapes.f).getD []) kd = shape n := by rcases hd with ⟨rfl, rfl⟩ | ⟨rfl, rfl⟩ | ⟨rfl, rfl⟩ <;> rfl
 have hr : 0 ≤ kd ∧ kd < 24 := by unfold Kind at hd; omega
 have key : ∃ p, Places n p ∧ ∀ m : Int, jigsawref06_Make.j1 (k - 1) 5 (shape n) m ((wrap64 (kd - 1)) % 256) l1 l2 l3 a4 a5 kd 0 = some (kd, p, [], [], [], [], 0, []) := by
  rcases hd with ⟨rfl, rfl⟩ | ⟨rfl, rfl⟩ | ⟨rfl, rfl⟩ <;>
  exact make_key _ _ _ l1 l2 l3 _ a4 a5 h1 (by decide) (by decide +kernel) (by decide +kernel) (by decide +kernel) (by decide +kernel) (by decide +kernel) (by decide) (by decide) (by decide) (by decide) (by omega)
 have key0 : ∀ m : Int, ∃ p, Places n p ∧ jigsawref06_Make.j0 k 5 (shape n) m ((wrap64 (kd - 1)) % 256) l1 l2 l3 a4 a5 kd 0 = some (kd, p, [], [], [], [], 0, []) := by
  intro m
  obtain ⟨p, hp, e⟩ := key
  obtain ⟨k, rfl⟩ : ∃ k', k = k' + 1 := ⟨k - 1, by omega⟩
  refine ⟨p, hp, ?_⟩
  rw [jigsawref06_Make.j0]
  split <;> exact e _
 unfold jigsawref06_Make.f
 rw [hs, obs_, hw, hlen, ipo_, ipo_, hv]
 split
 ·
  exact key0 1
 ·
  exact key0 _
theorem kind_of {kd : Int} (h : 5 ≤ kd ∧ kd ≤ 7) : ∃ n, Kind kd n ∧ 2 ≤ n ∧ n ≤ 3 := ⟨3, by unfold Kind; omega, by decide, by decide⟩
theorem of_kind {kd : Int} {n : Nat} (hd : Kind kd n) : (5 ≤ kd ∧ kd ≤ 7) ∧ 2 ≤ n ∧ n ≤ 3 := by unfold Kind at hd; omega
def Bytes (l : List Int) : Prop := ∀ x ∈ l, 0 ≤ x ∧ x ≤ 255
theorem case_g0 (kd K : Int) (p q C D E : List Int) (R : List (List Int)) (N : Nat) (hN : p.length + q.length = N) (hn : N ≤ 8) (a0 a4 a5 : Int) (l1 l2 l3 : List Int) (l6 : List (List Int)) : ∀ (m j k : Nat) (ms : List (Fin 2048)), N = j + m → m + 4300 < k → ms.length = j → (∀ c ∈ ms, c.val ≠ 0) →
  ∃ ms' : List (Fin 2048), ms'.length = N ∧ (∀ c ∈ ms', c.val ≠ 0) ∧ jigsawref10_Make.l0 k 6 (ms.map LL) (j : Int) a0 l1 l2 l3 a4 a5 l6 kd p q C D E K R = some (kd, p, q, C, D, E, K, R, ms'.map LL)
 | 0, j, k + 1, ms, e, hk, hl, hs => by
  have hw : wrap64 ((p.length : Int) + (q.length : Int)) = (N : Int) := by rw [wrap_id (by omega) (by omega)]; omega
  refine ⟨ms, by omega, hs, ?_⟩
  rw [jigsawref10_Make.l0, hw, ino_]
 | m + 1, j, k + 1, ms, e, hk, hl, hs => by
  have hw : wrap64 ((p.length : Int) + (q.length : Int)) = (N : Int) := by rw [wrap_id (by omega) (by omega)]; omega
  have step : ∀ c : Fin 2048, c.val ≠ 0 → ∃ ms' : List (Fin 2048), ms'.length = N ∧ (∀ c ∈ ms', c.val ≠ 0) ∧ jigsawref10_Make.l0 k 6 ((ms.map LL) ++ [LL c]) (wrap64 ((j : Int) + 1)) a0 l1 l2 l3 a4 a5 l6 kd p q C D E K R = some (kd, p, q, C, D, E, K, R, ms'.map LL) := by
   intro c hc
   have h := case_g0 kd K p q C D E R N hN hn a0 a4 a5 l1 l2 l3 l6 m (j + 1) k (ms ++ [c]) (by omega) (by omega) (by simp [hl]) (fun x hx => by
    rcases List.mem_append.1 hx with h | h
    ·
     exact hs x h
    ·
     rw [List.mem_singleton] at h; rw [h]; exact hc)
   rw [wsu_]
   rwa [List.map_append] at h
  have hlm : (ms.map LL).length < 5864062014805 := by simp; omega
  rw [jigsawref10_Make.l0, hw, ipo_, obs_]
  have dflt : ∃ c : Fin 2048, c.val ≠ 0 ∧ jigsawref02_Small.f k [Int.tmod (j : Int) 3, 1] 6 6 = some (LL c) := small_f _ (by simp) (by omega)
  by_cases hx : j < l6.length
  ·
   rw [if_pos (nlt hx), ipo_, rdL_at]
   by_cases hz : ((l6.getD j []).length : Int) > 0
   ·
    obtain ⟨c, hc, h⟩ := small_f (l6.getD j []) (by omega) (k := k) (by omega)
    rw [if_pos hz, h, obs_, if_pos hlm]
    exact step c hc
   ·
    obtain ⟨c, hc, h⟩ := dflt
    rw [if_neg hz, h, obs_, if_pos hlm]
    exact step c hc
  ·
   obtain ⟨c, hc, h⟩ := dflt
   rw [if_neg (nge hx), h, obs_, if_pos hlm]
   exact step c hc
theorem case_all (kd : Int) (hkd : 1 ≤ kd ∧ kd ≤ 23) (a0 a4 a5 : Int) (l1 l2 l3 : List Int) (l6 : List (List Int)) (h1 : ∀ x ∈ l1, 0 ≤ x ∧ x ≤ 255) (h2 : ∀ x ∈ l2, 0 ≤ x ∧ x ≤ 255) {k : Nat} (hk : 4400 ≤ k) :
  ∃ (p q C D E : List Int) (K : Int) (R : List (List Int)) (ms : List (Fin 2048)), 1 ≤ p.length ∧ p.length ≤ 4 ∧ q.length ≤ 4 ∧ ms.length = p.length + q.length ∧ (∀ c ∈ ms, c.val ≠ 0) ∧ (5 ≤ kd ∧ kd ≤ 7 → R = [] ∧ C = [] ∧ D = [] ∧ E = []) ∧ jigsawref10_Make.f k a0 l1 l2 l3 a4 a5 l6 kd 6 = some (kd, p, q, C, D, E, K, R, ms.map LL) := by
 have fin : ∀ (p q C D E : List Int) (K : Int) (R : List (List Int)), 1 ≤ p.length → p.length ≤ 4 → q.length ≤ 4 → (5 ≤ kd ∧ kd ≤ 7 → R = [] ∧ C = [] ∧ D = [] ∧ E = []) → jigsawref06_Make.f k ((wrap64 (kd - 1)) % 256) l1 l2 l3 a4 a5 5 = some (kd, p, q, C, D, E, K, R) → ∃ (p q C D E : List Int) (K : Int) (R : List (List Int)) (ms : List (Fin 2048)), 1 ≤ p.length ∧ p.length ≤ 4 ∧ q.length ≤ 4 ∧ ms.length = p.length + q.length ∧ (∀ c ∈ ms, c.val ≠ 0) ∧ (5 ≤ kd ∧ kd ≤ 7 → R = [] ∧ C = [] ∧ D = [] ∧ E = []) ∧ jigsawref10_Make.f k a0 l1 l2 l3 a4 a5 l6 kd 6 = some (kd, p, q, C, D, E, K, R, ms.map LL) := by
  intro p q C D E K R g1 g2 g3 g4 e
  obtain ⟨ms, f1, f2, f3⟩ := case_g0 kd K p q C D E R (p.length + q.length) rfl (by omega) ((wrap64 (kd - 1)) % 256) a4 a5 l1 l2 l3 l6 (p.length + q.length) 0 k [] (by omega) (by omega) rfl (fun c hc => by simp at hc)
  refine ⟨p, q, C, D, E, K, R, ms, g1, g2, g3, f1, f2, g4, ?_⟩
  unfold jigsawref10_Make.f
  rw [e, obs_]
  exact f3
 by_cases h : 5 ≤ kd ∧ kd ≤ 7
 ·
  obtain ⟨n, hd, hn⟩ := kind_of h
  obtain ⟨p, hp, e5⟩ := make_f kd n hd l1 l2 l3 a4 a5 h1 (k := k) (by omega)
  exact fin p [] [] [] [] 0 [] (by rw [hp.1]; omega) (by rw [hp.1]; omega) (by simp) (fun _ => ⟨rfl, rfl, rfl, rfl⟩) e5
 ·
  obtain ⟨n, m, p, q, e1, e2, e3, e4, e5, C, D, E, K, R, e6⟩ := make_any kd hkd l1 l2 l3 a4 a5 h1 h2 (k := k) (by omega)
  exact fin p q C D E K R (by rw [e4.1]; exact e1) (by rw [e4.1]; exact e2) (by rw [e5.1]; exact e3) (fun h' => absurd h' h) e6
def DZ (m : Fin 2048) : S61 := if m.val = 0 then ⟨0, [], 0, 0, 0⟩ else D m
theorem LL0 {m : Fin 2048} (h : m.val = 0) : LL m = [] := by unfold LL; rw [h]; decide +kernel
theorem dz_of (m : Fin 2048) {k : Nat} (hk : 40 ≤ k) : ∃ e, dom_Of.f k (LL m) = some ((DZ m).f0, (DZ m).f1, (DZ m).f2, (DZ m).f3, (DZ m).f4, e) := by
 unfold DZ
 by_cases h : m.val = 0
 ·
  rw [if_pos h, LL0 h]
  refine ⟨4, up (f := fun k => dom_Of.f k []) (dom_Of.mono []) (k := 10) ?_ (by omega)⟩
  show dom_Of.f 10 [] = _
  decide +kernel
 ·
  rw [if_neg h]
  exact ⟨0, of_one h hk⟩
theorem dz_size (m : Fin 2048) : (DZ m).f4 = 0 ↔ m.val = 0 := by
 unfold DZ
 by_cases h : m.val = 0
 ·
  rw [if_pos h]; exact ⟨fun _ => h, fun _ => rfl⟩
 ·
  rw [if_neg h]; exact ⟨fun h' => absurd h' (size_all m h), fun h' => absurd h' h⟩
theorem domz_l0 (ms : List (Fin 2048)) (hl : ms.length ≤ 100) : ∀ (m j k : Nat), ms.length = j + m → m + 50 < k →
  jigsawlaw11_doms.l0 k ((ms.take j).map DZ) (ms.map LL) (ms.length : Int) (j : Int) = some (ms.map DZ)
 | 0, j, k + 1, e, _ => by
  rw [jigsawlaw11_doms.l0, ino_, List.take_of_length_le (by omega)]
 | m + 1, j, k + 1, e, hk => by
  have hj : j < ms.length := by omega
  obtain ⟨e', he⟩ := dz_of (ms.getD j 0) (k := k) (by omega)
  rw [jigsawlaw11_doms.l0, if_pos (nlt hj), ipo_, if_pos (by rw [List.length_map]; exact nlt hj), rdL_at, getD_map LL ms 0 [] hj, he, obs_, if_pos (by simp; omega), wsu_]
  have h := domz_l0 ms hl m (j + 1) k (by omega) (by omega)
  rw [← take_step ms 0 hj, List.map_append] at h
  exact h
theorem domz_f (ms : List (Fin 2048)) (hl : ms.length ≤ 100) {k : Nat} (hk : 200 ≤ k) : jigsawlaw11_doms.f k (ms.map LL) = some (ms.map DZ) := by
 have h := domz_l0 ms hl ms.length 0 k (by omega) (by omega)
 unfold jigsawlaw11_doms.f
 rw [List.length_map]
 exact h
def OkN (n : Nat) (A B C D E : List Int) (K : Int) : Prop := K = 0 ∧ A.length = n ∧ B = [] ∧ C = [] ∧ D = [] ∧ E = [] ∧ Bytes A
theorem rin_g (l : List Int) (hl : l.length ≤ 100) : ∀ (m j k : Nat), l.length = j + m → m < k → ∃ b : Bool, (b = true ↔ Bytes (l.drop j)) ∧ jigsawref06_in.l0 k l 0 255 (j : Int) = some b
 | 0, j, k + 1, e, _ => ⟨true, ⟨fun _ => by rw [List.drop_eq_nil_of_le (by omega)]; exact fun x hx => absurd hx List.not_mem_nil, fun _ => rfl⟩, by rw [jigsawref06_in.l0, ino_]⟩
 | m + 1, j, k + 1, e, hk => by
  have hj : j < l.length := by omega
  have hd : l.drop j = l.getD j 0 :: l.drop (j + 1) := by rw [getD_lt l 0 hj]; exact List.drop_eq_getElem_cons hj
  obtain ⟨b, hb, hr⟩ := rin_g l hl m (j + 1) k (by omega) (by omega)
  rw [jigsawref06_in.l0, if_pos (nlt hj), ipo_, rd_at, wsu_, hr, hd]
  by_cases h1 : l.getD j 0 < 0
  ·
   exact ⟨false, ⟨fun h => absurd h (by decide), fun h => by have := h _ List.mem_cons_self; omega⟩, by rw [if_pos h1]⟩
  ·
   by_cases h2 : l.getD j 0 > 255
   ·
    exact ⟨false, ⟨fun h => absurd h (by decide), fun h => by have := h _ List.mem_cons_self; omega⟩, by rw [if_neg h1, if_pos h2]⟩
   ·
    refine ⟨b, hb.trans ⟨fun h x hx => ?_, fun h x hx => h x (List.mem_cons_of_mem _ hx)⟩, by rw [if_neg h1, if_neg h2]⟩
    rcases List.mem_cons.1 hx with rfl | hx
    ·
     omega
    ·
     exact h x hx
theorem rin_f (l : List Int) (hl : l.length ≤ 100) {k : Nat} (hk : 200 ≤ k) : ∃ b : Bool, (b = true ↔ Bytes l) ∧ jigsawref06_in.f k l 0 255 = some b := by
 obtain ⟨b, h1, h2⟩ := rin_g l hl l.length 0 k (by omega) (by omega)
 exact ⟨b, h1, h2⟩
theorem in_nil (lo hi : Int) {k : Nat} (hk : 1 ≤ k) : jigsawref06_in.f k [] lo hi = some true := by
 obtain ⟨k, rfl⟩ : ∃ k', k = k' + 1 := ⟨k - 1, by omega⟩
 show jigsawref06_in.l0 (k + 1) [] lo hi 0 = _
 rw [jigsawref06_in.l0, ind_]
theorem len0 {l : List Int} : (l.length : Int) = 0 ↔ l = [] := by rw [← List.length_eq_zero_iff]; omega
theorem j1_no (s : ByteArray) (kd : Int) (A B C D E : List Int) (K : Int) {k : Nat} (hk : 1 ≤ k) : jigsawref06_Arity.j1 k s true kd A B C D E K [] = some false := by
 obtain ⟨k, rfl⟩ : ∃ k', k = k' + 1 := ⟨k - 1, by omega⟩
 rw [jigsawref06_Arity.j1, if_pos rfl]
theorem rarity_g (kd : Int) (n : Nat) (hd : Kind kd n) (A B C D E : List Int) (K : Int) {k : Nat} (hk : 30 ≤ k) : ∃ b : Bool, (b = true ↔ K = 0 ∧ A.length = n ∧ B = [] ∧ C = [] ∧ D = [] ∧ E = []) ∧ jigsawref06_Arity.f k kd A B C D E K [] (shape n) = some b := by
 have key : jigsawref06_has.f 6 (shape n) 118 = some (n : Int) → jigsawref06_has.f 6 (shape n) 86 = some 0 → jigsawref06_has.f 6 (shape n) 119 = some 0 → jigsawref06_has.f 6 (shape n) 87 = some 0 → jigsawref06_has.f 6 (shape n) 99 = some 0 → jigsawref06_has.f 6 (shape n) 100 = some 0 → jigsawref06_has.f 6 (shape n) 101 = some 0 → jigsawref06_has.f 6 (shape n) 114 = some 0 → jigsawref06_has.f 6 (shape n) 107 = some 0 → ∃ b : Bool, (b = true ↔ K = 0 ∧ A.length = n ∧ B = [] ∧ C = [] ∧ D = [] ∧ E = []) ∧ jigsawref06_Arity.f k kd A B C D E K [] (shape n) = some b := by
  intro e1 e2 e3 e4 e5 e6 e7 e8 e9
  have hkd : kd ≠ 12 ∧ ¬ kd ≤ 4 ∧ kd ≠ 19 ∧ kd ≠ 21 ∧ ¬ kd ≥ 22 := by have := of_kind hd; omega
  have no : ∀ P : Prop, ¬ P → ((false = true) ↔ P) := fun P h => ⟨fun h' => absurd h' (by decide), fun h' => absurd h' h⟩
  obtain ⟨k, rfl⟩ : ∃ k', k = k' + 2 := ⟨k - 2, by omega⟩
  unfold jigsawref06_Arity.f
  by_cases hK : K = 0
  ·
   rw [if_pos hK, jigsawref06_Arity.j0]
   unfold jigsawref06_list.f
   rw [ind_, if_neg hkd.1, has_f e1 (by omega), obs_, has_f e2 (by omega), obs_, ind_, obs_, has_f e3 (by omega), obs_, has_f e4 (by omega), obs_, ind_, obs_, has_f e5 (by omega), obs_, ind_, obs_, has_f e6 (by omega), obs_, ind_, obs_, has_f e7 (by omega), obs_, ind_, obs_]
   by_cases c1 : A.length = n
   ·
    rw [if_pos (by rw [c1]; exact beq_iff_eq.2 rfl)]
    by_cases c2 : (B.length : Int) = 0
    ·
     rw [if_pos (by rw [c2]; rfl)]
     by_cases c3 : (C.length : Int) = 0
     ·
      rw [if_pos (by rw [c3]; rfl)]
      by_cases c4 : (D.length : Int) = 0
      ·
       rw [if_pos (by rw [c4]; rfl)]
       by_cases c5 : (E.length : Int) = 0
       ·
        rw [c5]
        refine ⟨true, ⟨fun _ => ⟨hK, c1, len0.1 c2, len0.1 c3, len0.1 c4, len0.1 c5⟩, fun _ => rfl⟩, ?_⟩
        rw [jigsawref06_Arity.j1, ind_, has_f e8 (by omega), obs_, if_pos rfl, ind_, obs_, ind_, if_neg hkd.2.1, if_neg hkd.2.2.1, if_neg hkd.2.2.2.1, if_neg hkd.2.2.2.2]
        obtain ⟨k, rfl⟩ : ∃ k', k = k' + 1 := ⟨k - 1, by omega⟩
        rw [jigsawref06_Arity.l0, ind_]
       ·
        exact ⟨false, no _ (fun h => c5 (len0.2 h.2.2.2.2.2)), by rw [show ((E.length : Int) == 0) = false from beq_eq_false_iff_ne.2 c5]; exact j1_no _ _ _ _ _ _ _ _ (by omega)⟩
      ·
       exact ⟨false, no _ (fun h => c4 (len0.2 h.2.2.2.2.1)), by rw [if_neg (by rw [beq_iff_eq]; exact c4)]; exact j1_no _ _ _ _ _ _ _ _ (by omega)⟩
     ·
      exact ⟨false, no _ (fun h => c3 (len0.2 h.2.2.2.1)), by rw [if_neg (by rw [beq_iff_eq]; exact c3)]; exact j1_no _ _ _ _ _ _ _ _ (by omega)⟩
    ·
     exact ⟨false, no _ (fun h => c2 (len0.2 h.2.2.1)), by rw [if_neg (by rw [beq_iff_eq]; exact c2)]; exact j1_no _ _ _ _ _ _ _ _ (by omega)⟩
   ·
    exact ⟨false, no _ (fun h => c1 h.2.1), by rw [if_neg (by rw [beq_iff_eq]; omega)]; exact j1_no _ _ _ _ _ _ _ _ (by omega)⟩
  ·
   rw [if_neg hK, has_f e9 (by omega), obs_, jigsawref06_Arity.j0, if_pos (by decide)]
   exact ⟨false, no _ (fun h => hK h.1), rfl⟩
 rcases hd with ⟨rfl, rfl⟩ | ⟨rfl, rfl⟩ | ⟨rfl, rfl⟩ <;>
 exact key (by decide +kernel) (by decide +kernel) (by decide +kernel) (by decide +kernel) (by decide +kernel) (by decide +kernel) (by decide +kernel) (by decide +kernel) (by decide +kernel)
theorem rright_g (kd : Int) (n : Nat) (hd : Kind kd n) (A B C D E : List Int) (K : Int) (hA : A.length ≤ 5) (hB : B.length ≤ 5) {k : Nat} (hk : 400 ≤ k) : ∃ e : Int, (e = 0 ↔ OkN n A B C D E K) ∧ jigsawref06_Right.f k kd A B C D E K [] 256 = some e := by
 have hs : jigsawref06_Shapes.f = some ((jigsawref06_Shapes.f).getD []) := by rfl
 have hlen : ((jigsawref06_Shapes.f).getD []).length = 24 := by decide +kernel
 have hv : rdOf ByteArray.empty ((jigsawref06_Shapes.f).getD []) kd = shape n := by rcases hd with ⟨rfl, rfl⟩ | ⟨rfl, rfl⟩ | ⟨rfl, rfl⟩ <;> rfl
 have hkd : ¬ kd < 1 ∧ ¬ kd > 23 ∧ kd ≠ 19 ∧ kd ≠ 21 ∧ 0 ≤ kd ∧ kd < 24 := by have := of_kind hd; omega
 have e5 : wrap64 (256 - 1) = 255 := by decide +kernel
 obtain ⟨b, hb, ha⟩ := rarity_g kd n hd A B C D E K (k := k) (by omega)
 obtain ⟨x, hx, hxr⟩ := rin_f A (by omega) (k := k) (by omega)
 obtain ⟨y, hy, hyr⟩ := rin_f B (by omega) (k := k) (by omega)
 unfold jigsawref06_Right.f
 rw [if_neg hkd.1, if_neg hkd.2.1, hs, obs_, hlen, if_pos hkd.2.2.2.2.1, ipo_, hv, ha, obs_]
 cases b with
 | false =>
  refine ⟨10, ⟨fun h => absurd h (by decide), fun h => ?_⟩, by rw [ind_]⟩
  have := hb.2 ⟨h.1, h.2.1, h.2.2.1, h.2.2.2.1, h.2.2.2.2.1, h.2.2.2.2.2.1⟩
  cases this
 | true =>
  obtain ⟨rfl, h1, rfl, rfl, rfl, rfl⟩ := hb.1 rfl
  rw [if_pos rfl, if_pos (by decide), e5, hxr, obs_, hyr, obs_]
  obtain ⟨k, rfl⟩ : ∃ k', k = k' + 1 := ⟨k - 1, by omega⟩
  have hc : jigsawref06_Coefs.f k kd A [] [] [] [] 0 [] = some true := by
   obtain ⟨k, rfl⟩ : ∃ k', k = k' + 2 := ⟨k - 2, by omega⟩
   unfold jigsawref06_Coefs.f
   rw [if_neg hkd.2.2.1, if_neg hkd.2.2.2.1, in_nil _ _ (by omega), obs_, obs_, obs_, if_pos rfl, if_pos rfl, if_pos rfl, ind_, ind_, jigsawref06_Coefs.l0, ind_, jigsawref06_Coefs.l1, if_neg hkd.2.2.2.1]
  have hy1 : y = true := hy.2 (fun x hx => absurd hx List.not_mem_nil)
  subst hy1
  cases x with
  | false => exact ⟨7, ⟨fun h => absurd h (by decide), fun h => absurd (hx.2 h.2.2.2.2.2.2) (by decide)⟩, by rw [ind_, jigsawref06_Right.j0, if_pos rfl]⟩
  | true => exact ⟨0, ⟨fun _ => ⟨rfl, h1, rfl, rfl, rfl, rfl, hx.1 rfl⟩, fun _ => rfl⟩, by rw [if_pos rfl, jigsawref06_Right.j0, ind_, hc, obs_, if_pos rfl]⟩
theorem idx_right_g (l : List Int) (hl : l.length ≤ 100) : ∀ (m j k : Nat), l.length = j + m → m < k → ∃ i : Int, (i < 0 ↔ Bytes (l.drop j)) ∧ slices_IndexFunc_int_int_101_at_model_Right_1.l0 k l (l.length : Int) (j : Int) 256 = some i
 | 0, j, k + 1, e, _ => ⟨-1, ⟨fun _ => by rw [List.drop_eq_nil_of_le (by omega)]; exact fun x hx => absurd hx List.not_mem_nil, fun _ => by decide⟩, by rw [slices_IndexFunc_int_int_101_at_model_Right_1.l0, ino_]⟩
 | m + 1, j, k + 1, e, hk => by
  have hj : j < l.length := by omega
  have hd : l.drop j = l.getD j 0 :: l.drop (j + 1) := by rw [getD_lt l 0 hj]; exact List.drop_eq_getElem_cons hj
  obtain ⟨b, hb, hr⟩ := idx_right_g l hl m (j + 1) k (by omega) (by omega)
  rw [slices_IndexFunc_int_int_101_at_model_Right_1.l0, if_pos (nlt hj), ipo_, if_pos (nlt hj), rd_at, wsu_, hr, hd]
  unfold model_Right_1.f
  by_cases h1 : l.getD j 0 < 0
  ·
   exact ⟨j, ⟨fun h => absurd h (by omega), fun h => by have := h _ List.mem_cons_self; omega⟩, by rw [if_pos h1, obs_, if_pos rfl]⟩
  ·
   by_cases h2 : l.getD j 0 ≥ 256
   ·
    exact ⟨j, ⟨fun h => absurd h (by omega), fun h => by have := h _ List.mem_cons_self; omega⟩, by rw [if_neg h1, obs_, if_pos (decide_eq_true h2)]⟩
   ·
    refine ⟨b, hb.trans ⟨fun h x hx => ?_, fun h x hx => h x (List.mem_cons_of_mem _ hx)⟩, by rw [if_neg h1, obs_, if_neg (by simpa using h2)]⟩
    rcases List.mem_cons.1 hx with rfl | hx
    ·
     omega
    ·
     exact h x hx
theorem vars_g (kd : Int) (A B : List Int) (C D E : List Int) (K : Int) (hA : A.length ≤ 5) (hB : B.length ≤ 5) {k : Nat} (hk : 20 ≤ k) : model_Vars.f k kd A B C D E K [] = some (A ++ B) := by
 obtain ⟨k, rfl⟩ : ∃ k', k = k' + 6 := ⟨k - 6, by omega⟩
 have r0 : rd_L7 [A, B] 0 = A := rfl
 have r1 : rd_L7 [A, B] 1 = B := rfl
 have e1 : wrap64 (0 + (A.length : Int)) = (A.length : Int) := by rw [wrap_id (by omega) (by omega)]; omega
 have e2 : wrap64 ((A.length : Int) + (B.length : Int)) = (A.length : Int) + B.length := wrap_id (by omega) (by omega)
 have w1 : wrap64 (0 + 1) = 1 := by decide +kernel
 have w2 : wrap64 (1 + 1) = 2 := by decide +kernel
 have hlen : (([A, B] : List (List Int)).length : Int) = 2 := rfl
 unfold model_Vars.f slices_Concat_int_int.f
 rw [hlen, slices_Concat_int_int.l0, if_pos (by decide), if_pos (by decide), hlen, if_pos (by decide), r0, e1, ino_, w1, slices_Concat_int_int.l0, if_pos (by decide), if_pos (by decide), hlen, if_pos (by decide), r1, e2, ino_, w2, slices_Concat_int_int.l0, ind_]
 have hg : slices_GrowNil.f ((A.length : Int) + B.length) = some [] := by unfold slices_GrowNil.f; rw [if_pos ⟨by omega, by omega⟩]
 rw [hg, obs_, hlen, slices_Concat_int_int.l1, if_pos (by decide), if_pos (by decide), hlen, if_pos (by decide), r0, if_pos (by simp; omega), w1, slices_Concat_int_int.l1, if_pos (by decide), if_pos (by decide), hlen, if_pos (by decide), r1, if_pos (by simp; omega), w2, slices_Concat_int_int.l1, ind_, obs_]
 simp
theorem bounded_f {a : Int} {k : Nat} (hk : 5 ≤ k) : model_bounded.f k [] a = some true := by
 obtain ⟨k, rfl⟩ : ∃ k', k = k' + 1 := ⟨k - 1, by omega⟩
 unfold model_bounded.f slices_ContainsFunc_int_int_70_at_model_bounded_1.f slices_IndexFunc_int_int_101_at_model_bounded_1.f
 rw [slices_IndexFunc_int_int_101_at_model_bounded_1.l0, ind_, obs_, obs_]
 rfl
theorem mcounted_g (kd : Int) (n : Nat) (hd : Kind kd n) (A B C D E : List Int) (K : Int) : ∃ b : Bool, (b = true ↔ A.length = n ∧ B = [] ∧ C = [] ∧ D = [] ∧ E = []) ∧ model_counted.f kd A B C D E K [] (shape n) = some b := by
 have h0 : kd ≠ 12 := by have := of_kind hd; omega
 have named : ∀ (x m : Int) (c d : UInt8), Lib.indexByte (shape n).data.toList d < 0 → (Lib.countByte (shape n).data.toList c : Int) = m → model_named.f x (shape n) ⟨#[c]⟩ ⟨#[d]⟩ = some (x == m) := by
  intro x m c d h1 h2
  unfold model_named.f
  rw [show strings_Contains.f (shape n) ⟨#[d]⟩ = some (decide (0 ≤ Lib.indexByte (shape n).data.toList d)) from rfl, obs_, if_neg (by simp; omega), show strings_Count.f (shape n) ⟨#[c]⟩ = some ((Lib.countByte (shape n).data.toList c : Nat) : Int) from rfl, obs_, h2]
 have key : strings_Contains.f (shape n) ⟨#[114]⟩ = some false → model_named.f (A.length : Int) (shape n) ⟨#[118]⟩ ⟨#[86]⟩ = some ((A.length : Int) == (n : Int)) → (∀ x : Int, model_named.f x (shape n) ⟨#[119]⟩ ⟨#[87]⟩ = some (x == 0)) → (∀ x : Int, model_named.f x (shape n) ⟨#[45]⟩ ⟨#[99]⟩ = some (x == 0)) → (∀ x : Int, model_named.f x (shape n) ⟨#[45]⟩ ⟨#[100]⟩ = some (x == 0)) → (∀ x : Int, model_named.f x (shape n) ⟨#[45]⟩ ⟨#[101]⟩ = some (x == 0)) → ∃ b : Bool, (b = true ↔ A.length = n ∧ B = [] ∧ C = [] ∧ D = [] ∧ E = []) ∧ model_counted.f kd A B C D E K [] (shape n) = some b := by
  intro e0 e1 e2 e3 e4 e5
  have no : ∀ P : Prop, ¬ P → ((false = true) ↔ P) := fun P h => ⟨fun h' => absurd h' (by decide), fun h' => absurd h' h⟩
  have ne : ∀ x : Int, ¬ x = 0 → ¬ (x == 0) = true := fun x h => by rw [beq_iff_eq]; exact h
  unfold model_counted.f
  rw [if_neg h0, e0, obs_, ind_, if_pos (by decide), e1, obs_]
  by_cases c1 : A.length = n
  ·
   rw [if_pos (by rw [c1]; exact beq_iff_eq.2 rfl), e2, obs_]
   by_cases c2 : (B.length : Int) = 0
   ·
    rw [if_pos (by rw [c2]; rfl), e3, obs_]
    by_cases c3 : (C.length : Int) = 0
    ·
     rw [if_pos (by rw [c3]; rfl), e4, obs_]
     by_cases c4 : (D.length : Int) = 0
     ·
      rw [if_pos (by rw [c4]; rfl), e5, obs_]
      refine ⟨_, ?_, rfl⟩
      rw [beq_iff_eq]
      exact ⟨fun h => ⟨c1, len0.1 c2, len0.1 c3, len0.1 c4, len0.1 h⟩, fun h => len0.2 h.2.2.2.2⟩
     ·
      exact ⟨false, no _ (fun h => c4 (len0.2 h.2.2.2.1)), by rw [if_neg (ne _ c4)]⟩
    ·
     exact ⟨false, no _ (fun h => c3 (len0.2 h.2.2.1)), by rw [if_neg (ne _ c3)]⟩
   ·
    exact ⟨false, no _ (fun h => c2 (len0.2 h.2.1)), by rw [if_neg (ne _ c2)]⟩
  ·
   exact ⟨false, no _ (fun h => c1 h.1), by rw [if_neg (by rw [beq_iff_eq]; omega)]⟩
 rcases hd with ⟨rfl, rfl⟩ | ⟨rfl, rfl⟩ | ⟨rfl, rfl⟩ <;>
 exact key (by decide +kernel) (named _ _ 118 86 (by decide +kernel) (by decide +kernel)) (fun x => named x 0 119 87 (by decide +kernel) (by decide +kernel)) (fun x => named x 0 45 99 (by decide +kernel) (by decide +kernel)) (fun x => named x 0 45 100 (by decide +kernel) (by decide +kernel)) (fun x => named x 0 45 101 (by decide +kernel) (by decide +kernel))
theorem mright_g (kd : Int) (n : Nat) (hd : Kind kd n) (A B C D E : List Int) (K : Int) (hA : A.length ≤ 5) (hB : B.length ≤ 5) {k : Nat} (hk : 300 ≤ k) : ∃ e : Int, (e = 0 ↔ OkN n A B C D E K) ∧ model_Right.f k kd A B C D E K [] 256 = some e := by
 obtain ⟨k, rfl⟩ : ∃ k', k = k' + 1 := ⟨k - 1, by omega⟩
 have hkd : kd ≠ 19 ∧ kd ≠ 21 := by have := of_kind hd; omega
 have hs : model_Shape.f kd = some (shape n) := by rcases hd with ⟨rfl, rfl⟩ | ⟨rfl, rfl⟩ | ⟨rfl, rfl⟩ <;> decide +kernel
 have hne : ¬ (shape n).toList = ([] : List UInt8) := by rcases hd with ⟨rfl, rfl⟩ | ⟨rfl, rfl⟩ | ⟨rfl, rfl⟩ <;> decide +kernel
 have hct : strings_Contains.f (shape n) (⟨#[107]⟩ : ByteArray) = some false := by rcases hd with ⟨rfl, rfl⟩ | ⟨rfl, rfl⟩ | ⟨rfl, rfl⟩ <;> decide +kernel
 have ha : model_alike.f kd A B C D E K [] = some true := by
  unfold model_alike.f
  rcases hd with ⟨rfl, rfl⟩ | ⟨rfl, rfl⟩ | ⟨rfl, rfl⟩ <;>
  rw [ind_, ind_, ind_, ind_, ind_, ind_, ind_, ind_, ind_]
 obtain ⟨b, hb, hcr⟩ := mcounted_g kd n hd A B C D E K
 unfold model_Right.f
 rw [hs, obs_, if_neg hne, hcr, obs_]
 cases b with
 | false =>
  refine ⟨10, ⟨fun h => absurd h (by decide), fun h => ?_⟩, by rw [ind_, model_Right.j0, if_pos rfl]⟩
  have := hb.2 ⟨h.2.1, h.2.2.1, h.2.2.2.1, h.2.2.2.2.1, h.2.2.2.2.2.1⟩
  cases this
 | true =>
  obtain ⟨h1, rfl, rfl, rfl, rfl⟩ := hb.1 rfl
  rw [if_pos rfl, ha, obs_, if_pos rfl]
  by_cases hK : K = 0
  ·
   subst hK
   rw [if_pos rfl, model_Right.j0, ind_, vars_g kd A [] [] [] [] 0 hA hB (by omega), obs_, List.append_nil]
   obtain ⟨i, hi, hir⟩ := idx_right_g A (by omega) A.length 0 k (by omega) (by omega)
   have hir' : slices_IndexFunc_int_int_101_at_model_Right_1.l0 k A (A.length : Int) 0 256 = some i := hir
   have hco : slices_ContainsFunc_int_int_70_at_model_Right_1.f k A 256 = some (decide (i ≥ 0)) := by
    unfold slices_ContainsFunc_int_int_70_at_model_Right_1.f slices_IndexFunc_int_int_101_at_model_Right_1.f
    rw [hir', obs_]
   rw [List.drop_zero] at hi
   have hnum : model_numbers.f k kd A [] [] [] [] 0 [] = some true := by
    obtain ⟨k, rfl⟩ : ∃ k', k = k' + 1 := ⟨k - 1, by omega⟩
    unfold model_numbers.f
    rw [if_neg hkd.1, if_neg hkd.2, model_numbers.l0, ind_, bounded_f (by omega), obs_, if_pos rfl, obs_, if_pos rfl, obs_, if_pos rfl, if_pos (by decide)]
    rfl
   have hcn : model_counts.f kd A [] [] [] [] 0 [] = some true := by unfold model_counts.f; rw [if_neg hkd.2]
   rw [hco, obs_]
   by_cases h2 : i ≥ 0
   ·
    exact ⟨7, ⟨fun h => absurd h (by decide), fun h => by have := hi.2 h.2.2.2.2.2.2; omega⟩, by rw [if_pos (decide_eq_true h2)]⟩
   ·
    have h3 := hi.1 (by omega)
    exact ⟨0, ⟨fun _ => ⟨rfl, h1, rfl, rfl, rfl, rfl, h3⟩, fun _ => rfl⟩, by rw [if_neg (by simpa using h2), hnum, obs_, if_pos rfl, hcn, obs_, if_pos rfl]⟩
  ·
   rw [if_neg hK, hct, obs_, model_Right.j0, if_pos (by decide)]
   exact ⟨10, ⟨fun h => absurd h (by decide), fun h => absurd h.1 hK⟩, rfl⟩
def Small (v : Int) : Prop := -5 ≤ v ∧ v ≤ 5
def quo (x y : Int) : Int × Bool := if y = 0 then (0, false) else (Int.tdiv x y, true)
def rmd (x y : Int) : Int × Bool := if y = 0 then (0, false) else (Int.tmod x y, true)
theorem by_two {P : Int → Int → Prop} (h : ∀ i : Fin 11, ∀ j : Fin 11, P ((i.val : Int) - 5) ((j.val : Int) - 5)) {x y : Int} (hx : Small x) (hy : Small y) : P x y := by
 unfold Small at hx hy
 have := h ⟨(x + 5).toNat, by omega⟩ ⟨(y + 5).toNat, by omega⟩
 simp only [] at this
 rwa [show (((x + 5).toNat : Nat) : Int) - 5 = x by omega, show (((y + 5).toNat : Nat) : Int) - 5 = y by omega] at this
def gmul (x y : Int) : Int × Bool := (x * y, true)
theorem mul_near : ∀ i : Fin 11, ∀ j : Fin 11, num_Mul.f 5 ((i.val : Int) - 5) ((j.val : Int) - 5) = some (gmul ((i.val : Int) - 5) ((j.val : Int) - 5)) := by decide +kernel
theorem quo_near : ∀ i : Fin 11, ∀ j : Fin 11, num_Quo.f ((i.val : Int) - 5) ((j.val : Int) - 5) = some (quo ((i.val : Int) - 5) ((j.val : Int) - 5)) := by decide +kernel
theorem rmd_near : ∀ i : Fin 11, ∀ j : Fin 11, num_Rem.f ((i.val : Int) - 5) ((j.val : Int) - 5) = some (rmd ((i.val : Int) - 5) ((j.val : Int) - 5)) := by decide +kernel
theorem mul_f {x y : Int} (hx : Small x) (hy : Small y) {k : Nat} (hk : 5 ≤ k) : num_Mul.f k x y = some (gmul x y) := up (f := fun k => num_Mul.f k x y) (num_Mul.mono x y) (by_two (P := fun x y => num_Mul.f 5 x y = some (gmul x y)) mul_near hx hy) hk
theorem quo_f {x y : Int} (hx : Small x) (hy : Small y) : num_Quo.f x y = some (quo x y) := by_two (P := fun x y => num_Quo.f x y = some (quo x y)) quo_near hx hy
theorem rmd_f {x y : Int} (hx : Small x) (hy : Small y) : num_Rem.f x y = some (rmd x y) := by_two (P := fun x y => num_Rem.f x y = some (rmd x y)) rmd_near hx hy
theorem rng_near : ∀ i : Fin 11, ∀ j : Fin 11, (-30 ≤ (gmul ((i.val : Int) - 5) ((j.val : Int) - 5)).1 ∧ (gmul ((i.val : Int) - 5) ((j.val : Int) - 5)).1 ≤ 30) ∧ (-30 ≤ (quo ((i.val : Int) - 5) ((j.val : Int) - 5)).1 ∧ (quo ((i.val : Int) - 5) ((j.val : Int) - 5)).1 ≤ 30) ∧ (-30 ≤ (rmd ((i.val : Int) - 5) ((j.val : Int) - 5)).1 ∧ (rmd ((i.val : Int) - 5) ((j.val : Int) - 5)).1 ≤ 30) := by decide +kernel
theorem rng_f {x y : Int} (hx : Small x) (hy : Small y) : (-30 ≤ (gmul x y).1 ∧ (gmul x y).1 ≤ 30) ∧ (-30 ≤ (quo x y).1 ∧ (quo x y).1 ≤ 30) ∧ (-30 ≤ (rmd x y).1 ∧ (rmd x y).1 ≤ 30) := by_two (P := fun x y => (-30 ≤ (gmul x y).1 ∧ (gmul x y).1 ≤ 30) ∧ (-30 ≤ (quo x y).1 ∧ (quo x y).1 ≤ 30) ∧ (-30 ≤ (rmd x y).1 ∧ (rmd x y).1 ≤ 30)) rng_near hx hy
theorem rng_mul {x y : Int} (hx : Small x) (hy : Small y) : -30 ≤ (gmul x y).1 ∧ (gmul x y).1 ≤ 30 := (rng_f hx hy).1
theorem rng_quo {x y : Int} (hx : Small x) (hy : Small y) : -30 ≤ (quo x y).1 ∧ (quo x y).1 ≤ 30 := (rng_f hx hy).2.1
theorem rng_rmd {x y : Int} (hx : Small x) (hy : Small y) : -30 ≤ (rmd x y).1 ∧ (rmd x y).1 ≤ 30 := (rng_f hx hy).2.2
def col (T : List (List Int)) (i : Nat) : List Int := T.map fun r => r.getD i 0
theorem col_app (T U : List (List Int)) (i : Nat) : col (T ++ U) i = col T i ++ col U i := by simp [col]
theorem col_len (T : List (List Int)) (i : Nat) : (col T i).length = T.length := by simp [col]
theorem mem_col {T : List (List Int)} {i : Nat} {v : Int} : v ∈ col T i ↔ ∃ r, r ∈ T ∧ r.getD i 0 = v := by simp [col]
theorem of_none {k : Nat} (hk : 10 ≤ k) : dom_Of.f k [] = some (0, [], 0, 0, 0, 4) := by
 refine up (f := fun k => dom_Of.f k []) (dom_Of.mono []) (k := 10) ?_ hk
 show dom_Of.f 10 [] = _
 decide +kernel
theorem made_l0 (Ls : List (List Int)) (hs : ∀ l ∈ Ls, l ≠ [] ∧ l.length ≤ 1000 ∧ Near l) (hl : Ls.length ≤ 100) : ∀ (m j k : Nat), Ls.length = j + m → m + 1100 < k →
  prop_Made.l0 k ((Ls.take j).map fun l => D (mk l)) Ls (Ls.length : Int) (j : Int) = some (Ls.map fun l => D (mk l), true)
 | 0, j, k + 1, e, _ => by
  rw [prop_Made.l0, ino_, List.take_of_length_le (by omega)]
 | m + 1, j, k + 1, e, hk => by
  have hj : j < Ls.length := by omega
  obtain ⟨h1, h2, h3⟩ := hs _ (getD_mem Ls [] hj)
  rw [prop_Made.l0, if_pos (nlt hj), ipo_, if_pos (nlt hj), rdL_at, of_list _ h1 (by omega) h3 (by omega), obs_, if_pos rfl, if_pos (by simp; omega), wsu_]
  have h := made_l0 Ls hs hl m (j + 1) k (by omega) (by omega)
  rw [← take_step Ls [] hj, List.map_append] at h
  exact h
def made (n : Nat) (T : List (List Int)) : List S61 × Bool := if T = [] then ([], false) else ((List.range n).map fun i => D (mk (col T i)), true)
theorem made_f (n : Nat) (hn : 1 ≤ n ∧ n ≤ 4) (T : List (List Int)) (hT : T.length ≤ 1000) (hr : ∀ i, i < n → Near (col T i)) {k : Nat} (hk : 1200 ≤ k) : prop_Made.f k ((List.range n).map (col T)) = some (made n T) := by
 unfold prop_Made.f made
 by_cases h : T = []
 ·
  obtain ⟨k, rfl⟩ : ∃ k', k = k' + 1 := ⟨k - 1, by omega⟩
  have h0 : rd_L7 ((List.range n).map (col T)) 0 = [] := by
   show ((List.range n).map (col T)).getD 0 [] = []
   rw [getD_map (col T) (List.range n) 0 [] (by rw [List.length_range]; exact hn.1), h]; rfl
  rw [if_pos h, prop_Made.l0, if_pos (by simp; omega), if_pos (by decide), if_pos (by simp; omega), h0, of_none (by omega), obs_, ind_]
 ·
  rw [if_neg h]
  have hm := made_l0 ((List.range n).map (col T)) (fun l hl => by
   obtain ⟨i, hi, rfl⟩ := List.mem_map.1 hl
   refine ⟨fun h' => h ?_, by rw [col_len]; exact hT, hr i (List.mem_range.1 hi)⟩
   have := col_len T i
   rw [h'] at this
   exact List.length_eq_zero_iff.1 this.symm) (by simp; omega) ((List.range n).map (col T)).length 0 k (by omega) (by simp; omega)
  rw [List.map_map] at hm
  exact hm
def rowsOf (g : Int → Int → Int × Bool) (Z : List Int) (v : Int) (Y : List Int) : List (List Int) := Y.filterMap fun w => if (g v w).2 && decide ((g v w).1 ∈ Z) then some [v, w, (g v w).1] else none
def trips (g : Int → Int → Int × Bool) (X Y Z : List Int) : List (List Int) := X.flatMap fun v => rowsOf g Z v Y
theorem mem_trips {g : Int → Int → Int × Bool} {X Y Z : List Int} {r : List Int} : r ∈ trips g X Y Z ↔ ∃ v w, r = [v, w, (g v w).1] ∧ v ∈ X ∧ w ∈ Y ∧ (g v w).1 ∈ Z ∧ (g v w).2 = true := by
 unfold trips rowsOf
 rw [List.mem_flatMap]
 constructor
 ·
  rintro ⟨v, hv, hr⟩
  obtain ⟨w, hw, h⟩ := List.mem_filterMap.1 hr
  split at h
  ·
   rename_i hc
   rw [Bool.and_eq_true, decide_eq_true_iff] at hc
   exact ⟨v, w, (Option.some.inj h).symm, hv, hw, hc.2, hc.1⟩
  ·
   cases h
 ·
  rintro ⟨v, w, rfl, hv, hw, hz, hb⟩
  refine ⟨v, hv, List.mem_filterMap.2 ⟨w, hw, ?_⟩⟩
  rw [if_pos (by rw [Bool.and_eq_true, decide_eq_true_iff]; exact ⟨hb, hz⟩)]
theorem rows_len (g : Int → Int → Int × Bool) (Z : List Int) (v : Int) (Y : List Int) : (rowsOf g Z v Y).length ≤ Y.length := List.length_filterMap_le _ _
theorem rows_pos {g : Int → Int → Int × Bool} {Z : List Int} {v w : Int} {Y : List Int} (h : (g v w).2 = true) (hz : (g v w).1 ∈ Z) : rowsOf g Z v (w :: Y) = [[v, w, (g v w).1]] ++ rowsOf g Z v Y := by
 unfold rowsOf
 rw [List.filterMap_cons_some (b := [v, w, (g v w).1]) (by rw [if_pos (by rw [Bool.and_eq_true, decide_eq_true_iff]; exact ⟨h, hz⟩)])]
 rfl
theorem rows_neg {g : Int → Int → Int × Bool} {Z : List Int} {v w : Int} {Y : List Int} (h : ¬ ((g v w).2 = true ∧ (g v w).1 ∈ Z)) : rowsOf g Z v (w :: Y) = rowsOf g Z v Y := by
 unfold rowsOf
 rw [List.filterMap_cons_none (by rw [if_neg (by rw [Bool.and_eq_true, decide_eq_true_iff]; exact h)])]
def Lists (ls : List (List Int)) : Prop := ls.length ≤ 8 ∧ ∀ l ∈ ls, 0 < l.length ∧ l.length ≤ 11
theorem Lists.at {ls : List (List Int)} (h : Lists ls) {i : Nat} (hi : i < ls.length) : 0 < (ls.getD i []).length ∧ (ls.getD i []).length ≤ 11 :=
 h.2 _ (by rw [getD_lt _ _ hi]; exact List.getElem_mem _)
theorem pl1_g {φ : Nat → Int → Int → Option (Int × Bool)} {g : Int → Int → Int × Bool} (hφ : ∀ {v w : Int}, Small v → Small w → ∀ {k : Nat}, 5 ≤ k → φ k v w = some (g v w)) (hg : ∀ {v w : Int}, Small v → Small w → -30 ≤ (g v w).1 ∧ (g v w).1 ≤ 30) (mx_ my mz : Fin 2048) (i : Nat) (hi : i < (LL mx_).length) : ∀ (m j k : Nat) (acc : List (List Int)), (LL my).length = j + m → m + 30 < k → acc.length + m ≤ 500 →
  ∃ k', k' + m + 1 = k ∧ pPairs.l1 φ k (col acc 0) (col acc 1) (col acc 2) ((LL mx_).getD i 0) (LL mx_) ((LL mx_).length : Int) (i : Int) (LL my) ((LL my).length : Int) (j : Int) (D my).f0 (D my).f1 (D my).f2 (D my).f3 (D my).f4 (D mz).f0 (D mz).f1 (D mz).f2 (D mz).f3 (D mz).f4 =
   pPairs.l0 φ k' (col (acc ++ rowsOf g (LL mz) ((LL mx_).getD i 0) ((LL my).drop j)) 0) (col (acc ++ rowsOf g (LL mz) ((LL mx_).getD i 0) ((LL my).drop j)) 1) (col (acc ++ rowsOf g (LL mz) ((LL mx_).getD i 0) ((LL my).drop j)) 2) (LL mx_) ((LL mx_).length : Int) (((i + 1 : Nat)) : Int) (D my).f0 (D my).f1 (D my).f2 (D my).f3 (D my).f4 (D mz).f0 (D mz).f1 (D mz).f2 (D mz).f3 (D mz).f4
 | 0, j, k + 1, acc, e, hk, ha => by
  have h11 := (len_all mx_).1
  refine ⟨k, rfl, ?_⟩
  rw [pPairs.l1, ino_, wsu_, List.drop_eq_nil_of_le (by omega), show rowsOf g (LL mz) ((LL mx_).getD i 0) [] = [] from rfl, List.append_nil]
 | m + 1, j, k + 1, acc, e, hk, ha => by
  have h11 := (len_all my).1
  have hj : j < (LL my).length := by omega
  have hv := near_LL mx_ _ (getD_mem (LL mx_) 0 hi)
  have hw := near_LL my _ (getD_mem (LL my) 0 hj)
  have hd : (LL my).drop j = (LL my).getD j 0 :: (LL my).drop (j + 1) := by rw [getD_lt (LL my) 0 hj]; exact List.drop_eq_getElem_cons hj
  have hcall : φ k ((LL mx_).getD i 0) ((LL my).getD j 0) = some (g ((LL mx_).getD i 0) ((LL my).getD j 0)) := hφ hv hw (by omega)
  have hrange := hg hv hw
  rw [pPairs.l1, if_pos (nlt hj), ipo_, if_pos (nlt hj), rd_at, hcall, obs_, wsu_, hd]
  by_cases hb : (g ((LL mx_).getD i 0) ((LL my).getD j 0)).2 = true
  ·
   rw [if_pos hb, has_far mz hrange, obs_]
   by_cases hz : (g ((LL mx_).getD i 0) ((LL my).getD j 0)).1 ∈ LL mz
   ·
    obtain ⟨k', h1, h2⟩ := pl1_g hφ hg mx_ my mz i hi m (j + 1) k (acc ++ [[(LL mx_).getD i 0, (LL my).getD j 0, (g ((LL mx_).getD i 0) ((LL my).getD j 0)).1]]) (by omega) (by omega) (by simp; omega)
    refine ⟨k', by omega, ?_⟩
    rw [if_pos (decide_eq_true hz), if_pos (by rw [col_len]; omega), if_pos (by rw [col_len]; omega), if_pos (by rw [col_len]; omega), rows_pos hb hz, ← List.append_assoc]
    rw [col_app acc, col_app acc, col_app acc] at h2
    exact h2
   ·
    obtain ⟨k', h1, h2⟩ := pl1_g hφ hg mx_ my mz i hi m (j + 1) k acc (by omega) (by omega) (by omega)
    refine ⟨k', by omega, ?_⟩
    rw [if_neg (by simpa using hz), rows_neg (fun h => hz h.2), h2]
  ·
   obtain ⟨k', h1, h2⟩ := pl1_g hφ hg mx_ my mz i hi m (j + 1) k acc (by omega) (by omega) (by omega)
   refine ⟨k', by omega, ?_⟩
   rw [if_neg hb, rows_neg (fun h => hb h.1), h2]
theorem pl0_g {φ : Nat → Int → Int → Option (Int × Bool)} {g : Int → Int → Int × Bool} (hφ : ∀ {v w : Int}, Small v → Small w → ∀ {k : Nat}, 5 ≤ k → φ k v w = some (g v w)) (hg : ∀ {v w : Int}, Small v → Small w → -30 ≤ (g v w).1 ∧ (g v w).1 ≤ 30) (mx_ my mz : Fin 2048) : ∀ (m j k : Nat) (T : List (List Int)), (LL mx_).length = j + m → 20 * m + 1300 < k → T.length + 11 * m ≤ 400 →
  ∃ k', 1200 ≤ k' ∧ pPairs.l0 φ k (col T 0) (col T 1) (col T 2) (LL mx_) ((LL mx_).length : Int) (j : Int) (D my).f0 (D my).f1 (D my).f2 (D my).f3 (D my).f4 (D mz).f0 (D mz).f1 (D mz).f2 (D mz).f3 (D mz).f4 =
   ((prop_Made.f k' ((List.range 3).map (col (T ++ trips g ((LL mx_).drop j) (LL my) (LL mz))))).bind fun bt => some (bt.1, bt.2)) ∧ (T ++ trips g ((LL mx_).drop j) (LL my) (LL mz)).length ≤ 400
 | 0, j, k + 1, T, e, hk, ha => by
  refine ⟨k, by omega, ?_, ?_⟩
  ·
   rw [pPairs.l0, ino_, List.drop_eq_nil_of_le (by omega), show trips g [] (LL my) (LL mz) = [] from rfl, List.append_nil]
   rfl
  ·
   rw [List.drop_eq_nil_of_le (by omega), show trips g [] (LL my) (LL mz) = [] from rfl, List.append_nil]; omega
 | m + 1, j, k + 1, T, e, hk, ha => by
  have h11 := (len_all my).1
  have h12 := (len_all mx_).1
  have hj : j < (LL mx_).length := by omega
  obtain ⟨k1, h1, h2⟩ := pl1_g hφ hg mx_ my mz j hj (LL my).length 0 k T (by omega) (by omega) (by omega)
  have h2' : pPairs.l1 φ k (col T 0) (col T 1) (col T 2) ((LL mx_).getD j 0) (LL mx_) ((LL mx_).length : Int) (j : Int) (LL my) ((LL my).length : Int) 0 (D my).f0 (D my).f1 (D my).f2 (D my).f3 (D my).f4 (D mz).f0 (D mz).f1 (D mz).f2 (D mz).f3 (D mz).f4 = _ := h2
  have hd : (LL mx_).drop j = (LL mx_).getD j 0 :: (LL mx_).drop (j + 1) := by rw [getD_lt (LL mx_) 0 hj]; exact List.drop_eq_getElem_cons hj
  have hlen := rows_len g (LL mz) ((LL mx_).getD j 0) (LL my)
  obtain ⟨k', h3, h4, h5⟩ := pl0_g hφ hg mx_ my mz m (j + 1) k1 (T ++ rowsOf g (LL mz) ((LL mx_).getD j 0) (LL my)) (by omega) (by omega) (by rw [List.length_append]; omega)
  have et : T ++ trips g ((LL mx_).drop j) (LL my) (LL mz) = T ++ rowsOf g (LL mz) ((LL mx_).getD j 0) (LL my) ++ trips g ((LL mx_).drop (j + 1)) (LL my) (LL mz) := by
   rw [hd, List.append_assoc]; rfl
  refine ⟨k', h3, ?_, by rw [et]; exact h5⟩
  rw [pPairs.l0, if_pos (nlt hj), ipo_, if_pos (nlt hj), list_one my (by omega), obs_, rd_at, h2', List.drop_zero, et]
  exact h4
theorem pf_g {φ : Nat → Int → Int → Option (Int × Bool)} {g : Int → Int → Int × Bool} (hφ : ∀ {v w : Int}, Small v → Small w → ∀ {k : Nat}, 5 ≤ k → φ k v w = some (g v w)) (hg : ∀ {v w : Int}, Small v → Small w → -30 ≤ (g v w).1 ∧ (g v w).1 ≤ 30) (mx_ my mz : Fin 2048) {k : Nat} (hk : 1600 ≤ k) : ∃ T, (∀ r, r ∈ T ↔ ∃ v w, r = [v, w, (g v w).1] ∧ v ∈ LL mx_ ∧ w ∈ LL my ∧ (g v w).1 ∈ LL mz ∧ (g v w).2 = true) ∧
  pPairs.f φ k (D mx_).f0 (D mx_).f1 (D mx_).f2 (D mx_).f3 (D mx_).f4 (D my).f0 (D my).f1 (D my).f2 (D my).f3 (D my).f4 (D mz).f0 (D mz).f1 (D mz).f2 (D mz).f3 (D mz).f4 = some (made 3 T) := by
 have h11 := (len_all mx_).1
 obtain ⟨k', h1, h2, h3⟩ := pl0_g hφ hg mx_ my mz (LL mx_).length 0 k [] (by omega) (by omega) (by simp; omega)
 rw [List.drop_zero, List.nil_append] at h2 h3
 have hm : ∀ r, r ∈ trips g (LL mx_) (LL my) (LL mz) ↔ _ := fun r => mem_trips
 refine ⟨trips g (LL mx_) (LL my) (LL mz), hm, ?_⟩
 have hn : ∀ i, i < 3 → Near (col (trips g (LL mx_) (LL my) (LL mz)) i) := fun i hi v hv => by
  obtain ⟨r, hr, rfl⟩ := mem_col.1 hv
  obtain ⟨a, b, rfl, ha, hb, hc, _⟩ := (hm r).1 hr
  match i, hi with
  | 0, _ => exact near_LL mx_ _ ha
  | 1, _ => exact near_LL my _ hb
  | 2, _ => exact near_LL mz _ hc
 have hmade := made_f 3 (by decide) _ (by omega) hn h1
 unfold pPairs.f
 rw [list_one mx_ (by omega), obs_]
 have h2' : pPairs.l0 φ k [] [] [] (LL mx_) ((LL mx_).length : Int) 0 (D my).f0 (D my).f1 (D my).f2 (D my).f3 (D my).f4 (D mz).f0 (D mz).f1 (D mz).f2 (D mz).f3 (D mz).f4 = _ := h2
 rw [h2', hmade, obs_]
theorem pf_mul (mx_ my mz : Fin 2048) {k : Nat} (hk : 1600 ≤ k) : ∃ T, (∀ r, r ∈ T ↔ ∃ v w, r = [v, w, (gmul v w).1] ∧ v ∈ LL mx_ ∧ w ∈ LL my ∧ (gmul v w).1 ∈ LL mz ∧ (gmul v w).2 = true) ∧
   pPairs.f num_Mul.f k (D mx_).f0 (D mx_).f1 (D mx_).f2 (D mx_).f3 (D mx_).f4 (D my).f0 (D my).f1 (D my).f2 (D my).f3 (D my).f4 (D mz).f0 (D mz).f1 (D mz).f2 (D mz).f3 (D mz).f4 = some (made 3 T) := pf_g (φ := num_Mul.f) (g := gmul) mul_f rng_mul mx_ my mz hk
theorem pf_quo (mx_ my mz : Fin 2048) {k : Nat} (hk : 1600 ≤ k) : ∃ T, (∀ r, r ∈ T ↔ ∃ v w, r = [v, w, (quo v w).1] ∧ v ∈ LL mx_ ∧ w ∈ LL my ∧ (quo v w).1 ∈ LL mz ∧ (quo v w).2 = true) ∧
   pPairs.f (fun _ => num_Quo.f) k (D mx_).f0 (D mx_).f1 (D mx_).f2 (D mx_).f3 (D mx_).f4 (D my).f0 (D my).f1 (D my).f2 (D my).f3 (D my).f4 (D mz).f0 (D mz).f1 (D mz).f2 (D mz).f3 (D mz).f4 = some (made 3 T) := pf_g (φ := fun _ => num_Quo.f) (g := quo) (fun h h' _ _ => quo_f h h') rng_quo mx_ my mz hk
theorem pf_rmd (mx_ my mz : Fin 2048) {k : Nat} (hk : 1600 ≤ k) : ∃ T, (∀ r, r ∈ T ↔ ∃ v w, r = [v, w, (rmd v w).1] ∧ v ∈ LL mx_ ∧ w ∈ LL my ∧ (rmd v w).1 ∈ LL mz ∧ (rmd v w).2 = true) ∧
   pPairs.f (fun _ => num_Rem.f) k (D mx_).f0 (D mx_).f1 (D mx_).f2 (D mx_).f3 (D mx_).f4 (D my).f0 (D my).f1 (D my).f2 (D my).f3 (D my).f4 (D mz).f0 (D mz).f1 (D mz).f2 (D mz).f3 (D mz).f4 = some (made 3 T) := pf_g (φ := fun _ => num_Rem.f) (g := rmd) (fun h h' _ _ => rmd_f h h') rng_rmd mx_ my mz hk
def OkAll (kd : Int) (A B C D' E : List Int) (K : Int) (ms : List (Fin 2048)) : Prop := (5 ≤ kd ∧ kd ≤ 7) ∧ (∃ n, Kind kd n ∧ OkN n A B C D' E K) ∧ ms.length = A.length + B.length ∧ ∀ c ∈ ms, c.val ≠ 0
theorem kind_one {kd : Int} {n m : Nat} (h : Kind kd n) (h' : Kind kd m) : n = m := by unfold Kind at h h'; omega
theorem idx_fits_g (ms : List (Fin 2048)) (hl : ms.length ≤ 100) : ∀ (m j k : Nat), ms.length = j + m → m < k → ∃ i : Int, (i < 0 ↔ ∀ c ∈ ms.drop j, c.val ≠ 0) ∧ dom_Dom_86_at_prop_Fits_1.l0 k (ms.map DZ) (ms.length : Int) (j : Int) = some i
 | 0, j, k + 1, e, _ => ⟨-1, ⟨fun _ => by rw [List.drop_eq_nil_of_le (by omega)]; exact fun x hx => absurd hx List.not_mem_nil, fun _ => by decide⟩, by rw [dom_Dom_86_at_prop_Fits_1.l0, ino_]⟩
 | m + 1, j, k + 1, e, hk => by
  have hj : j < ms.length := by omega
  have hd : ms.drop j = ms.getD j 0 :: ms.drop (j + 1) := by rw [getD_lt ms 0 hj]; exact List.drop_eq_getElem_cons hj
  obtain ⟨b, hb, hr⟩ := idx_fits_g ms hl m (j + 1) k (by omega) (by omega)
  have hf : prop_Fits_1.f (DZ (ms.getD j 0)).f0 (DZ (ms.getD j 0)).f1 (DZ (ms.getD j 0)).f2 (DZ (ms.getD j 0)).f3 (DZ (ms.getD j 0)).f4 = some ((DZ (ms.getD j 0)).f4 == 0) := rfl
  rw [dom_Dom_86_at_prop_Fits_1.l0, if_pos (nlt hj), ipo_, if_pos (by rw [List.length_map]; exact nlt hj), rdD_at, getD_map DZ ms 0 z61 hj, hf, obs_, wsu_, hr, hd]
  by_cases h : (ms.getD j 0).val = 0
  ·
   exact ⟨j, ⟨fun h' => absurd h' (by omega), fun h' => absurd h (h' _ List.mem_cons_self)⟩, by rw [if_pos (beq_iff_eq.2 ((dz_size _).2 h))]⟩
  ·
   refine ⟨b, hb.trans ⟨fun h' x hx => ?_, fun h' x hx => h' x (List.mem_cons_of_mem _ hx)⟩, by rw [if_neg (by rw [beq_iff_eq, dz_size]; exact h)]⟩
   rcases List.mem_cons.1 hx with rfl | hx
   ·
    exact h
   ·
    exact h' x hx
theorem fits_g (kd : Int) (A B C D' E : List Int) (K : Int) (R : List (List Int)) (hR : 5 ≤ kd ∧ kd ≤ 7 → R = []) (hA : A.length ≤ 5) (hB : B.length ≤ 5) (ms : List (Fin 2048)) (hl : ms.length ≤ 20) {k : Nat} (hk : 500 ≤ k) :
  ∃ b : Bool, (b = true ↔ OkAll kd A B C D' E K ms) ∧ prop_Fits.f k kd A B C D' E K R (ms.map DZ) 5 7 = some b := by
 obtain ⟨i, hi, hir⟩ := idx_fits_g ms (by omega) ms.length 0 k (by omega) (by omega)
 rw [List.drop_zero] at hi
 have hir' : dom_Dom_86_at_prop_Fits_1.l0 k (ms.map DZ) (((ms.map DZ).length : Nat) : Int) 0 = some i := by rw [List.length_map]; exact hir
 have hco : dom_Dom_61_at_prop_Fits_1.f k (ms.map DZ) = some (decide (i ≥ 0)) := by
  unfold dom_Dom_61_at_prop_Fits_1.f dom_Dom_86_at_prop_Fits_1.f
  rw [hir', obs_]
 have hw : wrap64 ((A.length : Int) + (B.length : Int)) = (A.length : Int) + B.length := wrap_id (by omega) (by omega)
 unfold prop_Fits.f
 rw [hco, obs_]
 by_cases h1 : 5 ≤ kd ∧ kd ≤ 7
 ·
  obtain rfl := hR h1
  obtain ⟨n, hd, hn⟩ := kind_of h1
  obtain ⟨e, he, her⟩ := mright_g kd n hd A B C D' E K hA hB (k := k) (by omega)
  have he' : e = 0 ↔ ∃ n, Kind kd n ∧ OkN n A B C D' E K := he.trans ⟨fun h => ⟨n, hd, h⟩, fun ⟨m, h, h'⟩ => by rw [kind_one hd h]; exact h'⟩
  rw [if_pos h1.1, if_pos h1.2, her, obs_, hw, List.length_map]
  by_cases h2 : e = 0
  ·
   rw [if_pos h2]
   by_cases h3 : (ms.length : Int) = (A.length : Int) + B.length
   ·
    rw [if_pos h3]
    refine ⟨_, ?_, rfl⟩
    constructor
    ·
     intro h
     have : ¬ i ≥ 0 := by simpa using h
     exact ⟨h1, he'.1 h2, by omega, hi.1 (by omega)⟩
    ·
     rintro ⟨_, _, _, h⟩
     have := hi.2 h
     simp; omega
   ·
    rw [if_neg h3]
    exact ⟨false, ⟨fun h => absurd h (by decide), fun h => absurd h.2.2.1 (by omega)⟩, rfl⟩
  ·
   rw [if_neg h2]
   exact ⟨false, ⟨fun h => absurd h (by decide), fun h => absurd (he'.2 h.2.1) h2⟩, rfl⟩
 ·
  refine ⟨false, ⟨fun h => absurd h (by decide), fun h => absurd h.1 h1⟩, ?_⟩
  by_cases h2 : kd ≥ 5
  ·
   rw [if_pos h2, ino_]
  ·
   rw [if_neg h2]
theorem rfits_g0 (ms : List (Fin 2048)) (hl : ms.length ≤ 100) : ∀ (m j k : Nat), ms.length = j + m → m < k → ∃ b : Bool, (b = true ↔ ∀ c ∈ ms.drop j, c.val ≠ 0) ∧ jigsawref10_Fits.l0 k (ms.map LL) (j : Int) = some b
 | 0, j, k + 1, e, _ => ⟨true, ⟨fun _ => by rw [List.drop_eq_nil_of_le (by omega)]; exact fun x hx => absurd hx List.not_mem_nil, fun _ => rfl⟩, by rw [jigsawref10_Fits.l0, List.length_map, ino_]⟩
 | m + 1, j, k + 1, e, hk => by
  have hj : j < ms.length := by omega
  have hd : ms.drop j = ms.getD j 0 :: ms.drop (j + 1) := by rw [getD_lt ms 0 hj]; exact List.drop_eq_getElem_cons hj
  obtain ⟨b, hb, hr⟩ := rfits_g0 ms hl m (j + 1) k (by omega) (by omega)
  rw [jigsawref10_Fits.l0, List.length_map, if_pos (nlt hj), ipo_, rdL_at, getD_map LL ms 0 [] hj, wsu_, hr, hd]
  by_cases h : (ms.getD j 0).val = 0
  ·
   exact ⟨false, ⟨fun h' => absurd h' (by decide), fun h' => absurd h (h' _ List.mem_cons_self)⟩, by rw [if_pos (by rw [LL0 h]; rfl)]⟩
  ·
   refine ⟨b, hb.trans ⟨fun h' x hx => ?_, fun h' x hx => h' x (List.mem_cons_of_mem _ hx)⟩, by rw [if_neg (by have := ne_all _ h; omega)]⟩
   rcases List.mem_cons.1 hx with rfl | hx
   ·
    exact h
   ·
    exact h' x hx
theorem rfits_g (kd : Int) (A B C D' E : List Int) (K : Int) (R : List (List Int)) (hR : 5 ≤ kd ∧ kd ≤ 7 → R = []) (hA : A.length ≤ 5) (hB : B.length ≤ 5) (ms : List (Fin 2048)) (hl : ms.length ≤ 20) {k : Nat} (hk : 500 ≤ k) :
  ∃ b : Bool, (b = true ↔ OkAll kd A B C D' E K ms) ∧ jigsawref10_Fits.f k kd A B C D' E K R (ms.map LL) 5 7 = some b := by
 obtain ⟨k, rfl⟩ : ∃ k', k = k' + 1 := ⟨k - 1, by omega⟩
 have hw : wrap64 ((A.length : Int) + (B.length : Int)) = (A.length : Int) + B.length := wrap_id (by omega) (by omega)
 unfold jigsawref10_Fits.f
 by_cases h1 : 5 ≤ kd ∧ kd ≤ 7
 ·
  obtain rfl := hR h1
  obtain ⟨n, hd, hn⟩ := kind_of h1
  obtain ⟨e, he, her⟩ := rright_g kd n hd A B C D' E K hA hB (k := k) (by omega)
  have he' : e = 0 ↔ ∃ n, Kind kd n ∧ OkN n A B C D' E K := he.trans ⟨fun h => ⟨n, hd, h⟩, fun ⟨m, h, h'⟩ => by rw [kind_one hd h]; exact h'⟩
  obtain ⟨b, hb, hbr⟩ := rfits_g0 ms (by omega) ms.length 0 k (by omega) (by omega)
  rw [List.drop_zero] at hb
  have hbr' : jigsawref10_Fits.l0 k (ms.map LL) 0 = some b := hbr
  rw [ino_, ino_, jigsawref10_Fits.j0, hw, List.length_map]
  by_cases h3 : (ms.length : Int) = (A.length : Int) + B.length
  ·
   rw [if_neg (by rw [bne_iff_ne]; exact fun h => h h3), her, obs_]
   by_cases h2 : e = 0
   ·
    rw [if_pos h2, hbr']
    exact ⟨b, hb.trans ⟨fun h => ⟨h1, he'.1 h2, by omega, h⟩, fun h => h.2.2.2⟩, rfl⟩
   ·
    rw [if_neg h2]
    exact ⟨false, ⟨fun h => absurd h (by decide), fun h => absurd (he'.2 h.2.1) h2⟩, rfl⟩
  ·
   rw [if_pos (by rw [bne_iff_ne]; exact h3)]
   exact ⟨false, ⟨fun h => absurd h (by decide), fun h => absurd h.2.2.1 (by omega)⟩, rfl⟩
 ·
  refine ⟨false, ⟨fun h => absurd h (by decide), fun h => absurd h.1 h1⟩, ?_⟩
  by_cases h2 : kd < 5
  ·
   rw [if_pos h2, jigsawref10_Fits.j0, if_pos rfl]
  ·
   rw [if_neg h2, ipo_, jigsawref10_Fits.j0, if_pos rfl]
theorem threeM {ms : List (Fin 2048)} (h : ms.length = 3) : ∃ x y z, ms = [x, y, z] := by
 match ms, h with
 | [x, y, z], _ => exact ⟨x, y, z, rfl⟩
theorem f4_len (m : Fin 2048) : (D m).f4 = ((LL m).length : Int) := by
 unfold D DM LL
 split
 ·
  rfl
 ·
  split <;> rfl
theorem few_pairs (a b : Fin 2048) : ¬ wrap64 ((D a).f4 * (D b).f4) > 4096 := by
 have h : (LL a).length * (LL b).length ≤ 11 * 11 := Nat.mul_le_mul (len_all a).1 (len_all b).1
 have e : (D a).f4 * (D b).f4 = (((LL a).length * (LL b).length : Nat) : Int) := by rw [f4_len, f4_len, Int.natCast_mul]
 rw [e, wrap_id (by omega) (by omega)]
 omega
theorem made_len (n : Nat) (T : List (List Int)) (h : (made n T).2 = true) : (made n T).1.length = n := by
 unfold made at h ⊢
 split at h
 ·
  cases h
 ·
  rename_i h'
  rw [if_neg h']; simp
theorem filter_g (kd : Int) (n : Nat) (hd : Kind kd n) (A B C D' E : List Int) (K : Int) (R : List (List Int)) (ms : List (Fin 2048)) (hl : ms.length = n) {k : Nat} (hk : 2000 ≤ k) (hf : prop_Fits.f k kd A B C D' E K R (ms.map D) 5 7 = some true) :
  ∃ r, mul_Filter.f k kd A B C D' E K R (ms.map D) = some r ∧ (r.2 = true → r.1.length = n) := by
 suffices h : ∃ T, mul_Filter.f k kd A B C D' E K R (ms.map D) = some (made n T) by
  obtain ⟨T, h⟩ := h
  exact ⟨_, h, made_len n T⟩
 unfold mul_Filter.f
 rw [hf, obs_, if_pos rfl]
 rcases hd with ⟨rfl, rfl⟩ | ⟨rfl, rfl⟩ | ⟨rfl, rfl⟩
 ·
  obtain ⟨a, b, c, rfl⟩ := threeM hl
  obtain ⟨T, hT, e⟩ := pf_mul a b c (k := k) (by omega)
  refine ⟨T, ?_⟩
  rw [if_pos (by simp)]
  show (some (D a).f4).bind _ = _
  rw [obs_, if_pos (by simp)]
  show (some (D b).f4).bind _ = _
  rw [obs_, if_neg (few_pairs a b), ind_, ind_, if_pos (by simp)]
  show (pPairs.f num_Mul.f k (D a).f0 (D a).f1 (D a).f2 (D a).f3 (D a).f4 (D b).f0 (D b).f1 (D b).f2 (D b).f3 (D b).f4 (D c).f0 (D c).f1 (D c).f2 (D c).f3 (D c).f4).bind _ = _
  rw [e, obs_]
 ·
  obtain ⟨a, b, c, rfl⟩ := threeM hl
  obtain ⟨T, hT, e⟩ := pf_quo a b c (k := k) (by omega)
  refine ⟨T, ?_⟩
  rw [if_pos (by simp)]
  show (some (D a).f4).bind _ = _
  rw [obs_, if_pos (by simp)]
  show (some (D b).f4).bind _ = _
  rw [obs_, if_neg (few_pairs a b), if_pos rfl, if_pos (by simp)]
  show (pPairs.f (fun _ => num_Quo.f) k (D a).f0 (D a).f1 (D a).f2 (D a).f3 (D a).f4 (D b).f0 (D b).f1 (D b).f2 (D b).f3 (D b).f4 (D c).f0 (D c).f1 (D c).f2 (D c).f3 (D c).f4).bind _ = _
  rw [e, obs_]
 ·
  obtain ⟨a, b, c, rfl⟩ := threeM hl
  obtain ⟨T, hT, e⟩ := pf_rmd a b c (k := k) (by omega)
  refine ⟨T, ?_⟩
  rw [if_pos (by simp)]
  show (some (D a).f4).bind _ = _
  rw [obs_, if_pos (by simp)]
  show (some (D b).f4).bind _ = _
  rw [obs_, if_neg (few_pairs a b), ind_, if_pos rfl, if_pos (by simp)]
  show (pPairs.f (fun _ => num_Rem.f) k (D a).f0 (D a).f1 (D a).f2 (D a).f3 (D a).f4 (D b).f0 (D b).f1 (D b).f2 (D b).f3 (D b).f4 (D c).f0 (D c).f1 (D c).f2 (D c).f3 (D c).f4).bind _ = _
  rw [e, obs_]
theorem both (kd : Int) (A B C D' E : List Int) (K : Int) (R : List (List Int)) (hR : 5 ≤ kd ∧ kd ≤ 7 → R = []) (hA : A.length ≤ 5) (hB : B.length ≤ 5) (ms : List (Fin 2048)) (hl : ms.length ≤ 20) {k : Nat} (hk : 2000 ≤ k) :
  ∃ (r : List S61 × Bool) (t : Bool), mul_Filter.f k kd A B C D' E K R (ms.map DZ) = some r ∧ jigsawref10_Fits.f k kd A B C D' E K R (ms.map LL) 5 7 = some t ∧ (t = true → r.2 = true → r.1.length = ms.length) ∧ (t = false → r = ([], false)) := by
 obtain ⟨b, hb, hbr⟩ := fits_g kd A B C D' E K R hR hA hB ms hl (k := k) (by omega)
 obtain ⟨t, ht, htr⟩ := rfits_g kd A B C D' E K R hR hA hB ms hl (k := k) (by omega)
 have hbt : b = t := by rw [Bool.eq_iff_iff, hb, ht]
 subst hbt
 cases b with
 | false => exact ⟨([], false), false, by unfold mul_Filter.f; rw [hbr, obs_, ind_], htr, fun h => absurd h (by decide), fun _ => rfl⟩
 | true =>
  obtain ⟨h0, ⟨n, hd, hok⟩, h3, h4⟩ := hb.1 rfl
  have hDZ : ms.map DZ = ms.map D := List.map_congr_left fun c hc => by unfold DZ; rw [if_neg (h4 c hc)]
  rw [hDZ] at hbr ⊢
  obtain ⟨r, h5, h6⟩ := filter_g kd n hd A B C D' E K R ms (by rw [h3, hok.2.1, hok.2.2.1]; rfl) (k := k) (by omega) hbr
  refine ⟨r, true, h5, htr, fun _ h => ?_, fun h => absurd h (by decide)⟩
  rw [h6 h, h3, hok.2.1, hok.2.2.1]; rfl
theorem wakes_true {k : Nat} (hk : 100 ≤ k) : jigsawlaw11_wakes.f k = some true :=
 up (f := fun k => jigsawlaw11_wakes.f k) jigsawlaw11_wakes.mono (by decide +kernel) hk
theorem wf_u8 {x : Int} (h : (Lit.int .u8 x).wf = true) : 0 ≤ x ∧ x ≤ 255 := by
 simp only [Lit.wf, IntKind.min, IntKind.max, IntKind.signed, IntKind.bits, Bool.and_eq_true] at h
 simp at h
 omega
theorem tail0 (ms : List (Fin 2048)) (r : List S61 × Bool) (t : Bool) (h1 : t = true → r.2 = true → r.1.length = ms.length) (h2 : t = false → r = ([], false)) : jigsawlaw11_MulRefuses.j0 (99999 + 1) (ms.map LL) r.1 r.2 t = some true := by
 rw [jigsawlaw11_MulRefuses.j0]
 cases t with
 | false => rw [h2 rfl, ind_, wakes_true (by decide), obs_, if_pos rfl, ind_]; rfl
 | true =>
  rw [if_pos rfl, wakes_true (by decide), obs_, if_pos rfl]
  by_cases h : r.2 = true
  ·
   rw [if_pos h, List.length_map, h1 rfl h]; simp
  ·
   rw [if_neg h]
theorem tail1 (ms : List (Fin 2048)) (r : List S61 × Bool) (t : Bool) (h1 : t = true → r.2 = true → r.1.length = ms.length) (h2 : t = false → r = ([], false)) : jigsawlaw11_MulRefuses.j1 (99999 + 1) (ms.map LL) r.1 r.2 t = some true := by
 rw [jigsawlaw11_MulRefuses.j1]
 cases t with
 | false => rw [h2 rfl, ind_, wakes_true (by decide), obs_, if_pos rfl, ind_]; rfl
 | true =>
  rw [if_pos rfl, wakes_true (by decide), obs_, if_pos rfl]
  by_cases h : r.2 = true
  ·
   rw [if_pos h, List.length_map, h1 rfl h]; simp
  ·
   rw [if_neg h]
theorem tail2 (ms : List (Fin 2048)) (r : List S61 × Bool) (t : Bool) (h1 : t = true → r.2 = true → r.1.length = ms.length) (h2 : t = false → r = ([], false)) : jigsawlaw11_MulRefuses.j2 (99999 + 1) (ms.map LL) r.1 r.2 t = some true := by
 rw [jigsawlaw11_MulRefuses.j2]
 cases t with
 | false => rw [h2 rfl, ind_, wakes_true (by decide), obs_, if_pos rfl, ind_]; rfl
 | true =>
  rw [if_pos rfl, wakes_true (by decide), obs_, if_pos rfl]
  by_cases h : r.2 = true
  ·
   rw [if_pos h, List.length_map, h1 rfl h]; simp
  ·
   rw [if_neg h]
theorem tail3 (ms : List (Fin 2048)) (r : List S61 × Bool) (t : Bool) (h1 : t = true → r.2 = true → r.1.length = ms.length) (h2 : t = false → r = ([], false)) : jigsawlaw11_MulRefuses.j3 (99999 + 1) (ms.map LL) r.1 r.2 t = some true := by
 rw [jigsawlaw11_MulRefuses.j3]
 cases t with
 | false => rw [h2 rfl, ind_, wakes_true (by decide), obs_, if_pos rfl, ind_]; rfl
 | true =>
  rw [if_pos rfl, wakes_true (by decide), obs_, if_pos rfl]
  by_cases h : r.2 = true
  ·
   rw [if_pos h, List.length_map, h1 rfl h]; simp
  ·
   rw [if_neg h]
theorem tail4 (ms : List (Fin 2048)) (r : List S61 × Bool) (t : Bool) (h1 : t = true → r.2 = true → r.1.length = ms.length) (h2 : t = false → r = ([], false)) : jigsawlaw11_MulRefuses.j4 (99999 + 1) (ms.map LL) r.1 r.2 t = some true := by
 rw [jigsawlaw11_MulRefuses.j4]
 cases t with
 | false => rw [h2 rfl, ind_, wakes_true (by decide), obs_, if_pos rfl, ind_]; rfl
 | true =>
  rw [if_pos rfl, wakes_true (by decide), obs_, if_pos rfl]
  by_cases h : r.2 = true
  ·
   rw [if_pos h, List.length_map, h1 rfl h]; simp
  ·
   rw [if_neg h]
theorem short_f (l : List Int) : ∃ s : List Int, s.length ≤ 5 ∧ jigsawlaw11_MulRefuses_1.f l = some s := by
 unfold jigsawlaw11_MulRefuses_1.f
 have h : 0 ≤ mn (l.length : Int) 5 ∧ mn (l.length : Int) 5 ≤ (l.length : Int) ∧ mn (l.length : Int) 5 ≤ 5 := by unfold mn; split <;> omega
 exact ⟨l.take (mn (l.length : Int) 5).toNat, by rw [List.length_take]; omega, by rw [if_pos h.1, if_pos h.2.1]⟩
theorem mulRefuses (a0 : Int) (l1 l3 l4 : List Int) (a4 a5 : Int) (l6 : List (List Int)) (b0 : Int) (m1 m2 m3 m4 m5 : List Int) (b6 : Int) (m7 : List (List Int)) (a2 : Int) (hw1 : ∀ x ∈ l1, (Lit.int .u8 x).wf = true) (hw3 : ∀ x ∈ l3, (Lit.int .u8 x).wf = true) (hwa : (Lit.int .u8 a2).wf = true) :
  ∃ k, jigsawlaw11_MulRefuses.f k a0 l1 l3 l4 a4 a5 l6 b0 m1 m2 m3 m4 m5 b6 m7 a2 = some true := by
 refine ⟨100000, ?_⟩
 have ha := wf_u8 hwa
 obtain ⟨kd, hkd, hk⟩ : ∃ kd : Int, (1 ≤ kd ∧ kd ≤ 23) ∧ wrap64 (1 + Int.tmod (wrap64 (a2 / 8)) 23) = kd := by
  have e1 : wrap64 (a2 / 8) = a2 / 8 := wrap_id (by omega) (by omega)
  have e2 : Int.tmod (a2 / 8) 23 = (a2 / 8) % 23 := Int.tmod_eq_emod_of_nonneg (by omega)
  have e3 : wrap64 (1 + (a2 / 8) % 23) = 1 + (a2 / 8) % 23 := wrap_id (by omega) (by omega)
  exact ⟨1 + (a2 / 8) % 23, by omega, by rw [e1, e2, e3]⟩
 obtain ⟨p, q, C, D', E, K, R, ms, g1, g2, g3, hl, hs, g4, hm⟩ := case_all kd hkd a0 a4 a5 l1 l3 l4 l6 (fun x hx => wf_u8 (hw1 x hx)) (fun x hx => wf_u8 (hw3 x hx)) (k := 100000) (by decide)
 have hR : 5 ≤ kd ∧ kd ≤ 7 → R = [] := fun h => (g4 h).1
 have ew : wrap64 (((ms.map LL).length : Int) - 1) = ((ms.length - 1 : Nat) : Int) := by rw [List.length_map, wrap_id (by omega) (by omega)]; omega
 unfold jigsawlaw11_MulRefuses.f
 rw [hk, hm, obs_]
 show (if Int.tmod a2 5 = 0 then (if 0 ≤ wrap64 (((ms.map LL).length : Int) - 1) then (if wrap64 (((ms.map LL).length : Int) - 1) ≤ ((ms.map LL).length : Int) then (some ((ms.map LL).take (wrap64 (((ms.map LL).length : Int) - 1)).toNat)).bind _ else none) else none) else _) = some true
 by_cases c0 : Int.tmod a2 5 = 0
 ·
  rw [if_pos c0, ew, ipo_, if_pos (by rw [List.length_map]; omega), obs_, Int.toNat_natCast, ← List.map_take]
  obtain ⟨r, t, e1, e2, e3, e4⟩ := both kd p q C D' E K R hR (by omega) (by omega) (ms.take (ms.length - 1)) (by rw [List.length_take]; omega) (k := 100000) (by decide)
  rw [domz_f _ (by rw [List.length_take]; omega) (by decide), obs_]
  show (mul_Filter.f 100000 kd p q C D' E K R _).bind _ = _
  rw [e1, obs_]
  show (jigsawref10_Fits.f 100000 kd p q C D' E K R _ 5 7).bind _ = _
  rw [e2, obs_]
  exact tail0 _ r t e3 e4
 rw [if_neg c0]
 by_cases c1 : Int.tmod a2 5 = 1
 ·
  rw [if_pos c1]
  show (if 0 < ((ms.map LL).length : Int) then (some ((ms.map LL).set (0 : Int).toNat [])).bind _ else none) = some true
  have e0 : (ms.map LL).set (0 : Int).toNat [] = (ms.set 0 0).map LL := by
   rw [List.map_set, LL0 (m := 0) rfl]; rfl
  rw [if_pos (by rw [List.length_map]; omega), obs_, e0]
  obtain ⟨r, t, e1, e2, e3, e4⟩ := both kd p q C D' E K R hR (by omega) (by omega) (ms.set 0 0) (by rw [List.length_set]; omega) (k := 100000) (by decide)
  rw [domz_f _ (by rw [List.length_set]; omega) (by decide), obs_]
  show (mul_Filter.f 100000 kd p q C D' E K R _).bind _ = _
  rw [e1, obs_]
  show (jigsawref10_Fits.f 100000 kd p q C D' E K R _ 5 7).bind _ = _
  rw [e2, obs_]
  exact tail1 _ r t e3 e4
 rw [if_neg c1]
 by_cases c2 : Int.tmod a2 5 = 2
 ·
  rw [if_pos c2]
  show (if (ms.map LL).length < 5864062014805 then (some ((ms.map LL) ++ [[1]])).bind _ else none) = some true
  have e0 : (ms.map LL) ++ [[1]] = (ms ++ [64]).map LL := by
   rw [List.map_append]
   have h64 : LL 64 = [1] := by decide +kernel
   show _ = ms.map LL ++ [LL 64]
   rw [h64]
  rw [if_pos (by rw [List.length_map]; omega), obs_, e0]
  obtain ⟨r, t, e1, e2, e3, e4⟩ := both kd p q C D' E K R hR (by omega) (by omega) (ms ++ [64]) (by simp; omega) (k := 100000) (by decide)
  rw [domz_f _ (by simp; omega) (by decide), obs_]
  show (mul_Filter.f 100000 kd p q C D' E K R _).bind _ = _
  rw [e1, obs_]
  show (jigsawref10_Fits.f 100000 kd p q C D' E K R _ 5 7).bind _ = _
  rw [e2, obs_]
  exact tail2 _ r t e3 e4
 rw [if_neg c2]
 by_cases c3 : Int.tmod a2 5 = 3
 ·
  rw [if_pos c3]
  obtain ⟨s1, f1, h1⟩ := short_f m1
  obtain ⟨s2, f2, h2⟩ := short_f m2
  obtain ⟨s3, f3, h3⟩ := short_f m3
  obtain ⟨s4, f4, h4⟩ := short_f m4
  obtain ⟨s5, f5, h5⟩ := short_f m5
  rw [h1, obs_, h2, obs_, h3, obs_, h4, obs_, h5, obs_]
  obtain ⟨r, t, e1, e2, e3, e4⟩ := both b0 s1 s2 s3 s4 s5 b6 [] (fun _ => rfl) f1 f2 ms (by omega) (k := 100000) (by decide)
  show (jigsawlaw11_doms.f 100000 (ms.map LL)).bind _ = _
  rw [domz_f _ (by omega) (by decide), obs_]
  show (mul_Filter.f 100000 b0 s1 s2 s3 s4 s5 b6 [] _).bind _ = _
  rw [e1, obs_]
  show (jigsawref10_Fits.f 100000 b0 s1 s2 s3 s4 s5 b6 [] (ms.map LL) 5 7).bind _ = _
  rw [e2, obs_]
  exact tail3 _ r t e3 e4
 ·
  rw [if_neg c3]
  obtain ⟨r, t, e1, e2, e3, e4⟩ := both kd p q C D' E K R hR (by omega) (by omega) ms (by omega) (k := 100000) (by decide)
  show (jigsawlaw11_doms.f 100000 (ms.map LL)).bind _ = _
  rw [domz_f _ (by omega) (by decide), obs_]
  show (mul_Filter.f 100000 kd p q C D' E K R _).bind _ = _
  rw [e1, obs_]
  show (jigsawref10_Fits.f 100000 kd p q C D' E K R (ms.map LL) 5 7).bind _ = _
  rw [e2, obs_]
  exact tail4 _ r t e3 e4
end Go.Proofs.YtbhhbgoamomacaaGreatDoor.Pure
