/- The plain law of GccAll: what the walk computes answers true, for every input. -/
import Derived.Test.YtijjhobjmehhoaaGreatDoorXGAlx23
import Derived.Test.YtijjhobjmehhoaaGreatDoorKMa
import Derived.Test.YtijjhobjmehhoaaGreatDoorKMb
import Derived.Test.YtijjhobjmehhoaaGreatDoorKMc
import Derived.Test.YtijjhobjmehhoaaGreatDoorKMd
namespace Go.Proofs.YtijjhobjmehhoaaGreatDoor.Pure
open Go.RowKit Go.Proofs.YtijjhobjmehhoaaGreatDoor.XGccAll Go.Proofs.YtijjhobjmehhoaaGreatDoorW.PrintWords Go.Proofs.YtijjhobjmehhoaaGreatDoorW.PrintLast Go.Proofs.YtijjhobjmehhoaaGreatDoorW.PrintMore
set_option linter.unusedVariables false
theorem ind_ {c : Prop} [Decidable c] {α : Type} {a b : α} (h : ¬ c := by decide) : (if c then a else b) = b := if_neg h
theorem obs_ {α β : Type} (a : α) (f : α → Option β) : (some a).bind f = f a := rfl
theorem ino_ {c : Prop} [Decidable c] {α : Type} {a b : α} (h : ¬ c := by omega) : (if c then a else b) = b := if_neg h
theorem ipo_ {c : Prop} [Decidable c] {α : Type} {a b : α} (h : c := by omega) : (if c then a else b) = a := if_pos h
theorem wsu_ {j : Nat} (h : j ≤ 100000 := by omega) : wrap64 ((j : Int) + 1) = ((j + 1 : Nat) : Int) := wrap_succ h
def Near (x : List Int) : Prop := ∀ v ∈ x, -5 ≤ v ∧ v ≤ 5
theorem mem_vals {v : Int} : v ∈ vals ↔ -5 ≤ v ∧ v ≤ 5 := by
 unfold vals
 simp only [List.mem_cons, List.not_mem_nil, or_false]
 omega
theorem mem_L {m : Nat} {v : Int} : v ∈ L m ↔ (-5 ≤ v ∧ v ≤ 5) ∧ m.testBit (v + 5).toNat = true := by
 unfold L; rw [List.mem_filter, mem_vals]
theorem L_filter {m m' : Nat} {p : Int → Bool} (h : ∀ v, -5 ≤ v → v ≤ 5 → (v ∈ L m ↔ v ∈ L m' ∧ p v = true)) : L m = (L m').filter p := by
 unfold L
 rw [List.filter_filter]
 apply List.filter_congr
 intro v hv
 have hr := mem_vals.1 hv
 have h' := h v hr.1 hr.2
 rw [mem_L, mem_L] at h'
 rw [Bool.eq_iff_iff, Bool.and_eq_true]
 constructor
 ·
  intro h1
  have h2 := h'.1 ⟨hr, h1⟩
  exact ⟨h2.2, h2.1.2⟩
 ·
  exact fun h1 => (h'.2 ⟨⟨hr, h1.2⟩, h1.1⟩).2
def msk : List Int → Nat
 | [] => 0
 | v :: l => msk l ||| 1 <<< (v + 5).toNat
theorem msk_append (a b : List Int) : msk (a ++ b) = msk a ||| msk b := by
 induction a with
 | nil => simp [msk]
 | cons v a ih => rw [List.cons_append, msk, ih, msk, Nat.or_assoc, Nat.or_assoc, Nat.or_comm (msk b)]
theorem msk_bit (l : List Int) (i : Nat) : (msk l).testBit i = true ↔ ∃ v, v ∈ l ∧ (v + 5).toNat = i := by
 induction l with
 | nil => simp [msk]
 | cons v l ih =>
  rw [msk, Nat.testBit_or, Bool.or_eq_true, ih, Nat.one_shiftLeft, Nat.testBit_two_pow, decide_eq_true_iff]
  constructor
  ·
   rintro (⟨u, h1, h2⟩ | h)
   ·
    exact ⟨u, List.mem_cons_of_mem _ h1, h2⟩
   ·
    exact ⟨v, List.mem_cons_self, h⟩
  ·
   rintro ⟨u, h1, h2⟩
   rcases List.mem_cons.1 h1 with rfl | h1
   ·
    exact Or.inr h2
   ·
    exact Or.inl ⟨u, h1, h2⟩
theorem msk_lt {l : List Int} (h : Near l) : msk l < 2048 := by
 induction l with
 | nil => decide
 | cons v l ih =>
  have hv := h v List.mem_cons_self
  refine Nat.or_lt_two_pow (n := 11) (ih fun u hu => h u (List.mem_cons_of_mem _ hu)) ?_
  rw [Nat.one_shiftLeft]
  exact Nat.pow_lt_pow_right (by decide) (by omega)
theorem mem_msk {l : List Int} (h : Near l) {v : Int} : v ∈ L (msk l) ↔ v ∈ l := by
 rw [mem_L, msk_bit]
 constructor
 ·
  rintro ⟨hv, u, hu, e⟩
  have := h u hu
  have : u = v := by omega
  rwa [← this]
 ·
  exact fun hv => ⟨h v hv, v, hv, rfl⟩
def mk (l : List Int) : Fin 2048 := ⟨msk l % 2048, Nat.mod_lt _ (by decide)⟩
theorem mk_val {l : List Int} (h : Near l) : (mk l).val = msk l := Nat.mod_eq_of_lt (msk_lt h)
theorem mem_mk {l : List Int} (h : Near l) {v : Int} : v ∈ LL (mk l) ↔ v ∈ l := by
 unfold LL; rw [mk_val h]; exact mem_msk h
theorem mk_ne {l : List Int} (h : Near l) (h0 : l ≠ []) : (mk l).val ≠ 0 := by
 intro h1
 obtain ⟨v, hv⟩ := List.exists_mem_of_ne_nil l h0
 have h2 := (mem_mk h).2 hv
 have : LL (mk l) = [] := by unfold LL; rw [h1]; decide +kernel
 rw [this] at h2; cases h2
theorem mask_ext {m m' : Fin 2048} (h : ∀ v, v ∈ LL m ↔ v ∈ LL m') : m = m' := by
 apply Fin.ext
 apply Nat.eq_of_testBit_eq
 intro i
 by_cases hi : i < 11
 ·
  have h1 := h ((i : Int) - 5)
  unfold LL at h1
  rw [mem_L, mem_L, show ((i : Int) - 5 + 5).toNat = i by omega] at h1
  have hr : -5 ≤ (i : Int) - 5 ∧ (i : Int) - 5 ≤ 5 := by omega
  rw [Bool.eq_iff_iff]
  exact ⟨fun h2 => (h1.1 ⟨hr, h2⟩).2, fun h2 => (h1.2 ⟨hr, h2⟩).2⟩
 ·
  have h2 : 2 ^ 11 ≤ 2 ^ i := Nat.pow_le_pow_right (by decide) (by omega)
  rw [Nat.testBit_lt_two_pow (Nat.lt_of_lt_of_le m.isLt h2), Nat.testBit_lt_two_pow (Nat.lt_of_lt_of_le m'.isLt h2)]
theorem near_LL (m : Fin 2048) : Near (LL m) := (len_all m).2
theorem mk_LL (m : Fin 2048) : mk (LL m) = m := mask_ext fun _ => mem_mk (near_LL m)
theorem fold_mn : ∀ (l : List Int) (z : Int), (l.foldl mn z ≤ z) ∧ (∀ v ∈ l, l.foldl mn z ≤ v) ∧ (l.foldl mn z = z ∨ l.foldl mn z ∈ l)
 | [], z => ⟨Int.le_refl _, fun v hv => absurd hv List.not_mem_nil, Or.inl rfl⟩
 | a :: l, z => by
  obtain ⟨h1, h2, h3⟩ := fold_mn l (mn z a)
  have hz : mn z a ≤ z ∧ mn z a ≤ a ∧ (mn z a = z ∨ mn z a = a) := by unfold mn; split <;> omega
  rw [List.foldl_cons]
  refine ⟨by omega, fun v hv => ?_, ?_⟩
  ·
   rcases List.mem_cons.1 hv with rfl | hv
   ·
    omega
   ·
    exact h2 v hv
  ·
   rcases h3 with h3 | h3
   ·
    rw [h3]
    rcases hz.2.2 with h | h
    ·
     exact Or.inl h
    ·
     exact Or.inr (by rw [h]; exact List.mem_cons_self)
   ·
    exact Or.inr (List.mem_cons_of_mem _ h3)
theorem fold_mx : ∀ (l : List Int) (z : Int), (z ≤ l.foldl mx z) ∧ (∀ v ∈ l, v ≤ l.foldl mx z) ∧ (l.foldl mx z = z ∨ l.foldl mx z ∈ l)
 | [], z => ⟨Int.le_refl _, fun v hv => absurd hv List.not_mem_nil, Or.inl rfl⟩
 | a :: l, z => by
  obtain ⟨h1, h2, h3⟩ := fold_mx l (mx z a)
  have hz : z ≤ mx z a ∧ a ≤ mx z a ∧ (mx z a = z ∨ mx z a = a) := by unfold mx; split <;> omega
  rw [List.foldl_cons]
  refine ⟨by omega, fun v hv => ?_, ?_⟩
  ·
   rcases List.mem_cons.1 hv with rfl | hv
   ·
    omega
   ·
    exact h2 v hv
  ·
   rcases h3 with h3 | h3
   ·
    rw [h3]
    rcases hz.2.2 with h | h
    ·
     exact Or.inl h
    ·
     exact Or.inr (by rw [h]; exact List.mem_cons_self)
   ·
    exact Or.inr (List.mem_cons_of_mem _ h3)
theorem rd_at (l : List Int) (j : Nat) : rd l (j : Int) = l.getD j 0 := rfl
theorem rdL_at (l : List (List Int)) (j : Nat) : rd_L7 l (j : Int) = l.getD j [] := rfl
theorem rdD_at (l : List S58) (j : Nat) : rd_T58 l (j : Int) = l.getD j z58 := rfl
theorem getD_lt {α : Type} (l : List α) (z : α) {j : Nat} (h : j < l.length) : l.getD j z = l[j] := by
 rw [List.getD_eq_getElem?_getD, List.getElem?_eq_getElem h]; rfl
theorem getD_mem {α : Type} (l : List α) (z : α) {j : Nat} (h : j < l.length) : l.getD j z ∈ l := by
 rw [getD_lt _ _ h]; exact List.getElem_mem _
theorem getD_map {α β : Type} (f : α → β) (l : List α) (z : α) (y : β) {j : Nat} (h : j < l.length) : (l.map f).getD j y = f (l.getD j z) := by
 rw [getD_lt _ _ (by simpa using h), getD_lt _ _ h]; simp
theorem take_step {α : Type} (l : List α) (z : α) {j : Nat} (h : j < l.length) : l.take j ++ [l.getD j z] = l.take (j + 1) := by
 rw [getD_lt _ _ h]; simp
theorem nlt {a b : Nat} (h : a < b) : (a : Int) < (b : Int) := by omega
theorem nge {a b : Nat} (h : ¬ a < b) : ¬ (a : Int) < (b : Int) := by omega
theorem list_one (m : Fin 2048) {k : Nat} (hk : 40 ≤ k) : dom_Dom_List.f k (D m).f0 (D m).f1 (D m).f2 (D m).f3 (D m).f4 = some (LL m) :=
 up (f := fun k => dom_Dom_List.f k _ _ _ _ _) (dom_Dom_List.mono _ _ _ _ _) (list_all m) hk
theorem place_one {v : Int} (hv : -5 ≤ v ∧ v ≤ 5) : dom_place.f v = some (if v < 0 then -64 else 0) := by
 have h := place_all ⟨(v + 5).toNat, by omega⟩
 simp only [] at h
 rwa [show (((v + 5).toNat : Nat) : Int) - 5 = v by omega] at h
def wd (neg pos : Bool) (m : Nat) : List Int := (if neg then [((m % 32 * 576460752303423488 : Nat) : Int)] else []) ++ (if pos then [((m / 32 : Nat) : Int)] else [])
def off (neg : Bool) : Int := if neg then -64 else 0
theorem put_one (neg pos : Bool) (m : Fin 2048) {v : Int} (hv : -5 ≤ v ∧ v ≤ 5) (hn : v < 0 → neg = true) (hp : 0 ≤ v → pos = true) :
  ∃ i : Nat, wrap64 (Int.tdiv (wrap64 (v - off neg)) 64) = (i : Int) ∧ i < (wd neg pos m.val).length ∧ 0 ≤ Int.tmod (wrap64 (v - off neg)) 64 ∧ (wd neg pos m.val).set i (Go.bits .or .u64 (rd (wd neg pos m.val) (i : Int)) (shl .u64 1 (Int.tmod (wrap64 (v - off neg)) 64))) = wd neg pos (m.val ||| 1 <<< (v + 5).toNat) := by
 have hs := split_all m ⟨(v + 5).toNat, by omega⟩
 simp only [] at hs
 by_cases h : v < 0
 ·
  obtain rfl := hn h
  have hl := put_lo ⟨m.val % 32, Nat.mod_lt _ (by decide)⟩ ⟨(v + 5).toNat, by omega⟩
  simp only [] at hl
  rw [ipo_, ipo_, Nat.or_zero] at hs
  rw [show (((v + 5).toNat : Nat) : Int) - 5 = v by omega] at hl
  have e1 : wrap64 (v - off true) = v + 64 := by rw [show off true = -64 from rfl, wrap_id (by omega) (by omega)]; omega
  have e2 : Int.tdiv (v + 64) 64 = 0 := Int.tdiv_eq_zero_of_lt (by omega) (by omega)
  refine ⟨0, by rw [e1, e2]; decide +kernel, by simp [wd], by rw [e1]; exact Int.tmod_nonneg _ (by omega), ?_⟩
  show List.set (((m.val % 32 * 576460752303423488 : Nat) : Int) :: _) 0 (Go.bits .or .u64 ((m.val % 32 * 576460752303423488 : Nat) : Int) (shl .u64 1 (Int.tmod (wrap64 (v - (-64))) 64))) = _
  rw [List.set_cons_zero, hl]
  unfold wd
  rw [hs.1, hs.2]; rfl
 ·
  obtain rfl := hp (by omega)
  rw [ino_, ino_, Nat.or_zero] at hs
  have hh := put_hi ⟨m.val / 32, by have := m.isLt; omega⟩ ⟨v.toNat, by omega⟩
  simp only [] at hh
  rw [show ((v.toNat : Nat) : Int) = v by omega] at hh
  have e0 : (v + 5).toNat - 5 = v.toNat := by omega
  cases neg with
  | true =>
   have e1 : wrap64 (v - off true) = v + 64 := by rw [show off true = -64 from rfl, wrap_id (by omega) (by omega)]; omega
   have e2 : Int.tdiv (v + 64) 64 = 1 := by rw [Int.tdiv_eq_ediv_of_nonneg (by omega)]; omega
   refine ⟨1, by rw [e1, e2]; decide +kernel, by simp [wd], by rw [e1]; exact Int.tmod_nonneg _ (by omega), ?_⟩
   show List.set [((m.val % 32 * 576460752303423488 : Nat) : Int), ((m.val / 32 : Nat) : Int)] 1 (Go.bits .or .u64 ((m.val / 32 : Nat) : Int) (shl .u64 1 (Int.tmod (wrap64 (v - (-64))) 64))) = _
   rw [hh.2]
   unfold wd
   rw [hs.1, hs.2, e0]; rfl
  | false =>
   have e1 : wrap64 (v - off false) = v := by rw [show off false = 0 from rfl, wrap_id (by omega) (by omega)]; omega
   have e2 : Int.tdiv v 64 = 0 := Int.tdiv_eq_zero_of_lt (by omega) (by omega)
   refine ⟨0, by rw [e1, e2]; decide +kernel, by simp [wd], by rw [e1]; exact Int.tmod_nonneg _ (by omega), ?_⟩
   show List.set [((m.val / 32 : Nat) : Int)] 0 (Go.bits .or .u64 ((m.val / 32 : Nat) : Int) (shl .u64 1 (Int.tmod (wrap64 (v - 0)) 64))) = _
   rw [hh.1]
   unfold wd
   rw [hs.1, hs.2, e0]; rfl
theorem wd_D (neg pos : Bool) (m : Fin 2048) (hm : m.val ≠ 0) (hn : neg = true ↔ ¬ (∀ v ∈ LL m, 0 ≤ v)) (hp : pos = true ↔ ¬ (∀ v ∈ LL m, v < 0)) : off neg = (D m).f0 ∧ wd neg pos m.val = (D m).f1 := by
 obtain ⟨h1, h2⟩ := low_all m
 rw [← h1] at hn
 rw [← h2] at hp
 unfold D DM
 cases neg with
 | false =>
  have e : m.val % 32 = 0 := Classical.byContradiction fun h => absurd (hn.2 h) (by decide)
  have ep : pos = true := hp.2 (by omega)
  rw [if_pos e, ep]; exact ⟨rfl, rfl⟩
 | true =>
  rw [if_neg (hn.1 rfl)]
  cases pos with
  | false =>
   have e : m.val / 32 = 0 := Classical.byContradiction fun h => absurd (hp.2 h) (by decide)
   rw [if_pos e]; exact ⟨rfl, rfl⟩
  | true => rw [if_neg (hp.1 rfl)]; exact ⟨rfl, rfl⟩
theorem of_l0 (neg pos : Bool) (l : List Int) (hl : l.length ≤ 2000) (hr : Near l) (hn : ∀ v ∈ l, v < 0 → neg = true) (hp : ∀ v ∈ l, 0 ≤ v → pos = true) : ∀ (m j k : Nat), l.length = j + m → m + 20 < k →
  dom_Of.l0 k l (l.length : Int) (j : Int) (off neg) (wd neg pos (msk (l.take j))) 0 0 0 = (dom_made.f (k - m - 1) (off neg) (wd neg pos (msk l))).bind fun bt => some (bt.1, bt.2.1, bt.2.2.1, bt.2.2.2.1, bt.2.2.2.2, 0)
 | 0, j, k + 1, e, hk => by
  rw [dom_Of.l0, ino_, List.take_of_length_le (by omega)]
  rfl
 | m + 1, j, k + 1, e, hk => by
  have hj : j < l.length := by omega
  have hv := getD_mem l 0 hj
  have hnt : Near (l.take j) := fun u hu => hr u (List.mem_of_mem_take hu)
  obtain ⟨i, e1, e2, e3, e4⟩ := put_one neg pos ⟨msk (l.take j), msk_lt hnt⟩ (hr _ hv) (hn _ hv) (hp _ hv)
  simp only [] at e2 e4
  have e5 : msk (l.take (j + 1)) = msk (l.take j) ||| 1 <<< (l.getD j 0 + 5).toNat := by
   rw [← take_step l 0 hj, msk_append, msk, msk, Nat.zero_or]
  rw [dom_Of.l0, if_pos (nlt hj), ipo_, if_pos (nlt hj), rd_at, e1, ipo_, if_pos (nlt e2), if_pos e3, Int.toNat_natCast, e4, ← e5, wsu_, of_l0 neg pos l hl hr hn hp m (j + 1) k (by omega) (by omega)]
  rw [show k + 1 - (m + 1) - 1 = k - m - 1 by omega]
theorem idx_of (l : List Int) (hl : l.length ≤ 2000) (hr : Near l) : ∀ (m j k : Nat), l.length = j + m → m < k → slices_IndexFunc_int_int_87_at_dom_Of_1.l0 k l (l.length : Int) (j : Int) = some (-1)
 | 0, j, k + 1, e, _ => by rw [slices_IndexFunc_int_int_87_at_dom_Of_1.l0, ino_]
 | m + 1, j, k + 1, e, hk => by
  have hj : j < l.length := by omega
  have hv := hr _ (getD_mem l 0 hj)
  have hf : dom_Of_1.f (l.getD j 0) = some false := by
   unfold dom_Of_1.f dom_in.f
   rw [ipo_, obs_, decide_eq_true (by omega)]; rfl
  rw [slices_IndexFunc_int_int_87_at_dom_Of_1.l0, if_pos (nlt hj), ipo_, if_pos (nlt hj), rd_at, hf, obs_, ind_, wsu_]
  exact idx_of l hl hr m (j + 1) k (by omega) (by omega)
theorem room_f {a b : Int} (ha : -5 ≤ a ∧ a ≤ 5) (hb : -5 ≤ b ∧ b ≤ 5) (hab : a ≤ b) : dom_room.f a b = some (off (decide (a < 0)), wd (decide (a < 0)) (decide (0 ≤ b)) 0, 0, 0, 0) := by
 unfold dom_room.f
 rw [place_one ha, obs_, place_one hb, obs_, obs_]
 by_cases h1 : a < 0
 ·
  rw [if_pos h1, decide_eq_true h1]
  by_cases h2 : b < 0
  ·
   rw [if_pos h2, decide_eq_false (by omega)]; decide +kernel
  ·
   rw [if_neg h2, decide_eq_true (by omega)]; decide +kernel
 ·
  rw [if_neg h1, if_neg (show ¬ b < 0 by omega), decide_eq_false h1, decide_eq_true (by omega)]; decide +kernel
theorem of_list (l : List Int) (h0 : l ≠ []) (hl : l.length ≤ 2000) (hr : Near l) {k : Nat} (hk : l.length + 20 < k) : dom_Of.f k l = some ((D (mk l)).f0, (D (mk l)).f1, (D (mk l)).f2, (D (mk l)).f3, (D (mk l)).f4, 0) := by
 have hp : 0 < l.length := List.length_pos_iff.2 h0
 have h00 := getD_mem l 0 hp
 obtain ⟨a1, a2, a3⟩ := fold_mn l (rd l 0)
 obtain ⟨b1, b2, b3⟩ := fold_mx l (rd l 0)
 have ham : l.foldl mn (rd l 0) ∈ l := by
  rcases a3 with h | h
  ·
   rw [h]; exact h00
  ·
   exact h
 have hbm : l.foldl mx (rd l 0) ∈ l := by
  rcases b3 with h | h
  ·
   rw [h]; exact h00
  ·
   exact h
 have hra := hr _ ham
 have hrb := hr _ hbm
 have emin : slices_Min_int.f l = some (l.foldl mn (rd l 0)) := by unfold slices_Min_int.f; rw [if_neg h0]
 have emax : slices_Max_int.f l = some (l.foldl mx (rd l 0)) := by unfold slices_Max_int.f; rw [if_neg h0]
 have hidx : slices_IndexFunc_int_int_87_at_dom_Of_1.l0 k l (l.length : Int) 0 = some (-1) := idx_of l hl hr l.length 0 k (by omega) (by omega)
 generalize l.foldl mn (rd l 0) = a at *
 generalize l.foldl mx (rd l 0) = b at *
 have hw : wrap64 (b - a) = b - a := wrap_id (by omega) (by omega)
 have hc : slices_ContainsFunc_int_int_61_at_dom_Of_1.f k l = some false := by
  unfold slices_ContainsFunc_int_int_61_at_dom_Of_1.f slices_IndexFunc_int_int_87_at_dom_Of_1.f
  rw [hidx, obs_]; rfl
 unfold dom_Of.f
 rw [ino_, hc, obs_, ind_, emax, obs_, emin, obs_, hw, ino_, obs_, obs_, room_f hra hrb (by omega), obs_]
 have hcall := of_l0 (decide (a < 0)) (decide (0 ≤ b)) l hl hr (fun v hv h => decide_eq_true (by have := a2 v hv; omega)) (fun v hv h => decide_eq_true (by have := b2 v hv; omega)) l.length 0 k (by omega) (by omega)
 have hcall' : dom_Of.l0 k l (l.length : Int) 0 (off (decide (a < 0))) (wd (decide (a < 0)) (decide (0 ≤ b)) 0) 0 0 0 = _ := hcall
 rw [hcall']
 have hne := mk_ne hr h0
 obtain ⟨w1, w2⟩ := wd_D (decide (a < 0)) (decide (0 ≤ b)) (mk l) hne (by
   rw [decide_eq_true_iff]
   constructor
   ·
    exact fun h h' => by have := h' a ((mem_mk hr).2 ham); omega
   ·
    exact fun h => Classical.byContradiction fun h' => h fun v hv => by have := a2 v ((mem_mk hr).1 hv); omega) (by
   rw [decide_eq_true_iff]
   constructor
   ·
    exact fun h h' => by have := h' b ((mem_mk hr).2 hbm); omega
   ·
    exact fun h => Classical.byContradiction fun h' => h fun v hv => by have := b2 v ((mem_mk hr).1 hv); omega)
 rw [mk_val hr] at w2
 rw [w1, w2]
 have hm := up (f := fun k => dom_made.f k (D (mk l)).f0 (D (mk l)).f1) (dom_made.mono _ _) (made_all _ hne) (show 10 ≤ k - l.length - 1 by omega)
 rw [hm, obs_]
theorem of_one {m : Fin 2048} (hm : m.val ≠ 0) {k : Nat} (hk : 40 ≤ k) : dom_Of.f k (LL m) = some ((D m).f0, (D m).f1, (D m).f2, (D m).f3, (D m).f4, 0) := by
 have h := of_list (LL m) (fun h => ne_all m hm (by rw [h]; rfl)) (by have := (len_all m).1; omega) (near_LL m) (k := k) (by have := (len_all m).1; omega)
 rwa [mk_LL] at h
theorem hi_lt (m : Fin 2048) : m.val / 32 < 64 := by have := m.isLt; omega
def Rep (r : Nat) (m : Fin 2048) : Prop := (r = 0 → m.val % 32 = 0) ∧ (r = 1 → m.val / 32 = 0)
theorem rep_D (m : Fin 2048) : ∃ r, Rep r m ∧ D m = DR r m := by
 by_cases h0 : m.val % 32 = 0
 ·
  refine ⟨0, ⟨fun _ => h0, fun h => absurd h (by decide)⟩, ?_⟩
  unfold D DM DR
  rw [if_pos h0, if_pos rfl, if_pos rfl]; rfl
 ·
  by_cases h1 : m.val / 32 = 0
  ·
   refine ⟨1, ⟨fun h => absurd h (by decide), fun _ => h1⟩, ?_⟩
   unfold D DM DR
   rw [if_neg h0, if_pos h1, ind_, ind_, if_pos rfl]; rfl
  ·
   refine ⟨2, ⟨fun h => absurd h (by decide), fun h => absurd h (by decide)⟩, ?_⟩
   unfold D DM DR
   rw [if_neg h0, if_neg h1, ind_, ind_, ind_]; rfl
theorem and63 (m : Fin 2048) : (m.val / 32 &&& 63) = m.val / 32 := by rw [show (63 : Nat) = 2 ^ 6 - 1 from rfl, Nat.and_two_pow_sub_one_eq_mod]; exact Nat.mod_eq_of_lt (hi_lt m)
theorem and31 (m : Fin 2048) : (m.val % 32 &&& 31) = m.val % 32 := by rw [show (31 : Nat) = 2 ^ 5 - 1 from rfl, Nat.and_two_pow_sub_one_eq_mod]; exact Nat.mod_eq_of_lt (Nat.mod_lt _ (by decide))
theorem mem_LL {m : Fin 2048} {v : Int} : v ∈ LL m ↔ (-5 ≤ v ∧ v ≤ 5) ∧ m.val.testBit (v + 5).toNat = true := mem_L
theorem place64 {v : Int} (hv : -5 ≤ v ∧ v ≤ 5) : dom_place.f v = some (if v < 0 then -64 else 0) := place_one hv
theorem low_bit (m : Fin 2048) (j : Nat) (hj : j < 5) : (m.val % 32).testBit j = m.val.testBit j := by
 rw [show (32 : Nat) = 2 ^ 5 from rfl, Nat.testBit_mod_two_pow, decide_eq_true hj, Bool.true_and]
theorem high_bit (m : Fin 2048) (j : Nat) : (m.val / 32).testBit j = m.val.testBit (j + 5) := by
 rw [show (32 : Nat) = 2 ^ 5 from rfl, Nat.testBit_div_two_pow]
theorem word_lo {r : Nat} {m : Fin 2048} (h : Rep r m) (a b c : Int) : dom_Dom_word.f (DR r m).f0 (DR r m).f1 a b c (-64) = some (lo m) := by
 unfold DR dom_Dom_word.f
 by_cases h0 : r = 0
 ·
  have e : lo m = 0 := by unfold lo; rw [h.1 h0]; rfl
  simp only [if_pos h0]
  rw [if_pos (by decide), e]
 ·
  simp only [if_neg h0]
  have e1 : wrap64 (Int.tdiv (wrap64 (-64 - -64)) 64) = 0 := by decide +kernel
  rw [ind_, e1]
  by_cases h1 : r = 1
  ·
   rw [if_pos h1, if_neg (by simp), if_pos (by decide), if_pos (by simp)]; rfl
  ·
   rw [if_neg h1, if_neg (by simp), if_pos (by decide), if_pos (by simp)]; rfl
theorem word_hi {r : Nat} {m : Fin 2048} (h : Rep r m) (a b c : Int) : dom_Dom_word.f (DR r m).f0 (DR r m).f1 a b c 0 = some (hi m) := by
 unfold DR dom_Dom_word.f
 by_cases h0 : r = 0
 ·
  simp only [if_pos h0]
  have e1 : wrap64 (Int.tdiv (wrap64 (0 - 0)) 64) = 0 := by decide +kernel
  rw [ind_, e1, if_neg (by simp), if_pos (by decide), if_pos (by simp)]; rfl
 ·
  simp only [if_neg h0]
  have e1 : wrap64 (Int.tdiv (wrap64 (0 - -64)) 64) = 1 := by decide +kernel
  rw [ind_, e1]
  by_cases h1 : r = 1
  ·
   have e : hi m = 0 := by unfold hi; rw [h.2 h1]; rfl
   rw [if_pos h1, if_pos (by simp), e]
  ·
   rw [if_neg h1, if_neg (by simp), if_pos (by decide), if_pos (by simp)]; rfl
theorem has_dr {r : Nat} {m : Fin 2048} (h : Rep r m) {v : Int} (hv : -5 ≤ v ∧ v ≤ 5) (a b c : Int) : dom_Dom_Has.f (DR r m).f0 (DR r m).f1 a b c v = some (decide (v ∈ LL m)) := by
 have hin : dom_in.f v = some true := by unfold dom_in.f; rw [ipo_, decide_eq_true (by omega)]
 unfold dom_Dom_Has.f
 rw [hin, obs_, if_pos rfl, place64 hv, obs_]
 by_cases hn : v < 0
 ·
  have hw : wrap64 (v - -64) = ((((v + 5).toNat : Nat) : Int) + 59) := by rw [wrap_id (by omega) (by omega)]; omega
  have hb := bit_lo_all ⟨m.val % 32, Nat.mod_lt _ (by decide)⟩ ⟨(v + 5).toNat, by omega⟩
  simp only [] at hb
  rw [if_pos hn, word_lo h, obs_, obs_, hw, ipo_]
  unfold lo
  rw [hb, low_bit m _ (by omega)]
  congr 1
  rw [Bool.eq_iff_iff, decide_eq_true_iff, mem_LL]
  exact ⟨fun h => ⟨hv, h⟩, fun h => h.2⟩
 ·
  have hw : wrap64 (v - 0) = ((v.toNat : Nat) : Int) := by rw [wrap_id (by omega) (by omega)]; omega
  have hb := bit_hi_all ⟨m.val / 32, hi_lt m⟩ ⟨v.toNat, by omega⟩
  simp only [] at hb
  rw [if_neg hn, word_hi h, obs_, obs_, hw, ipo_]
  unfold hi
  rw [hb, high_bit, show v.toNat + 5 = (v + 5).toNat by omega]
  congr 1
  rw [Bool.eq_iff_iff, decide_eq_true_iff, mem_LL]
  exact ⟨fun h => ⟨hv, h⟩, fun h => h.2⟩
theorem size_dr (r : Nat) (m : Fin 2048) : dom_Dom_Size.f (DR r m).f0 (DR r m).f1 (DR r m).f2 (DR r m).f3 (DR r m).f4 = some ((LL m).length : Int) := rfl
theorem made_dr {r : Nat} {m : Fin 2048} (h : Rep r m) (hm : m.val ≠ 0) {k : Nat} (hk : 10 ≤ k) : dom_made.f k (DR r m).f0 (DR r m).f1 = some ((DR r m).f0, (DR r m).f1, (DR r m).f2, (DR r m).f3, (DR r m).f4) := by
 refine up (f := fun k => dom_made.f k (DR r m).f0 (DR r m).f1) (dom_made.mono _ _) ?_ hk
 unfold DR
 by_cases h0 : r = 0
 ·
  simp only [if_pos h0]
  have hz := h.1 h0
  have e := rmade0_all ⟨m.val / 32, hi_lt m⟩ (by simp only []; omega)
  simp only [] at e
  rw [show m.val / 32 * 32 = m.val by omega] at e
  exact e
 ·
  simp only [if_neg h0]
  by_cases h1 : r = 1
  ·
   have hz := h.2 h1
   have e := rmade1_all ⟨m.val % 32, Nat.mod_lt _ (by decide)⟩ (by simp only []; omega)
   simp only [] at e
   simp only [if_pos h1]
   have e2 : m.val % 32 = m.val := by omega
   unfold lo LL
   rw [e2] at e ⊢
   exact e
  ·
   simp only [if_neg h1]
   exact rmade2_all m hm
def wo (m : Fin 2048) (v : Int) : Fin 2048 := cutm m (2047 ^^^ 1 <<< (v + 5).toNat)
def on (m : Fin 2048) (v : Int) : Fin 2048 := cutm m (1 <<< (v + 5).toNat)
theorem mem_wo {m : Fin 2048} {v : Int} (hv : -5 ≤ v ∧ v ≤ 5) {u : Int} : u ∈ LL (wo m v) ↔ u ∈ LL m ∧ u ≠ v := by
 rw [mem_LL, mem_LL]
 show _ ∧ (m.val &&& (2047 ^^^ 1 <<< (v + 5).toNat)).testBit _ = true ↔ _
 rw [Nat.testBit_and, Nat.testBit_xor, show (2047 : Nat) = 2 ^ 11 - 1 from rfl, Nat.testBit_two_pow_sub_one, Nat.one_shiftLeft, Nat.testBit_two_pow]
 constructor
 ·
  rintro ⟨hu, h⟩
  rw [decide_eq_true (show (u + 5).toNat < 11 by omega), Bool.and_eq_true] at h
  refine ⟨⟨hu, h.1⟩, fun e => ?_⟩
  rw [e, decide_eq_true rfl] at h
  exact absurd h.2 (by decide)
 ·
  rintro ⟨⟨hu, h⟩, hne⟩
  refine ⟨hu, ?_⟩
  rw [h, decide_eq_true (show (u + 5).toNat < 11 by omega), decide_eq_false (by omega)]
  rfl
theorem mem_on {m : Fin 2048} {v : Int} (hv : -5 ≤ v ∧ v ≤ 5) {u : Int} : u ∈ LL (on m v) ↔ u ∈ LL m ∧ u = v := by
 rw [mem_LL, mem_LL]
 show _ ∧ (m.val &&& 1 <<< (v + 5).toNat).testBit _ = true ↔ _
 rw [Nat.testBit_and, Nat.one_shiftLeft, Nat.testBit_two_pow, Bool.and_eq_true, decide_eq_true_iff]
 constructor
 ·
  rintro ⟨hu, h⟩
  exact ⟨⟨hu, h.1⟩, by omega⟩
 ·
  rintro ⟨⟨hu, h⟩, e⟩
  exact ⟨hu, h, by rw [e]⟩
theorem LL_wo {m : Fin 2048} {v : Int} (hv : -5 ≤ v ∧ v ≤ 5) : LL (wo m v) = (LL m).filter fun u => decide (u ≠ v) :=
 L_filter fun u _ _ => by
  show u ∈ LL (wo m v) ↔ u ∈ LL m ∧ _
  rw [mem_wo hv, decide_eq_true_iff]
theorem LL_on {m : Fin 2048} {v : Int} (hv : -5 ≤ v ∧ v ≤ 5) : LL (on m v) = (LL m).filter fun u => decide (u = v) :=
 L_filter fun u _ _ => by
  show u ∈ LL (on m v) ↔ u ∈ LL m ∧ _
  rw [mem_on hv, decide_eq_true_iff]
theorem without_at {v : Int} (hv : -5 ≤ v ∧ v ≤ 5) (m : Fin 2048) (w : Int) :
  (∃ t, dom_Dom_Without_1.f (-64) w v = some t ∧ Go.bits .and .u64 (lo m) t = lo (wo m v)) ∧ (∃ t, dom_Dom_Without_1.f 0 w v = some t ∧ Go.bits .and .u64 (hi m) t = hi (wo m v)) := by
 have hs := wsplit_all m ⟨(v + 5).toNat, by omega⟩
 simp only [] at hs
 have ah := and_hi_all ⟨m.val / 32, hi_lt m⟩
 have al := and_lo_all ⟨m.val % 32, Nat.mod_lt _ (by decide)⟩
 simp only [] at ah al
 unfold dom_Dom_Without_1.f
 rw [place64 hv, obs_, obs_]
 by_cases hn : v < 0
 ·
  have hw : wrap64 (v - -64) = ((((v + 5).toNat : Nat) : Int) + 59) := by rw [wrap_id (by omega) (by omega)]; omega
  have hb := wo_lo_all ⟨m.val % 32, Nat.mod_lt _ (by decide)⟩ ⟨(v + 5).toNat, by omega⟩
  simp only [] at hb
  rw [ipo_, ipo_] at hs
  rw [if_pos hn, if_pos rfl, if_neg (show ¬ (0 : Int) = -64 by decide), hw, ipo_]
  refine ⟨⟨_, rfl, ?_⟩, ⟨_, rfl, ?_⟩⟩
  ·
   show Go.bits .and .u64 ((m.val % 32 * 576460752303423488 : Nat) : Int) _ = (((wo m v).val % 32 * 576460752303423488 : Nat) : Int)
   rw [hb]
   show _ = (((m.val &&& _) % 32 * 576460752303423488 : Nat) : Int)
   rw [hs.1]
  ·
   show Go.bits .and .u64 ((m.val / 32 : Nat) : Int) _ = (((m.val &&& _) / 32 : Nat) : Int)
   rw [hs.2]
   rw [and63]; exact ah.1
 ·
  have hw : wrap64 (v - 0) = ((v.toNat : Nat) : Int) := by rw [wrap_id (by omega) (by omega)]; omega
  have hb := wo_hi_all ⟨m.val / 32, hi_lt m⟩ ⟨v.toNat, by omega⟩
  simp only [] at hb
  rw [ino_, ino_, show (v + 5).toNat - 5 = v.toNat by omega] at hs
  rw [if_neg hn, if_neg (show ¬ (-64 : Int) = 0 by decide), if_pos rfl, hw, ipo_]
  refine ⟨⟨_, rfl, ?_⟩, ⟨_, rfl, ?_⟩⟩
  ·
   show Go.bits .and .u64 ((m.val % 32 * 576460752303423488 : Nat) : Int) _ = (((m.val &&& _) % 32 * 576460752303423488 : Nat) : Int)
   rw [hs.1]
   rw [and31]; exact al.1
  ·
   show Go.bits .and .u64 ((m.val / 32 : Nat) : Int) _ = (((m.val &&& _) / 32 : Nat) : Int)
   rw [hs.2]
   exact hb
theorem without_rep {r : Nat} {m : Fin 2048} (h : Rep r m) (v : Int) : Rep r (wo m v) := by
 refine ⟨fun e => ?_, fun e => ?_⟩
 ·
  have h0 := h.1 e
  show (m.val &&& _) % 32 = 0
  apply Nat.eq_of_testBit_eq
  intro i
  rw [show (32 : Nat) = 2 ^ 5 from rfl, Nat.testBit_mod_two_pow, Nat.zero_testBit, Nat.testBit_and]
  by_cases hi : i < 5
  ·
   have := low_bit m i hi
   rw [h0, Nat.zero_testBit] at this
   rw [← this, Bool.false_and, Bool.and_false]
  ·
   rw [decide_eq_false hi, Bool.false_and]
 ·
  have h1 := h.2 e
  show (m.val &&& _) / 32 = 0
  have h2 : (m.val &&& (2047 ^^^ 1 <<< (v + 5).toNat)) ≤ m.val := Nat.and_le_left
  omega
theorem without_dr {r : Nat} {m : Fin 2048} (h : Rep r m) {v : Int} (hv : -5 ≤ v ∧ v ≤ 5) (hz : (wo m v).val ≠ 0) (hl : (LL (wo m v)).length < (LL m).length) {k : Nat} (hk : 20 ≤ k) :
  ∃ c, dom_Dom_Without.f k (DR r m).f0 (DR r m).f1 (DR r m).f2 (DR r m).f3 (DR r m).f4 v = some ((DR r (wo m v)).f0, (DR r (wo m v)).f1, (DR r (wo m v)).f2, (DR r (wo m v)).f3, (DR r (wo m v)).f4, c) := by
 have hr := without_rep h v
 have hne : (LL (wo m v)).length ≠ 0 := ne_all _ hz
 have fin : ∀ k, 10 ≤ k → ∃ c, ((dom_made.f k (DR r (wo m v)).f0 (DR r (wo m v)).f1).bind fun bt => (if bt.2.2.2.2 = (DR r m).f4 then (none : Option (Int × List Int × Int × Int × Int × Int)) else (if bt.2.2.2.2 = 0 then none else (if bt.2.2.2.2 = 1 then (some (bt.1, bt.2.1, bt.2.2.1, bt.2.2.2.1, bt.2.2.2.2, 3)) else (if bt.2.2.1 = (DR r m).f2 then (if bt.2.2.2.1 = (DR r m).f3 then (some (bt.1, bt.2.1, bt.2.2.1, bt.2.2.2.1, bt.2.2.2.2, 1)) else (some (bt.1, bt.2.1, bt.2.2.1, bt.2.2.2.1, bt.2.2.2.2, 2))) else (some (bt.1, bt.2.1, bt.2.2.1, bt.2.2.2.1, bt.2.2.2.2, 2))))))) = some ((DR r (wo m v)).f0, (DR r (wo m v)).f1, (DR r (wo m v)).f2, (DR r (wo m v)).f3, (DR r (wo m v)).f4, c) := by
  intro k hk
  rw [made_dr hr hz hk, obs_]
  simp only []
  rw [if_neg (show ¬ (DR r (wo m v)).f4 = (DR r m).f4 from fun e => by have : ((LL (wo m v)).length : Int) = ((LL m).length : Int) := e; omega), if_neg (show ¬ (DR r (wo m v)).f4 = 0 from fun e => by have : ((LL (wo m v)).length : Int) = 0 := e; omega)]
  split
  ·
   exact ⟨3, rfl⟩
  ·
   split
   ·
    split
    ·
     exact ⟨1, rfl⟩
    ·
     exact ⟨2, rfl⟩
   ·
    exact ⟨2, rfl⟩
 obtain ⟨⟨t1, a1, b1⟩, ⟨t2, a2, b2⟩⟩ := (without_at hv m 0)
 have a1' : ∀ w, dom_Dom_Without_1.f (-64) w v = some t1 := fun w => a1
 have a2' : ∀ w, dom_Dom_Without_1.f 0 w v = some t2 := fun w => a2
 unfold dom_Dom_Without.f dom_Dom_less_at_dom_Dom_Without_1.f slices_CloneU64.f
 obtain ⟨k, rfl⟩ : ∃ k', k = k' + 3 := ⟨k - 3, by omega⟩
 have w0 : wrap64 (64 * 0) = 0 := by decide +kernel
 have w1 : wrap64 (64 * 1) = 64 := by decide +kernel
 have w2 : wrap64 (0 + 1) = 1 := by decide +kernel
 have w3 : wrap64 (1 + 1) = 2 := by decide +kernel
 have w4 : wrap64 (-64 + 0) = -64 := by decide +kernel
 have w5 : wrap64 (-64 + 64) = 0 := by decide +kernel
 have w6 : wrap64 (0 + 0) = 0 := by decide +kernel
 by_cases h0 : r = 0
 ·
  obtain ⟨c, e⟩ := fin (k + 1) (by omega)
  refine ⟨c, ?_⟩
  have ef : (DR r m).f1 = [hi m] := by unfold DR; simp only [if_pos h0]
  have eo : (DR r m).f0 = 0 := by unfold DR; simp only [if_pos h0]
  have ef' : (DR r (wo m v)).f1 = [hi (wo m v)] := by unfold DR; simp only [if_pos h0]
  have eo' : (DR r (wo m v)).f0 = 0 := by unfold DR; simp only [if_pos h0]
  rw [ef, eo, if_pos (by simp), obs_, dom_Dom_less_at_dom_Dom_Without_1.l0, if_pos (by simp), if_pos (by decide), if_pos (by simp), w0, w6, a2', obs_, w2]
  show (dom_Dom_less_at_dom_Dom_Without_1.l0 (k + 2) [Go.bits .and .u64 (hi m) t2] 1 1 0 [hi m] _ _ _ v).bind _ = _
  rw [b2, dom_Dom_less_at_dom_Dom_Without_1.l0, ind_]
  rw [eo', ef'] at e
  rw [ef', eo']
  rw [show k + 1 = k + 1 from rfl] at e
  have e2 := e
  rw [e2]
  rfl
 ·
  by_cases h1 : r = 1
  ·
   obtain ⟨c, e⟩ := fin (k + 1) (by omega)
   refine ⟨c, ?_⟩
   have ef : (DR r m).f1 = [lo m] := by unfold DR; simp only [if_neg h0, if_pos h1]
   have eo : (DR r m).f0 = -64 := by unfold DR; simp only [if_neg h0]
   have ef' : (DR r (wo m v)).f1 = [lo (wo m v)] := by unfold DR; simp only [if_neg h0, if_pos h1]
   have eo' : (DR r (wo m v)).f0 = -64 := by unfold DR; simp only [if_neg h0]
   rw [ef, eo, if_pos (by simp), obs_, dom_Dom_less_at_dom_Dom_Without_1.l0, if_pos (by simp), if_pos (by decide), if_pos (by simp), w0, w4, a1', obs_, w2]
   show (dom_Dom_less_at_dom_Dom_Without_1.l0 (k + 2) [Go.bits .and .u64 (lo m) t1] 1 1 (-64) [lo m] _ _ _ v).bind _ = _
   rw [b1, dom_Dom_less_at_dom_Dom_Without_1.l0, ind_]
   rw [eo', ef'] at e
   rw [ef', eo', e]
   rfl
  ·
   obtain ⟨c, e⟩ := fin k (by omega)
   refine ⟨c, ?_⟩
   have ef : (DR r m).f1 = [lo m, hi m] := by unfold DR; simp only [if_neg h0, if_neg h1]
   have eo : (DR r m).f0 = -64 := by unfold DR; simp only [if_neg h0]
   have ef' : (DR r (wo m v)).f1 = [lo (wo m v), hi (wo m v)] := by unfold DR; simp only [if_neg h0, if_neg h1]
   have eo' : (DR r (wo m v)).f0 = -64 := by unfold DR; simp only [if_neg h0]
   rw [ef, eo, if_pos (by simp), obs_, dom_Dom_less_at_dom_Dom_Without_1.l0, if_pos (by simp), if_pos (by decide), if_pos (by simp), w0, w4, a1', obs_, w2]
   show (dom_Dom_less_at_dom_Dom_Without_1.l0 (k + 2) [Go.bits .and .u64 (lo m) t1, hi m] 2 1 (-64) [lo m, hi m] _ _ _ v).bind _ = _
   rw [dom_Dom_less_at_dom_Dom_Without_1.l0, if_pos (by decide), if_pos (by decide), if_pos (by simp), w1, w5, a2', obs_, w3]
   show (dom_Dom_less_at_dom_Dom_Without_1.l0 (k + 1) [Go.bits .and .u64 (lo m) t1, Go.bits .and .u64 (hi m) t2] 2 2 (-64) [lo m, hi m] _ _ _ v).bind _ = _
   rw [b1, b2, dom_Dom_less_at_dom_Dom_Without_1.l0, ind_]
   rw [eo', ef'] at e
   rw [ef', eo', e]
   rfl
theorem only_at {v : Int} (hv : -5 ≤ v ∧ v ≤ 5) (m : Fin 2048) (w : Int) :
  (∃ t, dom_Dom_Only_1.f (-64) w v = some t ∧ Go.bits .and .u64 (lo m) t = lo (on m v)) ∧ (∃ t, dom_Dom_Only_1.f 0 w v = some t ∧ Go.bits .and .u64 (hi m) t = hi (on m v)) := by
 have hs := osplit_all m ⟨(v + 5).toNat, by omega⟩
 simp only [] at hs
 have ah := and_hi_all ⟨m.val / 32, hi_lt m⟩
 have al := and_lo_all ⟨m.val % 32, Nat.mod_lt _ (by decide)⟩
 simp only [] at ah al
 unfold dom_Dom_Only_1.f
 rw [place64 hv, obs_, obs_]
 by_cases hn : v < 0
 ·
  have hw : wrap64 (v - -64) = ((((v + 5).toNat : Nat) : Int) + 59) := by rw [wrap_id (by omega) (by omega)]; omega
  have hb := on_lo_all ⟨m.val % 32, Nat.mod_lt _ (by decide)⟩ ⟨(v + 5).toNat, by omega⟩
  simp only [] at hb
  rw [ipo_, ipo_] at hs
  rw [if_pos hn, if_pos rfl, if_neg (show ¬ (0 : Int) = -64 by decide), hw, ipo_]
  refine ⟨⟨_, rfl, ?_⟩, ⟨_, rfl, ?_⟩⟩
  ·
   show Go.bits .and .u64 ((m.val % 32 * 576460752303423488 : Nat) : Int) _ = (((on m v).val % 32 * 576460752303423488 : Nat) : Int)
   rw [hb]
   show _ = (((m.val &&& _) % 32 * 576460752303423488 : Nat) : Int)
   rw [hs.1]
  ·
   show Go.bits .and .u64 ((m.val / 32 : Nat) : Int) _ = (((m.val &&& _) / 32 : Nat) : Int)
   rw [hs.2]
   rw [ah.2, Nat.and_zero]; rfl
 ·
  have hw : wrap64 (v - 0) = ((v.toNat : Nat) : Int) := by rw [wrap_id (by omega) (by omega)]; omega
  have hb := on_hi_all ⟨m.val / 32, hi_lt m⟩ ⟨v.toNat, by omega⟩
  simp only [] at hb
  rw [ino_, ino_, show (v + 5).toNat - 5 = v.toNat by omega] at hs
  rw [if_neg hn, if_neg (show ¬ (-64 : Int) = 0 by decide), if_pos rfl, hw, ipo_]
  refine ⟨⟨_, rfl, ?_⟩, ⟨_, rfl, ?_⟩⟩
  ·
   show Go.bits .and .u64 ((m.val % 32 * 576460752303423488 : Nat) : Int) _ = (((m.val &&& _) % 32 * 576460752303423488 : Nat) : Int)
   rw [hs.1]
   rw [al.2, Nat.and_zero]; rfl
  ·
   show Go.bits .and .u64 ((m.val / 32 : Nat) : Int) _ = (((m.val &&& _) / 32 : Nat) : Int)
   rw [hs.2]
   exact hb
theorem only_rep {r : Nat} {m : Fin 2048} (h : Rep r m) (v : Int) : Rep r (on m v) := by
 refine ⟨fun e => ?_, fun e => ?_⟩
 ·
  have h0 := h.1 e
  show (m.val &&& _) % 32 = 0
  apply Nat.eq_of_testBit_eq
  intro i
  rw [show (32 : Nat) = 2 ^ 5 from rfl, Nat.testBit_mod_two_pow, Nat.zero_testBit, Nat.testBit_and]
  by_cases hi : i < 5
  ·
   have := low_bit m i hi
   rw [h0, Nat.zero_testBit] at this
   rw [← this, Bool.false_and, Bool.and_false]
  ·
   rw [decide_eq_false hi, Bool.false_and]
 ·
  have h1 := h.2 e
  show (m.val &&& _) / 32 = 0
  have h2 : (m.val &&& 1 <<< (v + 5).toNat) ≤ m.val := Nat.and_le_left
  omega
theorem only_dr {r : Nat} {m : Fin 2048} (h : Rep r m) {v : Int} (hv : -5 ≤ v ∧ v ≤ 5) (hz : (on m v).val ≠ 0) (hl : (LL (on m v)).length < (LL m).length) {k : Nat} (hk : 20 ≤ k) :
  ∃ c, dom_Dom_Only.f k (DR r m).f0 (DR r m).f1 (DR r m).f2 (DR r m).f3 (DR r m).f4 v = some ((DR r (on m v)).f0, (DR r (on m v)).f1, (DR r (on m v)).f2, (DR r (on m v)).f3, (DR r (on m v)).f4, c) := by
 have hr := only_rep h v
 have hne : (LL (on m v)).length ≠ 0 := ne_all _ hz
 have fin : ∀ k, 10 ≤ k → ∃ c, ((dom_made.f k (DR r (on m v)).f0 (DR r (on m v)).f1).bind fun bt => (if bt.2.2.2.2 = (DR r m).f4 then (none : Option (Int × List Int × Int × Int × Int × Int)) else (if bt.2.2.2.2 = 0 then none else (if bt.2.2.2.2 = 1 then (some (bt.1, bt.2.1, bt.2.2.1, bt.2.2.2.1, bt.2.2.2.2, 3)) else (if bt.2.2.1 = (DR r m).f2 then (if bt.2.2.2.1 = (DR r m).f3 then (some (bt.1, bt.2.1, bt.2.2.1, bt.2.2.2.1, bt.2.2.2.2, 1)) else (some (bt.1, bt.2.1, bt.2.2.1, bt.2.2.2.1, bt.2.2.2.2, 2))) else (some (bt.1, bt.2.1, bt.2.2.1, bt.2.2.2.1, bt.2.2.2.2, 2))))))) = some ((DR r (on m v)).f0, (DR r (on m v)).f1, (DR r (on m v)).f2, (DR r (on m v)).f3, (DR r (on m v)).f4, c) := by
  intro k hk
  rw [made_dr hr hz hk, obs_]
  simp only []
  rw [if_neg (show ¬ (DR r (on m v)).f4 = (DR r m).f4 from fun e => by have : ((LL (on m v)).length : Int) = ((LL m).length : Int) := e; omega), if_neg (show ¬ (DR r (on m v)).f4 = 0 from fun e => by have : ((LL (on m v)).length : Int) = 0 := e; omega)]
  split
  ·
   exact ⟨3, rfl⟩
  ·
   split
   ·
    split
    ·
     exact ⟨1, rfl⟩
    ·
     exact ⟨2, rfl⟩
   ·
    exact ⟨2, rfl⟩
 obtain ⟨⟨t1, a1, b1⟩, ⟨t2, a2, b2⟩⟩ := (only_at hv m 0)
 have a1' : ∀ w, dom_Dom_Only_1.f (-64) w v = some t1 := fun w => a1
 have a2' : ∀ w, dom_Dom_Only_1.f 0 w v = some t2 := fun w => a2
 unfold dom_Dom_Only.f dom_Dom_less_at_dom_Dom_Only_1.f slices_CloneU64.f
 obtain ⟨k, rfl⟩ : ∃ k', k = k' + 3 := ⟨k - 3, by omega⟩
 have w0 : wrap64 (64 * 0) = 0 := by decide +kernel
 have w1 : wrap64 (64 * 1) = 64 := by decide +kernel
 have w2 : wrap64 (0 + 1) = 1 := by decide +kernel
 have w3 : wrap64 (1 + 1) = 2 := by decide +kernel
 have w4 : wrap64 (-64 + 0) = -64 := by decide +kernel
 have w5 : wrap64 (-64 + 64) = 0 := by decide +kernel
 have w6 : wrap64 (0 + 0) = 0 := by decide +kernel
 by_cases h0 : r = 0
 ·
  obtain ⟨c, e⟩ := fin (k + 1) (by omega)
  refine ⟨c, ?_⟩
  have ef : (DR r m).f1 = [hi m] := by unfold DR; simp only [if_pos h0]
  have eo : (DR r m).f0 = 0 := by unfold DR; simp only [if_pos h0]
  have ef' : (DR r (on m v)).f1 = [hi (on m v)] := by unfold DR; simp only [if_pos h0]
  have eo' : (DR r (on m v)).f0 = 0 := by unfold DR; simp only [if_pos h0]
  rw [ef, eo, if_pos (by simp), obs_, dom_Dom_less_at_dom_Dom_Only_1.l0, if_pos (by simp), if_pos (by decide), if_pos (by simp), w0, w6, a2', obs_, w2]
  show (dom_Dom_less_at_dom_Dom_Only_1.l0 (k + 2) [Go.bits .and .u64 (hi m) t2] 1 1 0 [hi m] _ _ _ v).bind _ = _
  rw [b2, dom_Dom_less_at_dom_Dom_Only_1.l0, ind_]
  rw [eo', ef'] at e
  rw [ef', eo']
  rw [show k + 1 = k + 1 from rfl] at e
  have e2 := e
  rw [e2]
  rfl
 ·
  by_cases h1 : r = 1
  ·
   obtain ⟨c, e⟩ := fin (k + 1) (by omega)
   refine ⟨c, ?_⟩
   have ef : (DR r m).f1 = [lo m] := by unfold DR; simp only [if_neg h0, if_pos h1]
   have eo : (DR r m).f0 = -64 := by unfold DR; simp only [if_neg h0]
   have ef' : (DR r (on m v)).f1 = [lo (on m v)] := by unfold DR; simp only [if_neg h0, if_pos h1]
   have eo' : (DR r (on m v)).f0 = -64 := by unfold DR; simp only [if_neg h0]
   rw [ef, eo, if_pos (by simp), obs_, dom_Dom_less_at_dom_Dom_Only_1.l0, if_pos (by simp), if_pos (by decide), if_pos (by simp), w0, w4, a1', obs_, w2]
   show (dom_Dom_less_at_dom_Dom_Only_1.l0 (k + 2) [Go.bits .and .u64 (lo m) t1] 1 1 (-64) [lo m] _ _ _ v).bind _ = _
   rw [b1, dom_Dom_less_at_dom_Dom_Only_1.l0, ind_]
   rw [eo', ef'] at e
   rw [ef', eo', e]
   rfl
  ·
   obtain ⟨c, e⟩ := fin k (by omega)
   refine ⟨c, ?_⟩
   have ef : (DR r m).f1 = [lo m, hi m] := by unfold DR; simp only [if_neg h0, if_neg h1]
   have eo : (DR r m).f0 = -64 := by unfold DR; simp only [if_neg h0]
   have ef' : (DR r (on m v)).f1 = [lo (on m v), hi (on m v)] := by unfold DR; simp only [if_neg h0, if_neg h1]
   have eo' : (DR r (on m v)).f0 = -64 := by unfold DR; simp only [if_neg h0]
   rw [ef, eo, if_pos (by simp), obs_, dom_Dom_less_at_dom_Dom_Only_1.l0, if_pos (by simp), if_pos (by decide), if_pos (by simp), w0, w4, a1', obs_, w2]
   show (dom_Dom_less_at_dom_Dom_Only_1.l0 (k + 2) [Go.bits .and .u64 (lo m) t1, hi m] 2 1 (-64) [lo m, hi m] _ _ _ v).bind _ = _
   rw [dom_Dom_less_at_dom_Dom_Only_1.l0, if_pos (by decide), if_pos (by decide), if_pos (by simp), w1, w5, a2', obs_, w3]
   show (dom_Dom_less_at_dom_Dom_Only_1.l0 (k + 1) [Go.bits .and .u64 (lo m) t1, Go.bits .and .u64 (hi m) t2] 2 2 (-64) [lo m, hi m] _ _ _ v).bind _ = _
   rw [b1, b2, dom_Dom_less_at_dom_Dom_Only_1.l0, ind_]
   rw [eo', ef'] at e
   rw [ef', eo', e]
   rfl
abbrev Pd := Nat × Fin 2048
def dp (p : Pd) : S58 := DR p.1 p.2
def Fine (st : List Pd) : Prop := ∀ p ∈ st, Rep p.1 p.2 ∧ p.2.val ≠ 0
def isIn (v : Int) (p : Pd) : Bool := decide (v ∈ LL p.2)
def sg (v : Int) (p : Pd) : Bool := isIn v p && decide ((LL p.2).length = 1)
def hit (v : Int) (p : Pd) : Bool := isIn v p && decide (1 < (LL p.2).length)
def cS (v : Int) (st : List Pd) : Nat := st.countP (sg v)
def cC (v : Int) (st : List Pd) : Nat := st.countP (isIn v)
def Fw (v : Int) (p : Pd) : Pd := if hit v p = true then (p.1, wo p.2 v) else p
def Go1 (v : Int) (p : Pd) : Pd := if hit v p = true then (p.1, on p.2 v) else p
def HasOk (v : Int) : Prop := ∀ (r : Nat) (m : Fin 2048), Rep r m → ∀ a b c : Int, dom_Dom_Has.f (DR r m).f0 (DR r m).f1 a b c v = some (decide (v ∈ LL m))
theorem has_near {v : Int} (hv : -5 ≤ v ∧ v ≤ 5) : HasOk v := fun _ _ h a b c => has_dr h hv a b c
theorem vals_nodup : vals.Nodup := by decide
theorem LL_nodup (m : Fin 2048) : (LL m).Nodup := by unfold LL L; exact List.Pairwise.filter _ vals_nodup
theorem other {m : Fin 2048} (h : 1 < (LL m).length) (v : Int) : ∃ u, u ∈ LL m ∧ u ≠ v := by
 have hn := LL_nodup m
 match e : LL m with
 | [] => rw [e] at h; exact absurd h (by decide)
 | [_] => rw [e] at h; exact absurd h (by simp)
 | a :: b :: l =>
  rw [e] at hn
  have hab : a ≠ b := (List.pairwise_cons.1 hn).1 b List.mem_cons_self
  by_cases c : a = v
  ·
   exact ⟨b, by simp, fun h => hab (c.trans h.symm)⟩
  ·
   exact ⟨a, by simp, c⟩
theorem near_in {v : Int} {m : Fin 2048} (h : v ∈ LL m) : -5 ≤ v ∧ v ≤ 5 := (len_all m).2 v h
theorem hit_iff {v : Int} {p : Pd} : hit v p = true ↔ v ∈ LL p.2 ∧ 1 < (LL p.2).length := by
 unfold hit isIn
 rw [Bool.and_eq_true, decide_eq_true_iff, decide_eq_true_iff]
theorem ne_of_mem {m : Fin 2048} {u : Int} (h : u ∈ LL m) : m.val ≠ 0 := fun hz => by
 have : m = ⟨0, by decide⟩ := Fin.ext hz
 have h0 : LL (⟨0, by decide⟩ : Fin 2048) = [] := by decide +kernel
 rw [this, h0] at h
 cases h
theorem wo_good {m : Fin 2048} {v : Int} (hv : v ∈ LL m) (h1 : 1 < (LL m).length) : (wo m v).val ≠ 0 ∧ (LL (wo m v)).length < (LL m).length := by
 have hr := near_in hv
 obtain ⟨u, hu, hne⟩ := other h1 v
 refine ⟨ne_of_mem ((mem_wo hr).2 ⟨hu, hne⟩), ?_⟩
 rw [LL_wo hr]
 refine Nat.lt_of_le_of_ne (List.length_filter_le _ _) fun e => ?_
 have := List.length_filter_eq_length_iff.1 e v hv
 simp at this
theorem on_good {m : Fin 2048} {v : Int} (hv : v ∈ LL m) (h1 : 1 < (LL m).length) : (on m v).val ≠ 0 ∧ (LL (on m v)).length < (LL m).length := by
 have hr := near_in hv
 obtain ⟨u, hu, hne⟩ := other h1 v
 refine ⟨ne_of_mem ((mem_on hr).2 ⟨hv, rfl⟩), ?_⟩
 rw [LL_on hr]
 refine Nat.lt_of_le_of_ne (List.length_filter_le _ _) fun e => ?_
 have := List.length_filter_eq_length_iff.1 e u hu
 simp at this
 exact hne this
theorem fine_F {v : Int} {p : Pd} (h : Rep p.1 p.2 ∧ p.2.val ≠ 0) : Rep (Fw v p).1 (Fw v p).2 ∧ (Fw v p).2.val ≠ 0 := by
 unfold Fw
 by_cases c : hit v p = true
 ·
  rw [if_pos c]
  obtain ⟨h1, h2⟩ := hit_iff.1 c
  exact ⟨without_rep h.1 v, (wo_good h1 h2).1⟩
 ·
  rw [if_neg c]; exact h
theorem fine_G {v : Int} {p : Pd} (h : Rep p.1 p.2 ∧ p.2.val ≠ 0) : Rep (Go1 v p).1 (Go1 v p).2 ∧ (Go1 v p).2.val ≠ 0 := by
 unfold Go1
 by_cases c : hit v p = true
 ·
  rw [if_pos c]
  obtain ⟨h1, h2⟩ := hit_iff.1 c
  exact ⟨only_rep h.1 v, (on_good h1 h2).1⟩
 ·
  rw [if_neg c]; exact h
theorem fine_map {f : Pd → Pd} (hf : ∀ p, Rep p.1 p.2 ∧ p.2.val ≠ 0 → Rep (f p).1 (f p).2 ∧ (f p).2.val ≠ 0) {st : List Pd} (h : Fine st) : Fine (st.map f) := fun q hq => by
 obtain ⟨p, hp, rfl⟩ := List.mem_map.1 hq
 exact hf p (h p hp)
theorem mid {α : Type} (A B : List α) (a z : α) : (A ++ a :: B).getD A.length z = a := by
 rw [List.getD_eq_getElem?_getD, List.getElem?_append_right (Nat.le_refl _), Nat.sub_self]; rfl
theorem mid_map (A B : List Pd) (a : Pd) (z : S58) : ((A ++ a :: B).map dp).getD A.length z = dp a := by
 rw [List.map_append, List.map_cons]
 have := mid (A.map dp) (B.map dp) (dp a) z
 rwa [List.length_map] at this
theorem mid_set (A B : List Pd) (a b : Pd) : ((A ++ a :: B).map dp).set A.length (dp b) = ((A ++ [b]) ++ B).map dp := by
 rw [List.map_append, List.map_cons, List.append_assoc, List.map_append]
 have : (A.map dp ++ dp a :: B.map dp).set (A.map dp).length (dp b) = A.map dp ++ dp b :: B.map dp := by
  rw [List.set_append_right _ _ (Nat.le_refl _), Nat.sub_self]; rfl
 rw [List.length_map] at this
 exact this
theorem counts_l0 {v : Int} (hV : HasOk v) : ∀ (suf pre : List Pd) (k a b : Nat), Fine suf → (pre ++ suf).length ≤ 100 → a + suf.length ≤ 1000 → b + suf.length ≤ 1000 → suf.length < k →
  gcc_counts.l0 k v (a : Int) (b : Int) ((pre ++ suf).map dp) ((pre ++ suf).length : Int) (pre.length : Int) = some (((a + cS v suf : Nat) : Int), ((b + cC v suf : Nat) : Int))
 | [], pre, k + 1, a, b, _, hl, _, _, _ => by
  rw [gcc_counts.l0, if_neg (by simp)]
  simp [cS, cC]
 | p :: suf, pre, k + 1, a, b, hg, hl, ha, hb, hk => by
  have hp := hg p List.mem_cons_self
  have hs : Fine suf := fun q hq => hg q (List.mem_cons_of_mem _ hq)
  have hlen : pre.length < (pre ++ p :: suf).length := by simp
  have e1 : pre ++ p :: suf = (pre ++ [p]) ++ suf := by simp
  have hl' : ((pre ++ [p]) ++ suf).length ≤ 100 := by rw [← e1]; exact hl
  have e2 : ((pre ++ [p]).length : Int) = wrap64 ((pre.length : Int) + 1) := by rw [wsu_]; simp
  rw [List.length_cons] at ha hb hk
  have step : ∀ a' b' : Nat, a' + suf.length ≤ 1000 → b' + suf.length ≤ 1000 → gcc_counts.l0 k v (a' : Int) (b' : Int) ((pre ++ p :: suf).map dp) ((pre ++ p :: suf).length : Int) (wrap64 ((pre.length : Int) + 1)) = some (((a' + cS v suf : Nat) : Int), ((b' + cC v suf : Nat) : Int)) := by
   intro a' b' h1 h2
   have h := counts_l0 hV suf (pre ++ [p]) k a' b' hs hl' h1 h2 (by omega)
   rw [← e1, e2] at h
   exact h
  have hcount : ∀ f : Pd → Bool, (p :: suf).countP f = suf.countP f + if f p = true then 1 else 0 := fun f => List.countP_cons
  rw [gcc_counts.l0, if_pos (nlt hlen), ipo_, List.length_map, if_pos (nlt hlen), rdD_at, mid_map]
  have hh := hV p.1 p.2 hp.1 (DR p.1 p.2).f2 (DR p.1 p.2).f3 (DR p.1 p.2).f4
  show (dom_Dom_Has.f (DR p.1 p.2).f0 (DR p.1 p.2).f1 (DR p.1 p.2).f2 (DR p.1 p.2).f3 (DR p.1 p.2).f4 v).bind _ = _
  rw [hh, obs_]
  have s0 : cS v (p :: suf) = cS v suf + if sg v p = true then 1 else 0 := hcount _
  have c0 : cC v (p :: suf) = cC v suf + if isIn v p = true then 1 else 0 := hcount _
  rw [s0, c0]
  by_cases c : v ∈ LL p.2
  ·
   rw [if_pos (decide_eq_true c)]
   have e3 : isIn v p = true := decide_eq_true c
   show (dom_Dom_Size.f (DR p.1 p.2).f0 (DR p.1 p.2).f1 (DR p.1 p.2).f2 (DR p.1 p.2).f3 (DR p.1 p.2).f4).bind _ = _
   rw [size_dr, obs_, if_pos e3]
   by_cases c1 : (LL p.2).length = 1
   ·
    have e4 : sg v p = true := by unfold sg; rw [e3, decide_eq_true c1]; rfl
    rw [ipo_, if_pos e4, wrap_succ (j := a) (by omega), wrap_succ (j := b) (by omega), step (a + 1) (b + 1) (by omega) (by omega)]
    congr 3 <;> omega
   ·
    have e4 : sg v p = false := by unfold sg; rw [e3, decide_eq_false c1]; rfl
    rw [ino_, e4, ind_, wrap_succ (j := b) (by omega), step a (b + 1) (by omega) (by omega)]
    congr 3; omega
  ·
   have e3 : isIn v p = false := decide_eq_false c
   have e4 : sg v p = false := by unfold sg; rw [e3]; rfl
   rw [if_neg (by simpa using c), e3, e4, ind_, step a b (by omega) (by omega)]
   rfl
theorem counts_f {v : Int} (hV : HasOk v) (st : List Pd) (hg : Fine st) (hl : st.length ≤ 100) {k : Nat} (hk : 200 ≤ k) : gcc_counts.f k (st.map dp) v = some ((cS v st : Int), (cC v st : Int)) := by
 have h := counts_l0 hV st [] k 0 0 hg (by simpa using hl) (by omega) (by omega) (by omega)
 unfold gcc_counts.f
 rw [List.length_map]
 simpa using h
theorem one_l1 {v : Int} (hV : HasOk v) (lo' c : Int) (N : Nat) : ∀ (suf pre : List Pd) (k : Nat) (ch : Bool), Fine suf → (pre ++ suf).length = N → N ≤ 100 → suf.length + 40 < k →
  gcc_one.l1 k v lo' c ch (N : Int) (pre.length : Int) ((pre ++ suf).map dp) = some ((pre ++ suf.map (Go1 v)).map dp, ch || suf.any (hit v), c == lo')
 | [], pre, k + 1, ch, _, hN, hl, _ => by
  rw [gcc_one.l1, if_neg (by rw [← hN]; simp)]
  simp
 | p :: suf, pre, k + 1, ch, hg, hN, hl, hk => by
  have hp := hg p List.mem_cons_self
  have hs : Fine suf := fun q hq => hg q (List.mem_cons_of_mem _ hq)
  have hlen : pre.length < N := by rw [← hN]; simp
  have hlen2 : pre.length < (pre ++ p :: suf).length := by simp
  rw [List.length_cons] at hk
  have step : ∀ (q : Pd) (ch' : Bool), gcc_one.l1 k v lo' c ch' (N : Int) (wrap64 ((pre.length : Int) + 1)) (((pre ++ [q]) ++ suf).map dp) = some (((pre ++ [q]) ++ suf.map (Go1 v)).map dp, ch' || suf.any (hit v), c == lo') := by
   intro q ch'
   have h := one_l1 hV lo' c N suf (pre ++ [q]) k ch' hs (by rw [← hN]; simp) hl (by omega)
   rw [wsu_]
   simpa using h
  rw [gcc_one.l1, if_pos (nlt hlen), ipo_, List.length_map, if_pos (nlt hlen2), rdD_at, mid_map]
  have hh := hV p.1 p.2 hp.1 (DR p.1 p.2).f2 (DR p.1 p.2).f3 (DR p.1 p.2).f4
  show (dom_Dom_Has.f (DR p.1 p.2).f0 (DR p.1 p.2).f1 (DR p.1 p.2).f2 (DR p.1 p.2).f3 (DR p.1 p.2).f4 v).bind _ = _
  rw [hh, obs_, List.map_cons, List.any_cons]
  have same : hit v p = false → gcc_one.l1 k v lo' c ch (N : Int) (wrap64 ((pre.length : Int) + 1)) ((pre ++ p :: suf).map dp) = some ((pre ++ Go1 v p :: suf.map (Go1 v)).map dp, ch || (hit v p || suf.any (hit v)), c == lo') := by
   intro h0
   have e : Go1 v p = p := by unfold Go1; rw [h0, ind_]
   have h := step p ch
   rw [h0, Bool.false_or, e]
   simpa using h
  by_cases cv : v ∈ LL p.2
  ·
   rw [if_pos (decide_eq_true cv)]
   show (dom_Dom_Size.f (DR p.1 p.2).f0 (DR p.1 p.2).f1 (DR p.1 p.2).f2 (DR p.1 p.2).f3 (DR p.1 p.2).f4).bind _ = _
   rw [size_dr, obs_]
   by_cases c1 : 1 < (LL p.2).length
   ·
    have h1 : hit v p = true := hit_iff.2 ⟨cv, c1⟩
    obtain ⟨g1, g2⟩ := on_good cv c1
    obtain ⟨cc, e⟩ := only_dr hp.1 (near_in cv) g1 g2 (k := k) (by omega)
    rw [ipo_]
    show (dom_Dom_Only.f k (DR p.1 p.2).f0 (DR p.1 p.2).f1 (DR p.1 p.2).f2 (DR p.1 p.2).f3 (DR p.1 p.2).f4 v).bind _ = _
    rw [e, obs_, h1]
    have e2 : Go1 v p = (p.1, on p.2 v) := by unfold Go1; rw [if_pos h1]
    have h := step (Go1 v p) true
    have e7 : (pre ++ [Go1 v p]) ++ suf.map (Go1 v) = pre ++ Go1 v p :: suf.map (Go1 v) := by simp
    rw [← mid_set pre suf p (Go1 v p), e7, Bool.true_or, e2] at h
    have h2 : (((pre.length : Int)).toNat) = pre.length := Int.toNat_natCast _
    rw [e2, h2, Bool.true_or, Bool.or_true]
    exact h
   ·
    rw [ino_]
    exact same (by unfold hit; rw [decide_eq_false c1, Bool.and_false])
  ·
   rw [if_neg (by simpa using cv)]
   exact same (by unfold hit isIn; rw [decide_eq_false cv, Bool.false_and])
theorem one_l0 {v : Int} (hV : HasOk v) (lo' hi' s : Int) (N : Nat) : ∀ (suf pre : List Pd) (k : Nat) (ch : Bool), Fine suf → (pre ++ suf).length = N → N ≤ 100 → suf.length + 40 < k →
  ∃ k', k' + suf.length + 1 = k ∧ gcc_one.l0 k v lo' hi' s ch (N : Int) (pre.length : Int) ((pre ++ suf).map dp) = (gcc_counts.f k' ((pre ++ (if s = hi' then suf.map (Fw v) else suf)).map dp) v).bind fun bt => (if bt.2 > lo' then some ((pre ++ (if s = hi' then suf.map (Fw v) else suf)).map dp, ch || (decide (s = hi') && suf.any (hit v)), true) else gcc_one.l1 k' v lo' bt.2 (ch || (decide (s = hi') && suf.any (hit v))) (((pre ++ (if s = hi' then suf.map (Fw v) else suf)).map dp).length : Int) 0 ((pre ++ (if s = hi' then suf.map (Fw v) else suf)).map dp))
 | [], pre, k + 1, ch, _, hN, hl, _ => by
  refine ⟨k, rfl, ?_⟩
  rw [gcc_one.l0, if_neg (by rw [← hN]; simp)]
  simp
 | p :: suf, pre, k + 1, ch, hg, hN, hl, hk => by
  have hp := hg p List.mem_cons_self
  have hs : Fine suf := fun q hq => hg q (List.mem_cons_of_mem _ hq)
  have hlen : pre.length < N := by rw [← hN]; simp
  have hlen2 : pre.length < (pre ++ p :: suf).length := by simp
  rw [List.length_cons] at hk
  rw [gcc_one.l0, if_pos (nlt hlen), ipo_, List.length_map, if_pos (nlt hlen2), rdD_at, mid_map, wsu_]
  have step : ∀ (q : Pd) (ch' : Bool), ∃ k', k' + suf.length + 1 = k ∧ gcc_one.l0 k v lo' hi' s ch' (N : Int) ((pre.length + 1 : Nat) : Int) ((pre ++ q :: suf).map dp) = (gcc_counts.f k' ((pre ++ q :: (if s = hi' then suf.map (Fw v) else suf)).map dp) v).bind fun bt => (if bt.2 > lo' then some ((pre ++ q :: (if s = hi' then suf.map (Fw v) else suf)).map dp, ch' || (decide (s = hi') && suf.any (hit v)), true) else gcc_one.l1 k' v lo' bt.2 (ch' || (decide (s = hi') && suf.any (hit v))) (((pre ++ q :: (if s = hi' then suf.map (Fw v) else suf)).map dp).length : Int) 0 ((pre ++ q :: (if s = hi' then suf.map (Fw v) else suf)).map dp)) := by
   intro q ch'
   obtain ⟨k', h1, h2⟩ := one_l0 hV lo' hi' s N suf (pre ++ [q]) k ch' hs (by rw [← hN]; simp) hl (by omega)
   refine ⟨k', h1, ?_⟩
   have ea : ∀ X : List Pd, (pre ++ [q]) ++ X = pre ++ q :: X := fun X => by simp
   rw [ea, ea] at h2
   rw [← h2]
   simp
  by_cases cs : s = hi'
  ·
   rw [if_pos cs, if_pos cs, decide_eq_true cs, Bool.true_and, List.map_cons, List.any_cons]
   simp only [if_pos cs, decide_eq_true cs, Bool.true_and] at step
   have same : hit v p = false → ∃ k', k' + (suf.length + 1) + 1 = k + 1 ∧ gcc_one.l0 k v lo' hi' s ch (N : Int) ((pre.length + 1 : Nat) : Int) ((pre ++ p :: suf).map dp) = (gcc_counts.f k' ((pre ++ Fw v p :: suf.map (Fw v)).map dp) v).bind fun bt => (if bt.2 > lo' then some ((pre ++ Fw v p :: suf.map (Fw v)).map dp, ch || (hit v p || suf.any (hit v)), true) else gcc_one.l1 k' v lo' bt.2 (ch || (hit v p || suf.any (hit v))) (((pre ++ Fw v p :: suf.map (Fw v)).map dp).length : Int) 0 ((pre ++ Fw v p :: suf.map (Fw v)).map dp)) := by
    intro h0
    have e : Fw v p = p := by unfold Fw; rw [h0, ind_]
    obtain ⟨k', h1, h2⟩ := step p ch
    exact ⟨k', by omega, by rw [e, h0, Bool.false_or]; exact h2⟩
   have hh := hV p.1 p.2 hp.1 (DR p.1 p.2).f2 (DR p.1 p.2).f3 (DR p.1 p.2).f4
   show ∃ k', _ ∧ (dom_Dom_Has.f (DR p.1 p.2).f0 (DR p.1 p.2).f1 (DR p.1 p.2).f2 (DR p.1 p.2).f3 (DR p.1 p.2).f4 v).bind _ = _
   rw [hh, obs_]
   by_cases cv : v ∈ LL p.2
   ·
    rw [if_pos (decide_eq_true cv)]
    show ∃ k', _ ∧ (dom_Dom_Size.f (DR p.1 p.2).f0 (DR p.1 p.2).f1 (DR p.1 p.2).f2 (DR p.1 p.2).f3 (DR p.1 p.2).f4).bind _ = _
    rw [size_dr, obs_]
    by_cases c1 : 1 < (LL p.2).length
    ·
     have h1 : hit v p = true := hit_iff.2 ⟨cv, c1⟩
     obtain ⟨g1, g2⟩ := wo_good cv c1
     obtain ⟨cc, e⟩ := without_dr hp.1 (near_in cv) g1 g2 (k := k) (by omega)
     rw [ipo_]
     show ∃ k', _ ∧ (dom_Dom_Without.f k (DR p.1 p.2).f0 (DR p.1 p.2).f1 (DR p.1 p.2).f2 (DR p.1 p.2).f3 (DR p.1 p.2).f4 v).bind _ = _
     rw [e, obs_, h1, Bool.true_or]
     have e2 : Fw v p = (p.1, wo p.2 v) := by unfold Fw; rw [if_pos h1]
     obtain ⟨k', h3, h4⟩ := step (Fw v p) true
     have h5 := mid_set pre suf p (Fw v p)
     refine ⟨k', by simp only [List.length_cons]; omega, ?_⟩
     rw [Bool.or_true]
     have e6 : (pre ++ [Fw v p]) ++ suf = pre ++ Fw v p :: suf := by simp
     rw [e6] at h5
     rw [← h5] at h4
     have h2 : (((pre.length : Int)).toNat) = pre.length := Int.toNat_natCast _
     rw [h2]
     rw [Bool.true_or, e2] at h4
     rw [e2]
     exact h4
    ·
     rw [ino_]
     exact same (by unfold hit; rw [decide_eq_false c1, Bool.and_false])
   ·
    rw [if_neg (by simpa using cv)]
    exact same (by unfold hit isIn; rw [decide_eq_false cv, Bool.false_and])
  ·
   rw [if_neg cs]
   obtain ⟨k', h1, h2⟩ := step p ch
   refine ⟨k', by simp only [List.length_cons]; omega, ?_⟩
   simp only [if_neg cs, decide_eq_false cs, Bool.false_and] at h2 ⊢
   exact h2
def st1 (v hi' : Int) (st : List Pd) : List Pd := if (cS v st : Int) = hi' then st.map (Fw v) else st
def one1 (v lo' hi' : Int) (st : List Pd) : Option (List Pd × Bool) :=
 if (cS v st : Int) > hi' ∨ (cC v st : Int) < lo' then none
 else if (cC v (st1 v hi' st) : Int) > lo' then some (st1 v hi' st, decide ((cS v st : Int) = hi') && st.any (hit v))
 else if (cC v (st1 v hi' st) : Int) = lo' then some ((st1 v hi' st).map (Go1 v), (decide ((cS v st : Int) = hi') && st.any (hit v)) || (st1 v hi' st).any (hit v))
 else none
theorem fine_st1 {v hi' : Int} {st : List Pd} (h : Fine st) : Fine (st1 v hi' st) := by
 unfold st1
 split
 ·
  exact fine_map (fun _ => fine_F) h
 ·
  exact h
theorem st1_len (v hi' : Int) (st : List Pd) : (st1 v hi' st).length = st.length := by
 unfold st1
 split <;> simp
theorem one1_fine {v lo' hi' : Int} {st st' : List Pd} {ch : Bool} (h : Fine st) (e : one1 v lo' hi' st = some (st', ch)) : Fine st' ∧ st'.length = st.length := by
 unfold one1 at e
 split at e
 ·
  cases e
 ·
  split at e
  ·
   obtain ⟨rfl, _⟩ := Prod.mk.inj (Option.some.inj e)
   exact ⟨fine_st1 h, st1_len _ _ _⟩
  ·
   split at e
   ·
    obtain ⟨rfl, _⟩ := Prod.mk.inj (Option.some.inj e)
    exact ⟨fine_map (fun _ => fine_G) (fine_st1 h), by rw [List.length_map, st1_len]⟩
   ·
    cases e
theorem one_f {v : Int} (hV : HasOk v) (lo' hi' : Int) (st : List Pd) (hg : Fine st) (hl : st.length ≤ 100) {k : Nat} (hk : 400 ≤ k) :
  (one1 v lo' hi' st = none ∧ ∃ X c, gcc_one.f k (st.map dp) v lo' hi' = some (X, c, false)) ∨ (∃ st' ch, one1 v lo' hi' st = some (st', ch) ∧ gcc_one.f k (st.map dp) v lo' hi' = some (st'.map dp, ch, true)) := by
 have hc := counts_f hV st hg hl (k := k) (by omega)
 obtain ⟨k, rfl⟩ : ∃ k', k = k' + 1 := ⟨k - 1, by omega⟩
 have e0 : gcc_one.f (k + 1) (st.map dp) v lo' hi' = if (cS v st : Int) > hi' ∨ (cC v st : Int) < lo' then some (st.map dp, false, false) else gcc_one.l0 k v lo' hi' (cS v st : Int) false ((st.map dp).length : Int) 0 (st.map dp) := by
  unfold gcc_one.f
  rw [hc, obs_]
  by_cases c1 : (cS v st : Int) > hi'
  ·
   rw [if_pos c1, if_pos (.inl c1), gcc_one.j0, if_pos rfl]
  ·
   rw [if_neg c1]
   by_cases c2 : (cC v st : Int) < lo'
   ·
    rw [if_pos (.inr c2), decide_eq_true c2, gcc_one.j0, if_pos rfl]
   ·
    rw [if_neg (fun h => h.elim c1 c2), decide_eq_false c2, gcc_one.j0, ind_]
 rw [e0]
 unfold one1
 by_cases c : (cS v st : Int) > hi' ∨ (cC v st : Int) < lo'
 ·
  rw [if_pos c, if_pos c]
  exact .inl ⟨rfl, _, _, rfl⟩
 ·
  rw [if_neg c, if_neg c]
  obtain ⟨k', h1, h2⟩ := one_l0 hV lo' hi' (cS v st : Int) st.length st [] k false hg rfl hl (by omega)
  simp only [List.nil_append] at h2
  have e1 : (if (cS v st : Int) = hi' then st.map (Fw v) else st) = st1 v hi' st := rfl
  rw [e1] at h2
  have hlen : ((st.map dp).length : Int) = (st.length : Int) := by simp
  have h2' := (show gcc_one.l0 k v lo' hi' (cS v st : Int) false ((st.map dp).length : Int) 0 (st.map dp) = gcc_one.l0 k v lo' hi' (cS v st : Int) false ((st.length : Nat) : Int) ((([] : List Pd).length : Nat) : Int) (st.map dp) by rw [hlen]; rfl).trans h2
  rw [h2', counts_f hV (st1 v hi' st) (fine_st1 hg) (by rw [st1_len]; exact hl) (by omega), obs_, Bool.false_or]
  simp only []
  by_cases d : (cC v (st1 v hi' st) : Int) > lo'
  ·
   rw [if_pos d, if_pos d]
   exact .inr ⟨_, _, rfl, rfl⟩
  ·
   rw [if_neg d, if_neg d]
   have h3 := one_l1 hV lo' (cC v (st1 v hi' st) : Int) (st1 v hi' st).length (st1 v hi' st) [] k' (decide ((cS v st : Int) = hi') && st.any (hit v)) (fine_st1 hg) rfl (by rw [st1_len]; exact hl) (by rw [st1_len]; omega)
   simp only [List.nil_append] at h3
   have hlen2 : (((st1 v hi' st).map dp).length : Int) = ((st1 v hi' st).length : Int) := by simp
   have h3' := (show gcc_one.l1 k' v lo' (cC v (st1 v hi' st) : Int) (decide ((cS v st : Int) = hi') && st.any (hit v)) (((st1 v hi' st).map dp).length : Int) 0 ((st1 v hi' st).map dp) = gcc_one.l1 k' v lo' (cC v (st1 v hi' st) : Int) (decide ((cS v st : Int) = hi') && st.any (hit v)) ((st1 v hi' st).length : Int) ((([] : List Pd).length : Nat) : Int) ((st1 v hi' st).map dp) by rw [hlen2]; rfl).trans h3
   rw [h3']
   by_cases f : (cC v (st1 v hi' st) : Int) = lo'
   ·
    rw [if_pos f, f, beq_self_eq_true]
    exact .inr ⟨_, _, rfl, rfl⟩
   ·
    rw [if_neg f, beq_eq_false_iff_ne.2 f]
    exact .inl ⟨rfl, _, _, rfl⟩
def wt (st : List Pd) : Nat := (st.map fun p => (LL p.2).length).sum
theorem wt_cons (p : Pd) (st : List Pd) : wt (p :: st) = (LL p.2).length + wt st := by simp [wt]
theorem wt_map {f : Pd → Pd} {h : Pd → Bool} (hf : ∀ p, h p = false → f p = p) (hf2 : ∀ p, h p = true → (LL (f p).2).length < (LL p.2).length) : ∀ st : List Pd, wt (st.map f) ≤ wt st ∧ (st.any h = true → wt (st.map f) < wt st) ∧ (st.any h = false → st.map f = st)
 | [] => ⟨Nat.le_refl _, fun h => by simp at h, fun _ => rfl⟩
 | p :: st => by
  obtain ⟨h1, h2, h3⟩ := wt_map hf hf2 st
  rw [List.map_cons, wt_cons, wt_cons, List.any_cons]
  by_cases c : h p = true
  ·
   have := hf2 p c
   refine ⟨by omega, fun _ => by omega, fun e => ?_⟩
   rw [c] at e; cases e
  ·
   have c' : h p = false := by simpa using c
   rw [c', Bool.false_or, hf p c']
   exact ⟨by omega, fun e => by have := h2 e; omega, fun e => by rw [h3 e]⟩
theorem wt_F (v : Int) (st : List Pd) : wt (st.map (Fw v)) ≤ wt st ∧ (st.any (hit v) = true → wt (st.map (Fw v)) < wt st) ∧ (st.any (hit v) = false → st.map (Fw v) = st) := wt_map (f := Fw v) (h := hit v) (fun p h => by unfold Fw; rw [h, ind_]) (fun p h => by
 unfold Fw; rw [if_pos h]; obtain ⟨h1, h2⟩ := hit_iff.1 h; exact (wo_good h1 h2).2) st
theorem wt_G (v : Int) (st : List Pd) : wt (st.map (Go1 v)) ≤ wt st ∧ (st.any (hit v) = true → wt (st.map (Go1 v)) < wt st) ∧ (st.any (hit v) = false → st.map (Go1 v) = st) := wt_map (f := Go1 v) (h := hit v) (fun p h => by unfold Go1; rw [h, ind_]) (fun p h => by
 unfold Go1; rw [if_pos h]; obtain ⟨h1, h2⟩ := hit_iff.1 h; exact (on_good h1 h2).2) st
theorem wt_st1 (v hi' : Int) (st : List Pd) : wt (st1 v hi' st) ≤ wt st ∧ ((decide ((cS v st : Int) = hi') && st.any (hit v)) = true → wt (st1 v hi' st) < wt st) ∧ ((decide ((cS v st : Int) = hi') && st.any (hit v)) = false → st1 v hi' st = st) := by
 unfold st1
 by_cases c : (cS v st : Int) = hi'
 ·
  rw [if_pos c, decide_eq_true c, Bool.true_and]
  exact wt_F v st
 ·
  rw [if_neg c, decide_eq_false c, Bool.false_and]
  exact ⟨Nat.le_refl _, fun h => (by cases h), fun _ => rfl⟩
theorem one1_wt {v lo' hi' : Int} {st st' : List Pd} {ch : Bool} (e : one1 v lo' hi' st = some (st', ch)) : wt st' ≤ wt st ∧ (ch = true → wt st' < wt st) ∧ (ch = false → st' = st) := by
 obtain ⟨a1, a2, a3⟩ := wt_st1 v hi' st
 unfold one1 at e
 split at e
 ·
  cases e
 ·
  split at e
  ·
   obtain ⟨rfl, rfl⟩ := Prod.mk.inj (Option.some.inj e)
   exact ⟨a1, a2, a3⟩
  ·
   split at e
   ·
    obtain ⟨rfl, rfl⟩ := Prod.mk.inj (Option.some.inj e)
    obtain ⟨b1, b2, b3⟩ := wt_G v (st1 v hi' st)
    refine ⟨by omega, fun h => ?_, fun h => ?_⟩
    ·
     rw [Bool.or_eq_true] at h
     rcases h with h | h
     ·
      have := a2 h; omega
     ·
      have := b2 h; omega
    ·
     rw [Bool.or_eq_false_iff] at h
     rw [b3 h.2, a3 h.1]
   ·
    cases e
def rnd : List (Int × Int × Int) → List Pd → Bool → Option (List Pd × Bool)
 | [], st, ch => some (st, ch)
 | t :: T, st, ch => match one1 t.1 t.2.1 t.2.2 st with
  | none => none
  | some r => rnd T r.1 (ch || r.2)
theorem rnd_fine : ∀ (T : List (Int × Int × Int)) {st st' : List Pd} {ch ch' : Bool}, Fine st → rnd T st ch = some (st', ch') → Fine st' ∧ st'.length = st.length
 | [], st, st', ch, ch', h, e => by
  obtain ⟨rfl, _⟩ := Prod.mk.inj (Option.some.inj e)
  exact ⟨h, rfl⟩
 | t :: T, st, st', ch, ch', h, e => by
  unfold rnd at e
  split at e
  ·
   cases e
  ·
   rename_i r hr
   obtain ⟨g1, g2⟩ := one1_fine (st' := r.1) (ch := r.2) h hr
   obtain ⟨g3, g4⟩ := rnd_fine T g1 e
   exact ⟨g3, g4.trans g2⟩
theorem rnd_wt : ∀ (T : List (Int × Int × Int)) {st st' : List Pd} {ch' : Bool}, rnd T st false = some (st', ch') → wt st' ≤ wt st ∧ (ch' = true → wt st' < wt st) ∧ (ch' = false → st' = st) := by
 have key : ∀ (T : List (Int × Int × Int)) {st st' : List Pd} {ch ch' : Bool}, rnd T st ch = some (st', ch') → wt st' ≤ wt st ∧ (ch = true → ch' = true) ∧ (ch = false → ch' = true → wt st' < wt st) ∧ (ch' = false → st' = st) := by
  intro T
  induction T with
  | nil =>
   intro st st' ch ch' e
   obtain ⟨rfl, rfl⟩ := Prod.mk.inj (Option.some.inj e)
   exact ⟨Nat.le_refl _, id, fun h1 h2 => (by rw [h1] at h2; cases h2), fun _ => rfl⟩
  | cons t T ih =>
   intro st st' ch ch' e
   unfold rnd at e
   split at e
   ·
    cases e
   ·
    rename_i r hr
    obtain ⟨a1, a2, a3⟩ := one1_wt (st' := r.1) (ch := r.2) hr
    obtain ⟨b1, b2, b3, b4⟩ := ih e
    refine ⟨by omega, fun h => b2 (by rw [h, Bool.true_or]), fun h1 h2 => ?_, fun h => ?_⟩
    ·
     subst h1
     cases hr2 : r.2 with
     | true => have := a2 hr2; omega
     | false =>
      have := b3 (by rw [hr2]; rfl) h2
      omega
    ·
     have h3 := b4 h
     cases hr2 : r.2 with
     | true =>
      have := b2 (by rw [hr2, Bool.or_true])
      rw [h] at this; cases this
     | false => rw [h3, a3 hr2]
 intro T st st' ch' e
 obtain ⟨h1, _, h3, h4⟩ := key T e
 exact ⟨h1, h3 rfl, h4⟩
def fil (T : List (Int × Int × Int)) : Nat → List Pd → Option (List Pd)
 | 0, _ => none
 | n + 1, st => match rnd T st false with
  | none => none
  | some r => if r.2 = true then fil T n r.1 else some r.1
def outP : Option (List Pd) → List S58 × Bool
 | none => ([], false)
 | some st => (st.map dp, true)
abbrev Cs (T : List (Int × Int × Int)) : List Int := T.map fun t => t.1
abbrev Ds (T : List (Int × Int × Int)) : List Int := T.map fun t => t.2.1
abbrev Es (T : List (Int × Int × Int)) : List Int := T.map fun t => t.2.2
theorem mid_g {β : Type} (f : Int × Int × Int → β) (A B : List (Int × Int × Int)) (a : Int × Int × Int) (z : β) : ((A ++ a :: B).map f).getD A.length z = f a := by
 rw [List.map_append, List.map_cons]
 have := mid (A.map f) (B.map f) (f a) z
 rwa [List.length_map] at this
theorem prog_l1 (kd : Int) (A B : List Int) (K : Int) (R : List (List Int)) (T0 : List (Int × Int × Int)) (hT : ∀ t ∈ T0, HasOk t.1) (h0 : T0.length ≤ 100) : ∀ (suf pre : List (Int × Int × Int)) (st : List Pd) (ch : Bool) (k : Nat), T0 = pre ++ suf → Fine st → st.length ≤ 100 → suf.length + 410 < k →
  (rnd suf st ch = none ∧ gcc_Filter.l1 k (st.map dp) ch (Cs T0) ((Cs T0).length : Int) (pre.length : Int) kd A B (Cs T0) (Ds T0) (Es T0) K R = some ([], false)) ∨
  ∃ st' ch' k', rnd suf st ch = some (st', ch') ∧ k' + suf.length + 1 = k ∧ gcc_Filter.l1 k (st.map dp) ch (Cs T0) ((Cs T0).length : Int) (pre.length : Int) kd A B (Cs T0) (Ds T0) (Es T0) K R = if ch' = true then gcc_Filter.l0 k' (st'.map dp) kd A B (Cs T0) (Ds T0) (Es T0) K R else some (st'.map dp, true)
 | [], pre, st, ch, k + 1, e, _, _, _ => by
  refine .inr ⟨st, ch, k, rfl, rfl, ?_⟩
  rw [gcc_Filter.l1, if_neg (by rw [List.length_map, e]; simp)]
 | t :: suf, pre, st, ch, k + 1, e, hg, hl, hk => by
  rw [List.length_cons] at hk
  have hlen : pre.length < T0.length := by rw [e]; simp
  have c1 : pre.length < (Cs T0).length := by rw [List.length_map]; exact hlen
  have c2 : pre.length < (Ds T0).length := by rw [List.length_map]; exact hlen
  have c3 : pre.length < (Es T0).length := by rw [List.length_map]; exact hlen
  have g1 : (Cs T0).getD pre.length 0 = t.1 := by rw [e]; exact mid_g _ pre suf t 0
  have g2 : (Ds T0).getD pre.length 0 = t.2.1 := by rw [e]; exact mid_g _ pre suf t 0
  have g3 : (Es T0).getD pre.length 0 = t.2.2 := by rw [e]; exact mid_g _ pre suf t 0
  have hV := hT t (by rw [e]; simp)
  rw [gcc_Filter.l1, if_pos (nlt c1), ipo_, if_pos (nlt c1), if_pos (nlt c2), if_pos (nlt c3), rd_at, rd_at, rd_at, g1, g2, g3, wsu_]
  rcases one_f hV t.2.1 t.2.2 st hg hl (k := k) (by omega) with ⟨e1, X, c, e2⟩ | ⟨st', ch', e1, e2⟩
  ·
   refine .inl ⟨by unfold rnd; rw [e1], ?_⟩
   rw [e2, obs_, if_neg (by simp)]
  ·
   obtain ⟨f1, f2⟩ := one1_fine hg e1
   have er : rnd (t :: suf) st ch = rnd suf st' (ch || ch') := by
    conv => lhs; unfold rnd
    rw [e1]
   rw [e2, obs_, if_pos rfl, er]
   have h := prog_l1 kd A B K R T0 hT h0 suf (pre ++ [t]) st' (ch || ch') k (by rw [e]; simp) f1 (by omega) (by omega)
   have el : ((pre ++ [t]).length : Int) = ((pre.length + 1 : Nat) : Int) := by simp
   rw [el] at h
   have ew : (if ch = true then gcc_Filter.l1 k (st'.map dp) true (Cs T0) ((Cs T0).length : Int) ((pre.length + 1 : Nat) : Int) kd A B (Cs T0) (Ds T0) (Es T0) K R else gcc_Filter.l1 k (st'.map dp) ch' (Cs T0) ((Cs T0).length : Int) ((pre.length + 1 : Nat) : Int) kd A B (Cs T0) (Ds T0) (Es T0) K R) = gcc_Filter.l1 k (st'.map dp) (ch || ch') (Cs T0) ((Cs T0).length : Int) ((pre.length + 1 : Nat) : Int) kd A B (Cs T0) (Ds T0) (Es T0) K R := by
    cases ch <;> rfl
   show (_ ∧ (if ch = true then gcc_Filter.l1 k (st'.map dp) true (Cs T0) ((Cs T0).length : Int) ((pre.length + 1 : Nat) : Int) kd A B (Cs T0) (Ds T0) (Es T0) K R else gcc_Filter.l1 k (st'.map dp) ch' (Cs T0) ((Cs T0).length : Int) ((pre.length + 1 : Nat) : Int) kd A B (Cs T0) (Ds T0) (Es T0) K R) = _) ∨ ∃ st'' ch'' k', _ ∧ _ ∧ (if ch = true then gcc_Filter.l1 k (st'.map dp) true (Cs T0) ((Cs T0).length : Int) ((pre.length + 1 : Nat) : Int) kd A B (Cs T0) (Ds T0) (Es T0) K R else gcc_Filter.l1 k (st'.map dp) ch' (Cs T0) ((Cs T0).length : Int) ((pre.length + 1 : Nat) : Int) kd A B (Cs T0) (Ds T0) (Es T0) K R) = _
   rw [ew]
   rcases h with h | ⟨st'', ch'', k', h1, h2, h3⟩
   ·
    exact .inl h
   ·
    exact .inr ⟨st'', ch'', k', h1, by rw [List.length_cons]; omega, h3⟩
theorem prog_l0 (kd : Int) (A B : List Int) (K : Int) (R : List (List Int)) (T0 : List (Int × Int × Int)) (hT : ∀ t ∈ T0, HasOk t.1) (h0 : T0.length ≤ 100) : ∀ (n : Nat) (st : List Pd) (k : Nat), Fine st → st.length ≤ 100 → wt st < n → n * 110 + 500 < k →
  gcc_Filter.l0 k (st.map dp) kd A B (Cs T0) (Ds T0) (Es T0) K R = some (outP (fil T0 n st))
 | n + 1, st, k + 1, hg, hl, hw, hk => by
  have h := prog_l1 kd A B K R T0 hT h0 T0 [] st false k rfl hg hl (by omega)
  rw [gcc_Filter.l0]
  unfold fil
  rcases h with ⟨e1, e2⟩ | ⟨st', ch', k', e1, e2, e3⟩
  ·
   rw [e1]
   exact e2
  ·
   rw [e1]
   obtain ⟨w1, w2, w3⟩ := rnd_wt T0 e1
   obtain ⟨f1, f2⟩ := rnd_fine T0 hg e1
   refine e3.trans ?_
   simp only []
   cases ch' with
   | false => rw [ind_, ind_]; rfl
   | true =>
    rw [if_pos rfl, if_pos rfl]
    have := w2 rfl
    exact prog_l0 kd A B K R T0 hT h0 n st' k' f1 (by omega) (by omega) (by omega)
theorem fil_fix (T : List (Int × Int × Int)) : ∀ (n : Nat) (st st' : List Pd), fil T n st = some st' → rnd T st' false = some (st', false)
 | 0, st, st', e => by cases e
 | n + 1, st, st', e => by
  unfold fil at e
  split at e
  ·
   cases e
  ·
   rename_i r hr
   split at e
   ·
    exact fil_fix T n _ _ e
   ·
    rename_i hc
    obtain rfl := Option.some.inj e
    have hc' : r.2 = false := by simpa using hc
    have hr' : rnd T st false = some (r.1, r.2) := hr
    have h3 := (rnd_wt T hr').2.2 hc'
    rw [h3, hr', hc', h3]
theorem fil_fine (T : List (Int × Int × Int)) : ∀ (n : Nat) (st st' : List Pd), Fine st → fil T n st = some st' → Fine st' ∧ st'.length = st.length
 | 0, st, st', _, e => by cases e
 | n + 1, st, st', hg, e => by
  unfold fil at e
  split at e
  ·
   cases e
  ·
   rename_i r hr
   have hr' : rnd T st false = some (r.1, r.2) := hr
   obtain ⟨f1, f2⟩ := rnd_fine T hg hr'
   split at e
   ·
    obtain ⟨g1, g2⟩ := fil_fine T n _ _ f1 e
    exact ⟨g1, g2.trans f2⟩
   ·
    obtain rfl := Option.some.inj e
    exact ⟨f1, f2⟩
theorem rhas_l0 (l : List Int) (v : Int) (hl : l.length ≤ 100) : ∀ (m j k : Nat), l.length = j + m → m < k → jigsawref02_Has.l0 k l v (j : Int) = some (decide (v ∈ l.drop j))
 | 0, j, k + 1, e, _ => by
  rw [jigsawref02_Has.l0, ino_, List.drop_eq_nil_of_le (by omega)]; rfl
 | m + 1, j, k + 1, e, hk => by
  have hj : j < l.length := by omega
  have hd : l.drop j = l[j] :: l.drop (j + 1) := List.drop_eq_getElem_cons hj
  rw [jigsawref02_Has.l0, if_pos (nlt hj), ipo_, rd_at, getD_lt _ _ hj]
  by_cases h : l[j] = v
  ·
   rw [if_pos h, hd]; congr 1; symm; exact decide_eq_true (by rw [h]; exact List.mem_cons_self)
  ·
   rw [if_neg h, wsu_, rhas_l0 l v hl m (j + 1) k (by omega) (by omega), hd]
   congr 1
   rw [decide_eq_decide]
   constructor
   ·
    exact fun h' => List.mem_cons_of_mem _ h'
   ·
    intro h'
    rcases List.mem_cons.1 h' with h2 | h2
    ·
     exact absurd h2.symm h
    ·
     exact h2
theorem rhas_f (l : List Int) (v : Int) (hl : l.length ≤ 100) {k : Nat} (hk : 200 ≤ k) : jigsawref02_Has.f k l v = some (decide (v ∈ l)) := by
 have h := rhas_l0 l v hl l.length 0 k (by omega) (by omega)
 exact h
def insR : Bool → Int → List Int → List Int
 | true, _, r => r
 | false, v, r => ins v r
theorem of_l2 (x : List Int) (hx : x.length ≤ 100) (i : Nat) (hi : i < x.length) (l : List Int) (hl : l.length ≤ 100) : ∀ (m j k : Nat) (acc : List Int) (done : Bool), l.length = j + m → acc.length ≤ 2 * j → m < k →
  ∃ k', k' + m + 1 = k ∧ jigsawref02_Of.l2 k x l (i : Int) acc done (j : Int) = jigsawref02_Of.l1 k' x (acc ++ insR done (x.getD i 0) (l.drop j)) (((i + 1 : Nat)) : Int)
 | 0, j, k + 1, acc, done, e, ha, hk => by
  refine ⟨k, rfl, ?_⟩
  rw [jigsawref02_Of.l2, ino_, List.drop_eq_nil_of_le (by omega)]
  cases done with
  | true => rw [if_pos rfl, wsu_]; simp [insR]
  | false => rw [ind_, ipo_, if_pos (nlt hi), ipo_, wsu_, rd_at]; rfl
 | m + 1, j, k + 1, acc, done, e, ha, hk => by
  have hj : j < l.length := by omega
  have hd : l.drop j = l.getD j 0 :: l.drop (j + 1) := by rw [getD_lt _ _ hj]; exact List.drop_eq_getElem_cons hj
  rw [jigsawref02_Of.l2, if_pos (nlt hj), ipo_, ipo_, if_pos (nlt hi), rd_at, rd_at, wsu_, hd]
  by_cases h : l.getD j 0 > x.getD i 0
  ·
   rw [if_pos h]
   cases done with
   | true =>
    rw [if_pos rfl, ipo_]
    obtain ⟨k', hk', h'⟩ := of_l2 x hx i hi l hl m (j + 1) k (acc ++ [l.getD j 0]) true (by omega) (by simp; omega) (by omega)
    refine ⟨k', by omega, ?_⟩
    rw [h']; simp [insR]
   | false =>
    rw [ind_, ipo_, obs_, if_pos (by simp; omega)]
    obtain ⟨k', hk', h'⟩ := of_l2 x hx i hi l hl m (j + 1) k ((acc ++ [x.getD i 0]) ++ [l.getD j 0]) true (by omega) (by simp; omega) (by omega)
    refine ⟨k', by omega, ?_⟩
    have e1 : insR false (x.getD i 0) (l.getD j 0 :: l.drop (j + 1)) = x.getD i 0 :: l.getD j 0 :: l.drop (j + 1) := by show ins _ _ = _; rw [ins, if_pos h]
    rw [h', e1]; simp [insR]
  ·
   rw [if_neg h, ipo_]
   obtain ⟨k', hk', h'⟩ := of_l2 x hx i hi l hl m (j + 1) k (acc ++ [l.getD j 0]) done (by omega) (by simp; omega) (by omega)
   refine ⟨k', by omega, ?_⟩
   rw [h']
   cases done with
   | true => simp [insR]
   | false =>
    have e1 : insR false (x.getD i 0) (l.getD j 0 :: l.drop (j + 1)) = l.getD j 0 :: ins (x.getD i 0) (l.drop (j + 1)) := by show ins _ _ = _; rw [ins, if_neg h]
    rw [e1]; simp [insR]
theorem of_l1 (x : List Int) (hx : x.length ≤ 6) (hn : Near x) : ∀ (m j k : Nat) (b : Fin 2048), x.length = j + m → 300 * m + 300 < k → (0 < j → b.val ≠ 0) →
  ∃ c : Fin 2048, (0 < x.length → c.val ≠ 0) ∧ jigsawref02_Of.l1 k x (LL b) (j : Int) = some (LL c, 0)
 | 0, j, k + 1, b, e, hk, hb => by
  refine ⟨b, fun h => hb (by omega), ?_⟩
  rw [jigsawref02_Of.l1, ino_]
 | m + 1, j, k + 1, b, e, hk, hb => by
  have hj : j < x.length := by omega
  have hv := hn (x.getD j 0) (by rw [getD_lt _ _ hj]; exact List.getElem_mem _)
  have hl := (len_all b).1
  rw [jigsawref02_Of.l1, if_pos (nlt hj), ipo_, rd_at, rhas_f (LL b) _ (by omega) (by omega), obs_]
  by_cases h : x.getD j 0 ∈ LL b
  ·
   rw [if_pos (decide_eq_true h), wsu_]
   refine of_l1 x hx hn m (j + 1) k b (by omega) (by omega) (fun _ h0 => ?_)
   have : LL b = [] := by unfold LL; rw [h0]; decide +kernel
   rw [this] at h; cases h
  ·
   rw [if_neg (by simpa using h)]
   obtain ⟨k', hk', h'⟩ := of_l2 x (by omega) j hj (LL b) (by omega) (LL b).length 0 k [] false (by omega) (by simp) (by omega)
   have e0 : jigsawref02_Of.l2 k x (LL b) (j : Int) [] false 0 = _ := h'
   rw [e0]
   have hins := ins_all b ⟨(x.getD j 0 + 5).toNat, by omega⟩
   simp only [] at hins
   rw [show (((x.getD j 0 + 5).toNat : Nat) : Int) - 5 = x.getD j 0 by omega] at hins
   obtain ⟨h1, h2⟩ := hins h
   rw [List.nil_append, List.drop_zero, insR, h1]
   exact of_l1 x hx hn m (j + 1) k' _ (by omega) (by omega) (fun _ => h2)
theorem rof_l0 (x : List Int) (hx : x.length ≤ 6) (hn : Near x) : ∀ (m j k : Nat) (lo hi : Int), x.length = j + m → m + 3000 < k → -5 ≤ lo → lo ≤ 5 → -5 ≤ hi → hi ≤ 5 →
  ∃ c : Fin 2048, (0 < x.length → c.val ≠ 0) ∧ jigsawref02_Of.l0 k x lo hi (j : Int) = some (LL c, 0)
 | 0, j, k + 1, lo, hi, e, hk, h1, h2, h3, h4 => by
  have ew : wrap64 (hi - lo) = hi - lo := wrap_id (by omega) (by omega)
  rw [jigsawref02_Of.l0, ino_, ew, ino_]
  have h0 : LL 0 = [] := by decide +kernel
  have h := of_l1 x hx hn x.length 0 k 0 (by omega) (by omega) (fun h => absurd h (by decide))
  rw [h0] at h
  exact h
 | m + 1, j, k + 1, lo, hi, e, hk, h1, h2, h3, h4 => by
  have hj : j < x.length := by omega
  have hv := hn (x.getD j 0) (by rw [getD_lt _ _ hj]; exact List.getElem_mem _)
  rw [jigsawref02_Of.l0, if_pos (nlt hj), ipo_, rd_at, ino_, ino_, wsu_]
  split <;> split <;> exact rof_l0 x hx hn m (j + 1) k _ _ (by omega) (by omega) (by omega) (by omega) (by omega) (by omega)
theorem rof_f (x : List Int) (hx : x.length ≤ 6) (h0 : 0 < x.length) (hn : Near x) {k : Nat} (hk : 4000 ≤ k) : ∃ c : Fin 2048, c.val ≠ 0 ∧ jigsawref02_Of.f k x = some (LL c, 0) := by
 have hv := hn (x.getD 0 0) (by rw [getD_lt _ _ h0]; exact List.getElem_mem _)
 obtain ⟨c, h1, h2⟩ := rof_l0 x hx hn x.length 0 k (x.getD 0 0) (x.getD 0 0) (by omega) (by omega) hv.1 hv.2 hv.1 hv.2
 refine ⟨c, h1 h0, ?_⟩
 unfold jigsawref02_Of.f
 rw [ino_, ipo_]
 exact h2
def Places (n : Nat) (r : List Int) : Prop := r.length = n ∧ ∀ x ∈ r, 0 ≤ x ∧ x ≤ 4
theorem places_l0 (l : List Int) (hl : ∀ x ∈ l, 0 ≤ x ∧ x ≤ 255) (n : Nat) (hn : n ≤ 4) : ∀ (m j k : Nat) (acc : List Int), n = j + m → m < k → Places j acc → ∃ r, jigsawref06_places.l0 k l (n : Int) 5 acc (j : Int) = some r ∧ Places n r
 | 0, j, k + 1, acc, e, _, ha => by
  obtain rfl : n = j := by omega
  refine ⟨acc, ?_, ha⟩
  rw [jigsawref06_places.l0, ino_]
 | m + 1, j, k + 1, acc, e, hk, ha => by
  have hj : j < n := by omega
  obtain ⟨h1, h2⟩ := ha
  have hlen : acc.length < 17592186044416 := by omega
  by_cases hx : j < l.length
  ·
   have hm := hl (l.getD j 0) (by rw [getD_lt _ _ hx]; exact List.getElem_mem _)
   obtain ⟨r, hr, hp⟩ := places_l0 l hl n hn m (j + 1) k (acc ++ [Int.tmod (wrap64 (rd l (j : Int))) 5]) (by omega) (by omega) ⟨by simp [h1], fun x hx => by
    rcases List.mem_append.1 hx with h | h
    ·
     exact h2 x h
    ·
     rw [List.mem_singleton] at h
     rw [h, rd_at, wrap_id (by omega) (by omega), Int.tmod_eq_emod_of_nonneg (by omega)]
     omega⟩
   refine ⟨r, ?_, hp⟩
   rw [jigsawref06_places.l0, if_pos (nlt hj), if_pos (nlt hx), ipo_, ind_, if_pos hlen, wsu_]
   exact hr
  ·
   obtain ⟨r, hr, hp⟩ := places_l0 l hl n hn m (j + 1) k (acc ++ [Int.tmod (j : Int) 5]) (by omega) (by omega) ⟨by simp [h1], fun x hx => by
    rcases List.mem_append.1 hx with h | h
    ·
     exact h2 x h
    ·
     rw [List.mem_singleton] at h
     rw [h, Int.tmod_eq_emod_of_nonneg (by omega)]
     omega⟩
   refine ⟨r, ?_, hp⟩
   rw [jigsawref06_places.l0, if_pos (nlt hj), if_neg (nge hx), ind_, if_pos hlen, wsu_]
   exact hr
theorem places_f (l : List Int) (hl : ∀ x ∈ l, 0 ≤ x ∧ x ≤ 255) (n : Nat) (hn : n ≤ 4) {k : Nat} (hk : 5 ≤ k) : ∃ r, jigsawref06_places.f k l (n : Int) 5 = some r ∧ Places n r :=
 places_l0 l hl n hn n 0 k [] (by omega) (by omega) ⟨rfl, fun x hx => by simp at hx⟩
theorem has_f {s : ByteArray} {c r : Int} (h : jigsawref06_has.f 6 s c = some r) {k : Nat} (hk : 6 ≤ k) : jigsawref06_has.f k s c = some r :=
 up (f := fun k => jigsawref06_has.f k s c) (jigsawref06_has.mono _ _) h hk
theorem mod_near4 (v : Int) : -5 ≤ Int.tmod v 4 ∧ Int.tmod v 4 ≤ 5 := by
 have h1 := Int.tmod_lt_of_pos v (show (0 : Int) < 4 by decide)
 have h2 := Int.lt_tmod_of_pos v (show (0 : Int) < 4 by decide)
 omega
theorem small4_l0 (l : List Int) (h0 : 0 < l.length) : ∀ (m j k : Nat) (acc : List Int), 6 = j + m → j ≤ l.length → m + 4100 < k → acc.length = j → Near acc →
  ∃ c : Fin 2048, c.val ≠ 0 ∧ jigsawref02_Small.l0 k l 6 4 acc (j : Int) = some (LL c)
 | m, j, k + 1, acc, e, hjl, hk, ha, hn => by
  have fin : ∀ (hx : 0 < acc.length), ∃ c : Fin 2048, c.val ≠ 0 ∧ ((jigsawref02_Of.f k acc).bind fun bt => some bt.1) = some (LL c) := by
   intro hx
   obtain ⟨c, h1, h2⟩ := rof_f acc (by omega) hx hn (k := k) (by omega)
   exact ⟨c, h1, by rw [h2, obs_]⟩
  rw [jigsawref02_Small.l0]
  by_cases hj : j < l.length
  ·
   rw [if_pos (nlt hj)]
   by_cases h6 : j < 6
   ·
    obtain ⟨m, rfl⟩ : ∃ m', m = m' + 1 := ⟨m - 1, by omega⟩
    rw [ipo_, ipo_, ind_, ipo_, wsu_]
    refine small4_l0 l h0 m (j + 1) k _ (by omega) (by omega) (by omega) (by simp [ha]) (fun v hv => ?_)
    rcases List.mem_append.1 hv with h | h
    ·
     exact hn v h
    ·
     rw [List.mem_singleton] at h; rw [h]; exact mod_near4 _
   ·
    rw [ino_]
    exact fin (by omega)
  ·
   rw [if_neg (nge hj)]
   exact fin (by omega)
theorem small4_f (l : List Int) (h0 : 0 < l.length) {k : Nat} (hk : 4200 ≤ k) : ∃ c : Fin 2048, c.val ≠ 0 ∧ jigsawref02_Small.f k l 6 4 = some (LL c) :=
 small4_l0 l h0 6 0 k [] rfl (by omega) (by omega) rfl (fun v hv => by simp at hv)
theorem make17_f (l1 l2 l3 : List Int) (a4 a5 : Int) (h1 : ∀ x ∈ l1, 0 ≤ x ∧ x ≤ 255) {k : Nat} (hk : 100 ≤ k) :
  ∃ (n : Nat) (p : List Int), 1 ≤ n ∧ n ≤ 4 ∧ Places n p ∧ jigsawref06_Make.f k 16 l1 l2 l3 a4 a5 5 = some (17, p, [], [], [], [], 0, []) := by
 have hw : wrap64 (1 + Int.tmod (wrap64 16) 23) = 17 := by decide +kernel
 have hs : jigsawref06_Shapes.f = some ((jigsawref06_Shapes.f).getD []) := by rfl
 have hlen : ((jigsawref06_Shapes.f).getD []).length = 24 := by decide +kernel
 have hvw : rdOf ByteArray.empty ((jigsawref06_Shapes.f).getD []) 17 = (⟨#[86]⟩ : ByteArray) := by rfl
 have key : ∀ n : Nat, n ≤ 4 → ∀ k, 80 ≤ k → ∃ p, Places n p ∧ jigsawref06_Make.j1 k 5 (⟨#[86]⟩ : ByteArray) (n : Int) 16 l1 l2 l3 a4 a5 17 0 = some (17, p, [], [], [], [], 0, []) := by
  intro n hn k hk
  obtain ⟨k, rfl⟩ : ∃ k', k = k' + 1 := ⟨k - 1, by omega⟩
  obtain ⟨p, hp, hpp⟩ := places_f l1 h1 n hn (k := k) (by omega)
  refine ⟨p, hpp, ?_⟩
  rw [jigsawref06_Make.j1, has_f (r := 0) (by decide +kernel) (by omega), obs_, ind_, hp, obs_, has_f (r := 0) (by decide +kernel) (by omega), obs_, ind_, has_f (r := 0) (by decide +kernel) (by omega), obs_, ind_, has_f (r := 0) (by decide +kernel) (by omega), obs_, ind_, ind_, has_f (r := 0) (by decide +kernel) (by omega), obs_, ind_, ind_, ind_, ind_]
 have key0 : ∀ n : Nat, 1 ≤ n → ∃ (m : Nat) (p : List Int), 1 ≤ m ∧ m ≤ 4 ∧ Places m p ∧ jigsawref06_Make.j0 k 5 (⟨#[86]⟩ : ByteArray) (n : Int) 16 l1 l2 l3 a4 a5 17 0 = some (17, p, [], [], [], [], 0, []) := by
  intro n hn
  obtain ⟨k, rfl⟩ : ∃ k', k = k' + 1 := ⟨k - 1, by omega⟩
  by_cases h4 : n ≤ 4
  ·
   obtain ⟨p, hp, e⟩ := key n h4 k (by omega)
   exact ⟨n, p, hn, h4, hp, by rw [jigsawref06_Make.j0, ino_]; exact e⟩
  ·
   obtain ⟨p, hp, e⟩ := key 4 (by decide) k (by omega)
   exact ⟨4, p, by decide, by decide, hp, by rw [jigsawref06_Make.j0, ipo_]; exact e⟩
 unfold jigsawref06_Make.f
 rw [hs, obs_, hw, hlen, if_pos (by decide), if_pos (by decide), hvw]
 by_cases h0 : l1.length < 1
 ·
  rw [ipo_]
  exact key0 1 (by decide)
 ·
  rw [ino_]
  exact key0 l1.length (by omega)
theorem case17_l0 (p : List Int) (n : Nat) (hp : p.length = n) (hn : n ≤ 8) (a0 a4 a5 : Int) (l1 l2 l3 : List Int) (l6 : List (List Int)) : ∀ (m j k : Nat) (ms : List (Fin 2048)), n = j + m → m + 4300 < k → ms.length = j → (∀ c ∈ ms, c.val ≠ 0) →
  ∃ ms' : List (Fin 2048), ms'.length = n ∧ (∀ c ∈ ms', c.val ≠ 0) ∧ jigsawref10_Make.l0 k 4 (ms.map LL) (j : Int) a0 l1 l2 l3 a4 a5 l6 17 p [] [] [] [] 0 [] = some (17, p, [], [], [], [], 0, [], ms'.map LL)
 | 0, j, k + 1, ms, e, hk, hl, hs => by
  have hw : wrap64 ((n : Int) + (([] : List Int).length : Int)) = (n : Int) := by show wrap64 ((n : Int) + 0) = _; rw [wrap_id (by omega) (by omega)]; omega
  refine ⟨ms, by omega, hs, ?_⟩
  rw [jigsawref10_Make.l0, hp, hw, ino_]
 | m + 1, j, k + 1, ms, e, hk, hl, hs => by
  have hw : wrap64 ((n : Int) + (([] : List Int).length : Int)) = (n : Int) := by show wrap64 ((n : Int) + 0) = _; rw [wrap_id (by omega) (by omega)]; omega
  have step : ∀ c : Fin 2048, c.val ≠ 0 → ∃ ms' : List (Fin 2048), ms'.length = n ∧ (∀ c ∈ ms', c.val ≠ 0) ∧ jigsawref10_Make.l0 k 4 ((ms.map LL) ++ [LL c]) (wrap64 ((j : Int) + 1)) a0 l1 l2 l3 a4 a5 l6 17 p [] [] [] [] 0 [] = some (17, p, [], [], [], [], 0, [], ms'.map LL) := by
   intro c hc
   have h := case17_l0 p n hp hn a0 a4 a5 l1 l2 l3 l6 m (j + 1) k (ms ++ [c]) (by omega) (by omega) (by simp [hl]) (fun x hx => by
    rcases List.mem_append.1 hx with h | h
    ·
     exact hs x h
    ·
     rw [List.mem_singleton] at h; rw [h]; exact hc)
   rw [wsu_]
   rwa [List.map_append] at h
  have hlm : (ms.map LL).length < 5864062014805 := by simp; omega
  rw [jigsawref10_Make.l0, hp, hw, ipo_, obs_]
  have dflt : ∃ c : Fin 2048, c.val ≠ 0 ∧ jigsawref02_Small.f k [Int.tmod (j : Int) 3, 1] 6 4 = some (LL c) := small4_f _ (by simp) (by omega)
  by_cases hx : j < l6.length
  ·
   rw [if_pos (nlt hx), ipo_, rdL_at]
   by_cases hz : ((l6.getD j []).length : Int) > 0
   ·
    obtain ⟨c, hc, h⟩ := small4_f (l6.getD j []) (by omega) (k := k) (by omega)
    rw [if_pos hz, h, obs_, if_pos hlm]
    exact step c hc
   ·
    obtain ⟨c, hc, h⟩ := dflt
    rw [if_neg hz, h, obs_, if_pos hlm]
    exact step c hc
  ·
   obtain ⟨c, hc, h⟩ := dflt
   rw [if_neg (nge hx), h, obs_, if_pos hlm]
   exact step c hc
theorem case17_f (a0 a4 a5 : Int) (l1 l2 l3 : List Int) (l6 : List (List Int)) (h1 : ∀ x ∈ l1, 0 ≤ x ∧ x ≤ 255) {k : Nat} (hk : 4400 ≤ k) :
  ∃ (n : Nat) (p : List Int) (ms : List (Fin 2048)), 1 ≤ n ∧ n ≤ 4 ∧ ms.length = n ∧ (∀ c ∈ ms, c.val ≠ 0) ∧ jigsawref10_Make.f k a0 l1 l2 l3 a4 a5 l6 17 4 = some (17, p, [], [], [], [], 0, [], ms.map LL) := by
 have hw : (wrap64 ((17 : Int) - 1)) % 256 = 16 := by decide +kernel
 obtain ⟨n, p, g1, g2, g3, g5⟩ := make17_f l1 l2 l3 a4 a5 h1 (k := k) (by omega)
 obtain ⟨ms, f1, f2, f3⟩ := case17_l0 p n g3.1 (by omega) 16 a4 a5 l1 l2 l3 l6 n 0 k [] (by omega) (by omega) rfl (fun c hc => by simp at hc)
 refine ⟨n, p, ms, g1, g2, f1, f2, ?_⟩
 unfold jigsawref10_Make.f
 rw [hw, g5, obs_]
 exact f3
abbrev Tr := Int × Int × Int
def TW (T : List Tr) : Prop := T ≠ [] ∧ T.length ≤ 60 ∧ (∀ t ∈ T, -5 ≤ t.1 ∧ t.1 ≤ 5 ∧ 0 ≤ t.2.1 ∧ t.2.1 ≤ t.2.2 ∧ t.2.2 ≤ 5) ∧ (Cs T).Nodup
theorem idx_fits (ds : List S58) (hd : ∀ d ∈ ds, d.f4 ≠ 0) (hl : ds.length ≤ 100) : ∀ (m j k : Nat), ds.length = j + m → m < k → dom_Dom_75_at_prop_Fits_1.l0 k ds (ds.length : Int) (j : Int) = some (-1)
 | 0, j, k + 1, e, _ => by rw [dom_Dom_75_at_prop_Fits_1.l0, ino_]
 | m + 1, j, k + 1, e, hk => by
  have hj : j < ds.length := by omega
  have hv := hd (ds.getD j z58) (by rw [getD_lt _ _ hj]; exact List.getElem_mem _)
  rw [dom_Dom_75_at_prop_Fits_1.l0, if_pos (nlt hj), ipo_, if_pos (nlt hj), rdD_at]
  have hf : prop_Fits_1.f (ds.getD j z58).f0 (ds.getD j z58).f1 (ds.getD j z58).f2 (ds.getD j z58).f3 (ds.getD j z58).f4 = some false := by
   unfold prop_Fits_1.f dom_Dom_Size.f
   rw [obs_]
   congr 1
   exact beq_eq_false_iff_ne.2 hv
  rw [hf, obs_, ind_, wsu_]
  exact idx_fits ds hd hl m (j + 1) k (by omega) (by omega)
theorem idx_right (l : List Int) (hp : ∀ x ∈ l, 0 ≤ x ∧ x ≤ 4) (hl : l.length ≤ 100) : ∀ (m j k : Nat), l.length = j + m → m < k → slices_IndexFunc_int_int_87_at_model_Right_1.l0 k l (l.length : Int) (j : Int) 256 = some (-1)
 | 0, j, k + 1, e, _ => by rw [slices_IndexFunc_int_int_87_at_model_Right_1.l0, ino_]
 | m + 1, j, k + 1, e, hk => by
  have hj : j < l.length := by omega
  have hv := hp (l.getD j 0) (by rw [getD_lt _ _ hj]; exact List.getElem_mem _)
  rw [slices_IndexFunc_int_int_87_at_model_Right_1.l0, if_pos (nlt hj), ipo_, if_pos (nlt hj), rd_at]
  have hf : model_Right_1.f (l.getD j 0) 256 = some false := by
   unfold model_Right_1.f
   rw [ino_, decide_eq_false (by omega)]
  rw [hf, obs_, ind_, wsu_]
  exact idx_right l hp hl m (j + 1) k (by omega) (by omega)
theorem vars_f (kd : Int) (p : List Int) (n : Nat) (hp : p.length = n) (hn : n ≤ 4) (C D E : List Int) (K : Int) (R : List (List Int)) {k : Nat} (hk : 20 ≤ k) : model_Vars.f k kd p [] C D E K R = some p := by
 obtain ⟨k, rfl⟩ : ∃ k', k = k' + 6 := ⟨k - 6, by omega⟩
 have r0 : rd_L7 [p, []] 0 = p := rfl
 have r1 : rd_L7 [p, []] 1 = ([] : List Int) := rfl
 have e1 : wrap64 (0 + (n : Int)) = (n : Int) := by rw [wrap_id (by omega) (by omega)]; omega
 have e2 : wrap64 ((n : Int) + (([] : List Int).length : Int)) = (n : Int) := by show wrap64 ((n : Int) + 0) = _; rw [wrap_id (by omega) (by omega)]; omega
 have w1 : wrap64 (0 + 1) = 1 := by decide +kernel
 have w2 : wrap64 (1 + 1) = 2 := by decide +kernel
 have hlen : (([p, []] : List (List Int)).length : Int) = 2 := rfl
 unfold model_Vars.f slices_Concat_int_int.f
 rw [hlen, slices_Concat_int_int.l0, if_pos (by decide), if_pos (by decide), hlen, if_pos (by decide), r0, hp, e1, ino_, w1, slices_Concat_int_int.l0, if_pos (by decide), if_pos (by decide), hlen, if_pos (by decide), r1, e2, ino_, w2, slices_Concat_int_int.l0, ind_]
 have hg : slices_GrowNil.f (n : Int) = some [] := by unfold slices_GrowNil.f; rw [if_pos ⟨by omega, by omega⟩]
 rw [hg, obs_, hlen, slices_Concat_int_int.l1, if_pos (by decide), if_pos (by decide), hlen, if_pos (by decide), r0, if_pos (by simp [hp]; omega), w1, slices_Concat_int_int.l1, if_pos (by decide), if_pos (by decide), hlen, if_pos (by decide), r1, if_pos (by simp [hp]; omega), w2, slices_Concat_int_int.l1, ind_, obs_]
 simp
theorem idx_bounded (l : List Int) (lo : Int) (hb : ∀ x ∈ l, lo ≤ x ∧ x ≤ 1000000) (hl : l.length ≤ 100) : ∀ (m j k : Nat), l.length = j + m → m < k → slices_IndexFunc_int_int_87_at_model_bounded_1.l0 k l (l.length : Int) (j : Int) lo = some (-1)
 | 0, j, k + 1, e, _ => by rw [slices_IndexFunc_int_int_87_at_model_bounded_1.l0, ino_]
 | m + 1, j, k + 1, e, hk => by
  have hj : j < l.length := by omega
  have hv := hb (l.getD j 0) (by rw [getD_lt _ _ hj]; exact List.getElem_mem _)
  have hf : model_bounded_1.f (l.getD j 0) lo = some false := by
   unfold model_bounded_1.f
   rw [ino_, decide_eq_false (by omega)]
  rw [slices_IndexFunc_int_int_87_at_model_bounded_1.l0, if_pos (nlt hj), ipo_, if_pos (nlt hj), rd_at, hf, obs_, ind_, wsu_]
  exact idx_bounded l lo hb hl m (j + 1) k (by omega) (by omega)
theorem bounded_f (l : List Int) (lo : Int) (hb : ∀ x ∈ l, lo ≤ x ∧ x ≤ 1000000) (hl : l.length ≤ 100) {k : Nat} (hk : 101 ≤ k) : model_bounded.f k l lo = some true := by
 have h : slices_IndexFunc_int_int_87_at_model_bounded_1.l0 k l (l.length : Int) 0 lo = some (-1) := idx_bounded l lo hb hl l.length 0 k (by omega) (by omega)
 unfold model_bounded.f slices_ContainsFunc_int_int_61_at_model_bounded_1.f slices_IndexFunc_int_int_87_at_model_bounded_1.f
 rw [h, obs_, obs_]
 rfl
theorem inc_ne {l : List Int} (h : l.Pairwise (· < ·)) {i j : Nat} (hij : i < j) (hj : j < l.length) : l.getD i 0 < l.getD j 0 := by
 rw [getD_lt _ _ (by omega), getD_lt _ _ hj]
 exact List.pairwise_iff_getElem.1 h i j (by omega) hj hij
theorem tok_at {T : List Tr} (h : TW T) {i : Nat} (hi : i < T.length) : -5 ≤ (Cs T).getD i 0 ∧ (Cs T).getD i 0 ≤ 5 ∧ 0 ≤ (Ds T).getD i 0 ∧ (Ds T).getD i 0 ≤ (Es T).getD i 0 ∧ (Es T).getD i 0 ≤ 5 := by
 have e1 : (Cs T).getD i 0 = (T.getD i (0, 0, 0)).1 := getD_map (fun t : Tr => t.1) T (0, 0, 0) 0 hi
 have e2 : (Ds T).getD i 0 = (T.getD i (0, 0, 0)).2.1 := getD_map (fun t : Tr => t.2.1) T (0, 0, 0) 0 hi
 have e3 : (Es T).getD i 0 = (T.getD i (0, 0, 0)).2.2 := getD_map (fun t : Tr => t.2.2) T (0, 0, 0) 0 hi
 rw [e1, e2, e3]
 exact h.2.2.1 _ (getD_mem _ _ hi)
theorem isrt_lt {l : List Int} (h : l.Nodup) : (Srt.isrt l).Pairwise (· < ·) :=
 List.Pairwise.imp (fun h => by have h1 := h.1; have h2 := h.2; omega) (List.pairwise_and_iff.2 ⟨Srt.isrt_pair l, (Srt.isrt_perm l).nodup_iff.2 h⟩)
theorem mcounts_l0 (kd : Int) (A B : List Int) (K : Int) (R : List (List Int)) {T : List Tr} (h : TW T) (S : List Int) (hS : S.Pairwise (· < ·)) (hl : S.length = T.length) : ∀ (m j k : Nat), T.length = j + m → m < k → model_counts.l0 k S (T.length : Int) (j : Int) kd A B (Cs T) (Ds T) (Es T) K R = some true
 | 0, j, k + 1, e, _ => by rw [model_counts.l0, ino_]
 | m + 1, j, k + 1, e, hk => by
  have hj : j < T.length := by omega
  have h3 := h.2.1
  have ht := tok_at h hj
  have ih := mcounts_l0 kd A B K R h S hS hl m (j + 1) k (by omega) (by omega)
  rw [model_counts.l0, if_pos (nlt hj), ipo_, if_pos (by rw [List.length_map]; exact nlt hj), if_pos (by rw [List.length_map]; exact nlt hj), rd_at, rd_at, ino_, wsu_]
  by_cases h0 : (j : Int) > 0
  ·
   have ew : wrap64 ((j : Int) - 1) = ((j - 1 : Nat) : Int) := by rw [wrap_id (by omega) (by omega)]; omega
   have hlt := inc_ne hS (i := j - 1) (j := j) (by omega) (by omega)
   rw [if_pos h0, if_pos (by rw [hl]; exact nlt hj), ew, ipo_, if_pos (by rw [hl]; omega), rd_at, rd_at, ino_]
   exact ih
  ·
   rw [if_neg h0]
   exact ih
theorem mcounts_f (A B : List Int) (K : Int) (R : List (List Int)) {T : List Tr} (h : TW T) {k : Nat} (hk : 100 ≤ k) : model_counts.f k 21 A B (Cs T) (Ds T) (Es T) K R = some true := by
 have h3 := h.2.1
 have h1 : 1 ≤ T.length := List.length_pos_iff.2 h.1
 have hs : slices_Sorted.f (Cs T) = some (Srt.isrt (Cs T)) := by
  unfold slices_Sorted.f
  rw [if_pos ⟨by rw [List.length_map]; exact h1, by rw [List.length_map]; omega⟩]
 unfold model_counts.f
 rw [if_pos rfl, hs, obs_, List.length_map]
 exact mcounts_l0 21 A B K R h _ (isrt_lt h.2.2.2) (by rw [(Srt.isrt_perm _).length_eq, List.length_map]) T.length 0 k (by omega) (by omega)
theorem right_f (p : List Int) (n : Nat) (h1 : 1 ≤ n) (hn : n ≤ 4) (hp : Places n p) {T : List Tr} (hT : TW T) {k : Nat} (hk : 200 ≤ k) : model_Right.f k 21 p [] (Cs T) (Ds T) (Es T) 0 [] 256 = some 0 := by
 have hs : model_Shape.f 21 = some (⟨#[86, 99, 100, 101]⟩ : ByteArray) := by decide +kernel
 have h3 := hT.2.1
 have t1 : 1 ≤ T.length := List.length_pos_iff.2 hT.1
 have nm : ∀ (m : Nat) (c d : UInt8), 1 ≤ m → m ≤ 64 → 0 ≤ Lib.indexByte (⟨#[86, 99, 100, 101]⟩ : ByteArray).data.toList d → model_named.f (m : Int) (⟨#[86, 99, 100, 101]⟩ : ByteArray) ⟨#[c]⟩ ⟨#[d]⟩ = some true := by
  intro m c d g1 g2 g3
  unfold model_named.f model_within.f
  rw [show strings_Contains.f (⟨#[86, 99, 100, 101]⟩ : ByteArray) ⟨#[d]⟩ = some (decide (0 ≤ Lib.indexByte (⟨#[86, 99, 100, 101]⟩ : ByteArray).data.toList d)) from rfl, obs_, if_pos (by simpa using g3), ipo_, obs_, decide_eq_true (by omega)]
 have nz : ∀ d : UInt8, Lib.indexByte (⟨#[86, 99, 100, 101]⟩ : ByteArray).data.toList d < 0 → model_named.f 0 (⟨#[86, 99, 100, 101]⟩ : ByteArray) ⟨#[119]⟩ ⟨#[d]⟩ = some true := by
  intro d g
  unfold model_named.f
  rw [show strings_Contains.f (⟨#[86, 99, 100, 101]⟩ : ByteArray) ⟨#[d]⟩ = some (decide (0 ≤ Lib.indexByte (⟨#[86, 99, 100, 101]⟩ : ByteArray).data.toList d)) from rfl, obs_, if_neg (by simp; omega)]
  rfl
 have hc : model_counted.f 21 p [] (Cs T) (Ds T) (Es T) 0 [] (⟨#[86, 99, 100, 101]⟩ : ByteArray) = some true := by
  unfold model_counted.f
  rw [ind_, show strings_Contains.f (⟨#[86, 99, 100, 101]⟩ : ByteArray) ⟨#[114]⟩ = some false from by decide +kernel, obs_, ind_, if_pos (by decide), hp.1, List.length_map, List.length_map, List.length_map, nm n 118 86 h1 (by omega) (by decide +kernel), obs_, if_pos rfl, show (([] : List Int).length : Int) = 0 from rfl, nz 87 (by decide +kernel), obs_, if_pos rfl, nm T.length 45 99 t1 (by omega) (by decide +kernel), obs_, if_pos rfl, nm T.length 45 100 t1 (by omega) (by decide +kernel), obs_, if_pos rfl, nm T.length 45 101 t1 (by omega) (by decide +kernel), obs_]
 have ha : model_alike.f 21 p [] (Cs T) (Ds T) (Es T) 0 [] = some true := by
  unfold model_alike.f
  rw [ind_, ind_, ind_, ind_, ind_, if_pos rfl, List.length_map, List.length_map, List.length_map, if_pos rfl, beq_self_eq_true]
 have hi : slices_ContainsFunc_int_int_61_at_model_Right_1.f k p 256 = some false := by
  unfold slices_ContainsFunc_int_int_61_at_model_Right_1.f slices_IndexFunc_int_int_87_at_model_Right_1.f
  have h := idx_right p hp.2 (by rw [hp.1]; omega) p.length 0 k (by omega) (by rw [hp.1]; omega)
  have h' : slices_IndexFunc_int_int_87_at_model_Right_1.l0 k p (p.length : Int) 0 256 = some (-1) := h
  rw [h', obs_]
  rfl
 have hb : model_numbers.f k 21 p [] (Cs T) (Ds T) (Es T) 0 [] = some true := by
  obtain ⟨k, rfl⟩ : ∃ k', k = k' + 1 := ⟨k - 1, by omega⟩
  have b1 : ∀ x ∈ Cs T, (-1000000 : Int) ≤ x ∧ x ≤ 1000000 := fun x hx => by
   obtain ⟨t, ht, rfl⟩ := List.mem_map.1 hx
   have := hT.2.2.1 t ht
   omega
  have b2 : ∀ x ∈ Ds T, (0 : Int) ≤ x ∧ x ≤ 1000000 := fun x hx => by
   obtain ⟨t, ht, rfl⟩ := List.mem_map.1 hx
   have := hT.2.2.1 t ht
   omega
  have b3 : ∀ x ∈ Es T, (0 : Int) ≤ x ∧ x ≤ 1000000 := fun x hx => by
   obtain ⟨t, ht, rfl⟩ := List.mem_map.1 hx
   have := hT.2.2.1 t ht
   omega
  unfold model_numbers.f
  rw [ind_, if_pos rfl, model_numbers.l0, ind_, bounded_f _ _ b1 (by rw [List.length_map]; omega) (by omega), obs_, if_pos rfl, bounded_f _ _ b2 (by rw [List.length_map]; omega) (by omega), obs_, if_pos rfl, bounded_f _ _ b3 (by rw [List.length_map]; omega) (by omega), obs_, if_pos rfl, if_pos (by decide)]
  rfl
 unfold model_Right.f
 rw [hs, obs_, if_neg (by decide +kernel), hc, obs_, if_pos rfl, ha, obs_, if_pos rfl, if_pos rfl, vars_f 21 p n hp.1 hn _ _ _ _ _ (by omega), obs_, hi, obs_, ind_, hb, obs_, if_pos rfl, mcounts_f _ _ _ _ hT (by omega), obs_, if_pos rfl]
theorem fits_f (p : List Int) (ds : List S58) (n : Nat) (h1 : 1 ≤ n) (hn : n ≤ 4) (hp : Places n p) {T : List Tr} (hT : TW T) (hv : ds.length = n) (hz : ∀ d ∈ ds, d.f4 ≠ 0) {k : Nat} (hk : 200 ≤ k) : prop_Fits.f k 21 p [] (Cs T) (Ds T) (Es T) 0 [] ds 21 21 = some true := by
 have hi : dom_Dom_55_at_prop_Fits_1.f k ds = some false := by
  unfold dom_Dom_55_at_prop_Fits_1.f dom_Dom_75_at_prop_Fits_1.f
  have h' : dom_Dom_75_at_prop_Fits_1.l0 k ds ((ds.length : Nat) : Int) 0 = some (-1) := idx_fits ds hz (by omega) ds.length 0 k (by omega) (by omega)
  rw [h', obs_]
  rfl
 have hw : wrap64 ((n : Int) + (([] : List Int).length : Int)) = (n : Int) := by show wrap64 ((n : Int) + 0) = _; rw [wrap_id (by omega) (by omega)]; omega
 unfold prop_Fits.f
 rw [hi, obs_, if_pos (by decide), if_pos (by decide), right_f p n h1 hn hp hT hk, obs_, if_pos rfl, hp.1, hw, ipo_]
 rfl
theorem doms_l0 (ms : List (Fin 2048)) (hs : ∀ c ∈ ms, c.val ≠ 0) (hl : ms.length ≤ 100) : ∀ (m j k : Nat), ms.length = j + m → m + 50 < k →
  jigsawlaw20_doms.l0 k ((ms.take j).map D) (ms.map LL) (ms.length : Int) (j : Int) = some (ms.map D)
 | 0, j, k + 1, e, _ => by
  rw [jigsawlaw20_doms.l0, ino_, List.take_of_length_le (by omega)]
 | m + 1, j, k + 1, e, hk => by
  have hj : j < ms.length := by omega
  have hv := hs (ms.getD j 0) (by rw [getD_lt _ _ hj]; exact List.getElem_mem _)
  rw [jigsawlaw20_doms.l0, if_pos (nlt hj), ipo_, if_pos (by rw [List.length_map]; exact nlt hj), rdL_at, getD_map LL ms 0 [] hj, of_one hv (by omega), obs_, if_pos (by simp; omega), wsu_]
  have h := doms_l0 ms hs hl m (j + 1) k (by omega) (by omega)
  rw [← take_step ms 0 hj, List.map_append] at h
  exact h
theorem doms_f (ms : List (Fin 2048)) (hs : ∀ c ∈ ms, c.val ≠ 0) (hl : ms.length ≤ 100) {k : Nat} (hk : 200 ≤ k) : jigsawlaw20_doms.f k (ms.map LL) = some (ms.map D) := by
 have h := doms_l0 ms hs hl ms.length 0 k (by omega) (by omega)
 unfold jigsawlaw20_doms.f
 rw [List.length_map]
 exact h
theorem ghas_l0 (l : List Int) (hl : l.length ≤ 1000) (v : Int) : ∀ (m j k : Nat), l.length = j + m → m < k → jigsawref02_Has.l0 k l v (j : Int) = some (decide (v ∈ l.drop j))
 | 0, j, k + 1, e, _ => by
  rw [jigsawref02_Has.l0, ino_, List.drop_eq_nil_of_le (by omega)]
  rfl
 | m + 1, j, k + 1, e, hk => by
  have hj : j < l.length := by omega
  have hd : l.drop j = l[j] :: l.drop (j + 1) := List.drop_eq_getElem_cons hj
  have hr : l.getD j 0 = l[j] := getD_lt _ _ hj
  rw [jigsawref02_Has.l0, if_pos (nlt hj), ipo_, rd_at, hr, wsu_, ghas_l0 l hl v m (j + 1) k (by omega) (by omega), hd]
  by_cases h : l[j] = v
  ·
   rw [if_pos h, decide_eq_true (by rw [h]; exact List.mem_cons_self)]
  ·
   rw [if_neg h]
   congr 1
   apply decide_eq_decide.2
   rw [List.mem_cons]
   exact ⟨Or.inr, fun h' => h'.resolve_left (fun e => h e.symm)⟩
theorem ghas_f (l : List Int) (hl : l.length ≤ 1000) (v : Int) {k : Nat} (hk : l.length < k) : jigsawref02_Has.f k l v = some (decide (v ∈ l)) :=
 ghas_l0 l hl v l.length 0 k (by omega) hk
def rep (a : List Int) : List Int := List.replicate a.length 1
theorem rep_snoc (a : List Int) (v : Int) : rep (a ++ [v]) = rep a ++ [1] := by
 unfold rep
 rw [List.length_append, List.length_singleton, List.replicate_succ']
theorem rep_len (a : List Int) : (rep a).length = a.length := by simp [rep]
def Inv (s a : List Int) : Prop := a.Nodup ∧ (∀ x, x ∈ a ↔ x ∈ s) ∧ Near s ∧ a.length ≤ s.length
theorem ga_l2 (t n : List (List Int)) (o p e l : Int) (g m : List Int) (hm : m.length ≤ 20) (hn : Near m) : ∀ (d j k : Nat) (s a : List Int), m.length = j + d → s.length + d ≤ 100 → Inv s a → d + 120 < k →
  ∃ (s' a' : List Int) (k' : Nat), Inv s' a' ∧ s'.length = s.length + d ∧ (∀ x, x ∈ s' ↔ x ∈ s ∨ x ∈ m.drop j) ∧ k = k' + d + 1 ∧ jigsawlaw20_GccAll.l2 k t s n o p m (m.length : Int) (j : Int) e g a (rep a) (rep a) l = jigsawlaw20_GccAll.l1 k' t s' n o (wrap64 (p + 1)) e g a' (rep a') (rep a') l
 | 0, j, k + 1, s, a, h, hs, hI, hk => by
  refine ⟨s, a, k, hI, rfl, fun x => ?_, rfl, ?_⟩
  ·
   rw [List.drop_eq_nil_of_le (by omega)]; simp
  ·
   rw [jigsawlaw20_GccAll.l2, ino_]
 | d + 1, j, k + 1, s, a, h, hs, hI, hk => by
  have hj : j < m.length := by omega
  have hr : m.getD j 0 = m[j] := getD_lt _ _ hj
  have hd : m.drop j = m[j] :: m.drop (j + 1) := List.drop_eq_getElem_cons hj
  have hv := hn m[j] (List.getElem_mem _)
  obtain ⟨i1, i2, i3, i4⟩ := hI
  have hne : Near (s ++ [m[j]]) := fun v hv' => by
   rcases List.mem_append.1 hv' with h | h
   ·
    exact i3 v h
   ·
    rw [List.mem_singleton] at h; rw [h]; exact hv
  have r1 := rep_len a
  rw [jigsawlaw20_GccAll.l2, if_pos (nlt hj), ipo_, if_pos (nlt hj), rd_at, hr, ino_, ino_, ghas_f s (by omega) _ (by omega), obs_, ipo_, obs_, wsu_]
  by_cases hx : m[j] ∈ s
  ·
   obtain ⟨s', a', k', h1, h2, h3, h4, h5⟩ := ga_l2 t n o p e l g m hm hn d (j + 1) k (s ++ [m[j]]) a (by omega) (by simp; omega) ⟨i1, fun x => by rw [i2 x, List.mem_append, List.mem_singleton]; exact ⟨Or.inl, fun h => h.elim id (fun h => h ▸ hx)⟩, hne, by simp; omega⟩ (by omega)
   refine ⟨s', a', k', h1, by rw [h2]; simp; omega, fun x => ?_, by omega, ?_⟩
   ·
    rw [h3 x, hd, List.mem_append, List.mem_singleton, List.mem_cons, or_assoc]
   ·
    rw [if_pos (decide_eq_true hx)]
    exact h5
  ·
   have hxa : m[j] ∉ a := fun h => hx ((i2 _).1 h)
   obtain ⟨s', a', k', h1, h2, h3, h4, h5⟩ := ga_l2 t n o p e l g m hm hn d (j + 1) k (s ++ [m[j]]) (a ++ [m[j]]) (by omega) (by simp; omega) ⟨by
    rw [List.nodup_append]
    exact ⟨i1, by simp, fun x hx' y hy => by rw [List.mem_singleton] at hy; rw [hy]; exact fun e => hxa (e ▸ hx')⟩, fun x => by rw [List.mem_append, List.mem_append, i2 x], hne, by simp; omega⟩ (by omega)
   refine ⟨s', a', k', h1, by rw [h2]; simp; omega, fun x => ?_, by omega, ?_⟩
   ·
    rw [h3 x, hd, List.mem_append, List.mem_singleton, List.mem_cons, or_assoc]
   ·
    rw [if_neg (by rw [decide_eq_false hx]; decide), ipo_, ipo_, ipo_, ← rep_snoc]
    exact h5
def finA (k : Nat) (ls : List (List Int)) (e : Int) (g a : List Int) (l : Int) : Option Bool :=
 (jigsawlaw20_doms.f k ls).bind fun p => ((gcc_Filter.f k e g ([] : List Int) a (rep a) (rep a) l ([] : List (List Int)) p).bind fun n => (if n.2 = true then ((jigsawlaw20_GccFixed.f k n.1).bind fun q => (some q)) else ((jigsawlaw20_wakes.f k).bind fun r => (some r))))
theorem ga_l1 (ls : List (List Int)) (h4 : ls.length ≤ 4) (hb : ∀ i, i < ls.length → (ls.getD i []).length ≤ 11 ∧ Near (ls.getD i [])) (e l : Int) (g : List Int) : ∀ (d j k : Nat) (s a : List Int), ls.length = j + d → s.length ≤ 11 * j → Inv s a → 15 * d + 150 < k →
  ∃ (s' a' : List Int) (k' : Nat), Inv s' a' ∧ s'.length ≤ 44 ∧ (∀ x, x ∈ s' ↔ x ∈ s ∨ ∃ i, j ≤ i ∧ i < ls.length ∧ x ∈ ls.getD i []) ∧ k ≤ k' + 15 * d + 1 ∧ jigsawlaw20_GccAll.l1 k ls s ls (ls.length : Int) (j : Int) e g a (rep a) (rep a) l = finA k' ls e g a' l
 | 0, j, k + 1, s, a, h, hs, hI, hk => by
  refine ⟨s, a, k, hI, by omega, fun x => ⟨Or.inl, fun h' => h'.elim id (fun ⟨i, a1, a2, _⟩ => by omega)⟩, by omega, ?_⟩
  rw [jigsawlaw20_GccAll.l1, ino_]
  rfl
 | d + 1, j, k + 1, s, a, h, hs, hI, hk => by
  have hj : j < ls.length := by omega
  obtain ⟨b1, b2⟩ := hb j hj
  obtain ⟨s1, a1, k1, h1, h2, h3, h4', h5⟩ := ga_l2 ls ls (ls.length : Int) (j : Int) e l g (ls.getD j []) (by omega) b2 (ls.getD j []).length 0 k s a (by omega) (by omega) hI (by omega)
  obtain ⟨s2, a2, k2, g1, g2, g3, g4, g5⟩ := ga_l1 ls h4 hb e l g d (j + 1) k1 s1 a1 (by omega) (by omega) h1 (by omega)
  refine ⟨s2, a2, k2, g1, g2, fun x => ?_, by omega, ?_⟩
  ·
   rw [g3 x, h3 x, List.drop_zero]
   constructor
   ·
    rintro ((h' | h') | ⟨i, c1, c2, c3⟩)
    ·
     exact .inl h'
    ·
     exact .inr ⟨j, Nat.le_refl _, hj, h'⟩
    ·
     exact .inr ⟨i, by omega, c2, c3⟩
   ·
    rintro (h' | ⟨i, c1, c2, c3⟩)
    ·
     exact .inl (.inl h')
    ·
     by_cases hij : i = j
     ·
      subst hij; exact .inl (.inr c3)
     ·
      exact .inr ⟨i, by omega, c2, c3⟩
  ·
   rw [jigsawlaw20_GccAll.l1, if_pos (nlt hj), ipo_, if_pos (nlt hj), rdL_at]
   refine h5.trans ?_
   rw [wsu_]
   exact g5
theorem ga_l0 (ls : List (List Int)) (n : Nat) (hn : n ≤ 4) (b c : Int) : ∀ (d j k : Nat), n = j + d → d < k →
  ∃ k', k ≤ k' + d + 1 ∧ jigsawlaw20_GccAll.l0 k ls (n : Int) (j : Int) b ((List.range j).map (fun i : Nat => (i : Int))) c = jigsawlaw20_GccAll.l1 k' ls ([] : List Int) ls (ls.length : Int) 0 b ((List.range n).map (fun i : Nat => (i : Int))) ([] : List Int) ([] : List Int) ([] : List Int) c
 | 0, j, k + 1, h, hk => by
  obtain rfl : n = j := by omega
  exact ⟨k, by omega, by rw [jigsawlaw20_GccAll.l0, ino_]⟩
 | d + 1, j, k + 1, h, hk => by
  obtain ⟨k', h1, h2⟩ := ga_l0 ls n hn b c d (j + 1) k (by omega) (by omega)
  refine ⟨k', by omega, ?_⟩
  rw [jigsawlaw20_GccAll.l0, ipo_, if_pos (by simp; omega), wsu_]
  rw [List.range_succ, List.map_append] at h2
  exact h2
theorem lift_st : ∀ ms : List (Fin 2048), (∀ c ∈ ms, c.val ≠ 0) → ∃ st : List Pd, Fine st ∧ st.map Prod.snd = ms ∧ st.map dp = ms.map D
 | [], _ => ⟨[], fun _ h => by simp at h, rfl, rfl⟩
 | m :: ms, h => by
  obtain ⟨st, h1, h2, h3⟩ := lift_st ms fun c hc => h c (List.mem_cons_of_mem _ hc)
  obtain ⟨r, hr, e⟩ := rep_D m
  refine ⟨(r, m) :: st, fun p hp => ?_, ?_, ?_⟩
  ·
   rcases List.mem_cons.1 hp with rfl | hp
   ·
    exact ⟨hr, h m (List.mem_cons_self ..)⟩
   ·
    exact h1 p hp
  ·
   rw [List.map_cons, h2]
  ·
   rw [List.map_cons, List.map_cons, h3, e]; rfl
theorem wt_le : ∀ st : List Pd, wt st ≤ 11 * st.length
 | [] => Nat.le_refl _
 | p :: st => by
  have := wt_le st
  have := (len_all p.2).1
  rw [wt_cons, List.length_cons]; omega
theorem list_dr {r : Nat} {m : Fin 2048} (h : Rep r m) (hm : m.val ≠ 0) {k : Nat} (hk : 40 ≤ k) : dom_Dom_List.f k (DR r m).f0 (DR r m).f1 (DR r m).f2 (DR r m).f3 (DR r m).f4 = some (LL m) := by
 by_cases h2 : r = 0 ∨ r = 1
 ·
  have e : DR r m = D m := by
   rcases h2 with rfl | rfl
   ·
    unfold D DM DR
    rw [if_pos (h.1 rfl), if_pos rfl, if_pos rfl]; rfl
   ·
    by_cases hz : m.val % 32 = 0
    ·
     have hz1 := h.2 rfl
     have h0 : m.val = 0 := by omega
     exact absurd h0 hm
    ·
     unfold D DM DR
     rw [if_neg hz, if_pos (h.2 rfl), ind_, ind_, if_pos rfl]; rfl
  rw [e]
  exact list_one m hk
 ·
  have e : DR r m = DR 2 m := by
   unfold DR
   rw [if_neg (fun h => h2 (.inl h)), if_neg (fun h => h2 (.inl h)), if_neg (fun h => h2 (.inr h)), ind_, ind_, ind_]
  rw [e]
  exact up (f := fun k => dom_Dom_List.f k _ _ _ _ _) (dom_Dom_List.mono _ _ _ _ _) (rlist2_all m) hk
theorem rnd_mono : ∀ (T : List (Int × Int × Int)) {st st' : List Pd} {ch' : Bool}, rnd T st true = some (st', ch') → ch' = true
 | [], st, st', ch', e => (Prod.mk.inj (Option.some.inj e)).2.symm
 | t :: T, st, st', ch', e => by
  unfold rnd at e
  split at e
  ·
   cases e
  ·
   exact rnd_mono T e
theorem rnd_each : ∀ (T : List (Int × Int × Int)) {st : List Pd}, rnd T st false = some (st, false) → ∀ t ∈ T, one1 t.1 t.2.1 t.2.2 st = some (st, false)
 | [], st, _, t, ht => by simp at ht
 | t0 :: T, st, e, t, ht => by
  have e0 := e
  unfold rnd at e
  split at e
  ·
   cases e
  ·
   rename_i r hr
   rw [Bool.false_or] at e
   have h2 : r.2 = false := by
    cases h : r.2 with
    | false => rfl
    | true => rw [h] at e; exact absurd (rnd_mono T e) (by decide)
   have h1 : r.1 = st := (one1_wt (st' := r.1) (ch := r.2) hr).2.2 h2
   have hr' : one1 t0.1 t0.2.1 t0.2.2 st = some (st, false) := by rw [hr, ← h1, ← h2]
   rw [h1, h2] at e
   rcases List.mem_cons.1 ht with rfl | h
   ·
    exact hr'
   ·
    exact rnd_each T e t h
theorem once_fix {v : Int} {st : List Pd} (e : one1 v 1 1 st = some (st, false)) : (cS v st ≤ 1) ∧ (cS v st = 1 → st.any (hit v) = false) ∧ (cC v st = 1 → st.any (hit v) = false) := by
 have hst := one1_wt e
 unfold one1 at e
 split at e
 ·
  cases e
 ·
  rename_i h0
  have hs : cS v st ≤ 1 := by omega
  have hst1 : ((decide ((cS v st : Int) = 1) && st.any (hit v)) = false) → st1 v 1 st = st := fun h => (wt_st1 v 1 st).2.2 h
  split at e
  ·
   rename_i h1
   obtain ⟨e1, e2⟩ := Prod.mk.inj (Option.some.inj e)
   have h := hst1 e2
   rw [h] at h1
   refine ⟨hs, fun hc => ?_, fun hc => by omega⟩
   rw [hc] at e2
   simpa using e2
  ·
   split at e
   ·
    obtain ⟨e1, e2⟩ := Prod.mk.inj (Option.some.inj e)
    rw [Bool.or_eq_false_iff] at e2
    have h := hst1 e2.1
    rw [h] at e2
    exact ⟨hs, fun _ => e2.2, fun _ => e2.2⟩
   ·
    cases e
theorem countP_two {α : Type} {p : α → Bool} : ∀ (l : List α) (z : α) {i j : Nat}, i < j → j < l.length → p (l.getD i z) = true → p (l.getD j z) = true → 2 ≤ l.countP p
 | a :: l, z, 0, j + 1, _, hj, h1, h2 => by
  have hm : l.getD j z ∈ l := getD_mem l z (by simpa using hj)
  have h3 : 0 < l.countP p := List.countP_pos_iff.2 ⟨_, hm, by simpa using h2⟩
  rw [List.countP_cons, if_pos (by simpa using h1)]
  omega
 | a :: l, z, i + 1, j + 1, hij, hj, h1, h2 => by
  have h := countP_two l z (i := i) (j := j) (by omega) (by simpa using hj) (by simpa using h1) (by simpa using h2)
  rw [List.countP_cons]
  omega
theorem any_false {α : Type} {p : α → Bool} {l : List α} (h : l.any p = false) (z : α) {i : Nat} (hi : i < l.length) : p (l.getD i z) = false := by
 have := List.any_eq_false.1 h _ (getD_mem l z hi)
 simpa using this
theorem safe_fix {v : Int} {st : List Pd} (e : one1 v 1 1 st = some (st, false)) (z : Pd) {i : Nat} (hi : i < st.length) (hv : v ∈ LL (st.getD i z).2) :
  ((LL (st.getD i z).2).length = 1 → ∀ j, j < st.length → j ≠ i → v ∉ LL (st.getD j z).2) ∧ (st.countP (isIn v) = 1 → (LL (st.getD i z).2).length ≤ 1) := by
 obtain ⟨h1, h2, h3⟩ := once_fix e
 refine ⟨fun h j hj hne hm => ?_, fun h => ?_⟩
 ·
  have s1 : sg v (st.getD i z) = true := by unfold sg isIn; rw [decide_eq_true hv, decide_eq_true h]; rfl
  have p1 : 0 < cS v st := List.countP_pos_iff.2 ⟨_, getD_mem st z hi, s1⟩
  have hn := any_false (h2 (by omega)) z hj
  have hlen : (LL (st.getD j z).2).length = 1 := by
   have hpos : 0 < (LL (st.getD j z).2).length := List.length_pos_of_mem hm
   have : ¬ 1 < (LL (st.getD j z).2).length := fun h' => by rw [hit_iff.2 ⟨hm, h'⟩] at hn; cases hn
   omega
  have s2 : sg v (st.getD j z) = true := by unfold sg isIn; rw [decide_eq_true hm, decide_eq_true hlen]; rfl
  have h5 : 2 ≤ cS v st := by
   rcases Nat.lt_or_gt_of_ne hne with h' | h'
   ·
    exact countP_two st z h' hi s2 s1
   ·
    exact countP_two st z h' hj s1 s2
  omega
 ·
  have hn := any_false (h3 h) z hi
  have : ¬ 1 < (LL (st.getD i z).2).length := fun h' => by rw [hit_iff.2 ⟨hv, h'⟩] at hn; cases hn
  omega
def zP : Pd := (0, ⟨0, by decide⟩)
section
variable (st : List Pd) (hF : Fine st) (hl : st.length ≤ 100)
theorem dp_at {j : Nat} (hj : j < st.length) : (st.map dp).getD j z58 = dp (st.getD j zP) := getD_map dp st zP z58 hj
def ax1 (k i u : Nat) (l : List Int) : Option Bool := jigsawlaw20_GccFixed.l1 k (st.map dp) (i : Int) (st.map dp) (st.length : Int) (i : Int) l (l.length : Int) (u : Int) (dp (st.getD i zP)).f0 (dp (st.getD i zP)).f1 (dp (st.getD i zP)).f2 (dp (st.getD i zP)).f3 (dp (st.getD i zP)).f4
def aft (k i u : Nat) (l : List Int) (c : Nat) : Option Bool := if (c : Int) = 1 then (if ((LL (st.getD i zP).2).length : Int) > 1 then none else ax1 st k i (u + 1) l) else ax1 st k i (u + 1) l
include hF hl
theorem ax_l2 (i : Nat) (hi : i < st.length) (v : Int) (hv : -5 ≤ v ∧ v ≤ 5) (l : List Int) (u : Nat) (hu : u ≤ 1000) (hs : (LL (st.getD i zP).2).length = 1 → ∀ j, j < st.length → j ≠ i → v ∉ LL (st.getD j zP).2) : ∀ (d j k x : Nat), st.length = j + d → x + d ≤ 1000 → 2 * d + 30 < k →
  ∃ k', k ≤ k' + 2 * d + 1 ∧ jigsawlaw20_GccFixed.l2 k (st.map dp) (i : Int) v (x : Int) (st.map dp) (st.length : Int) (i : Int) l (l.length : Int) (u : Int) (st.map dp) (st.length : Int) (j : Int) (dp (st.getD i zP)).f0 (dp (st.getD i zP)).f1 (dp (st.getD i zP)).f2 (dp (st.getD i zP)).f3 (dp (st.getD i zP)).f4 = aft st k' i u l (x + (st.drop j).countP (isIn v))
 | 0, j, k + 1, x, e, _, hk => by
  refine ⟨k, by omega, ?_⟩
  rw [jigsawlaw20_GccFixed.l2, ino_, List.drop_eq_nil_of_le (by omega), List.countP_nil, Nat.add_zero, wsu_]
  rfl
 | d + 1, j, k + 2, x, e, hx, hk => by
  have hj : j < st.length := by omega
  have hd : st.drop j = st[j] :: st.drop (j + 1) := List.drop_eq_getElem_cons hj
  have hg : st.getD j zP = st[j] := getD_lt _ _ hj
  have hmem : st.getD j zP ∈ st := getD_mem st zP hj
  have hr := (hF _ hmem).1
  have hc : x + (st.drop j).countP (isIn v) = (if v ∈ LL (st.getD j zP).2 then x + 1 else x) + (st.drop (j + 1)).countP (isIn v) := by
   rw [hd, List.countP_cons, ← hg]
   by_cases h : v ∈ LL (st.getD j zP).2
   ·
    rw [if_pos h, if_pos (show isIn v (st.getD j zP) = true from decide_eq_true h)]; omega
   ·
    rw [if_neg h, if_neg (show ¬ isIn v (st.getD j zP) = true by unfold isIn; rw [decide_eq_false h]; decide)]; omega
  have hhas : dom_Dom_Has.f (rd_T58 (st.map dp) (j : Int)).f0 (rd_T58 (st.map dp) (j : Int)).f1 (rd_T58 (st.map dp) (j : Int)).f2 (rd_T58 (st.map dp) (j : Int)).f3 (rd_T58 (st.map dp) (j : Int)).f4 v = some (decide (v ∈ LL (st.getD j zP).2)) := by
   rw [rdD_at, dp_at st hj]
   exact has_dr hr hv _ _ _
  have step : ∀ y : Nat, y = (if v ∈ LL (st.getD j zP).2 then x + 1 else x) → ∃ k', k + 2 ≤ k' + 2 * (d + 1) + 1 ∧ jigsawlaw20_GccFixed.j3 (k + 1) (st.map dp) (i : Int) v (y : Int) (j : Int) (st.map dp) (st.length : Int) (i : Int) l (l.length : Int) (u : Int) (st.map dp) (st.length : Int) (j : Int) (dp (st.getD i zP)).f0 (dp (st.getD i zP)).f1 (dp (st.getD i zP)).f2 (dp (st.getD i zP)).f3 (dp (st.getD i zP)).f4 (rd_T58 (st.map dp) (j : Int)).f0 (rd_T58 (st.map dp) (j : Int)).f1 (rd_T58 (st.map dp) (j : Int)).f2 (rd_T58 (st.map dp) (j : Int)).f3 (rd_T58 (st.map dp) (j : Int)).f4 = aft st k' i u l (x + (st.drop j).countP (isIn v)) := by
   intro y hy
   obtain ⟨k', h1, h2⟩ := ax_l2 i hi v hv l u hu hs d (j + 1) k y (by omega) (by rw [hy]; split <;> omega) (by omega)
   rw [← hy] at hc
   refine ⟨k', by omega, ?_⟩
   rw [hc, ← h2, jigsawlaw20_GccFixed.j3, wsu_]
   by_cases hij : (j : Int) = (i : Int)
   ·
    rw [if_pos hij]
   ·
    rw [if_neg hij, show dom_Dom_Size.f (dp (st.getD i zP)).f0 (dp (st.getD i zP)).f1 (dp (st.getD i zP)).f2 (dp (st.getD i zP)).f3 (dp (st.getD i zP)).f4 = some ((LL (st.getD i zP).2).length : Int) from rfl, obs_]
    by_cases h1' : ((LL (st.getD i zP).2).length : Int) = 1
    ·
     have hno := hs (by omega) j hj (by omega)
     rw [if_pos h1', hhas, obs_, decide_eq_false hno, ind_]
    ·
     rw [if_neg h1']
  rw [jigsawlaw20_GccFixed.l2, if_pos (nlt hj), ipo_, if_pos (by rw [List.length_map]; exact nlt hj), hhas, obs_]
  by_cases h : v ∈ LL (st.getD j zP).2
  ·
   rw [if_pos (decide_eq_true h), wsu_]
   exact step (x + 1) (by rw [if_pos h])
  ·
   rw [if_neg (by rw [decide_eq_false h]; decide)]
   exact step x (by rw [if_neg h])
theorem ax_l1 (i : Nat) (hi : i < st.length) (l : List Int) (hll : l.length ≤ 20) (hl2 : ∀ v ∈ l, v ∈ LL (st.getD i zP).2) (hfix : ∀ v ∈ l, one1 v 1 1 st = some (st, false)) : ∀ (d u k : Nat), l.length = u + d → (2 * st.length + 3) * d + 240 < k →
  ∃ k', k ≤ k' + (2 * st.length + 3) * d + 1 ∧ ax1 st k i u l = jigsawlaw20_GccFixed.l0 k' (st.map dp) (st.map dp) (st.length : Int) ((i + 1 : Nat) : Int)
 | 0, u, k + 1, e, hk => by
  refine ⟨k, by omega, ?_⟩
  unfold ax1
  rw [jigsawlaw20_GccFixed.l1, ino_, wsu_]
 | d + 1, u, k + 1, e, hk => by
  have hu : u < l.length := by omega
  have hm : l.getD u 0 ∈ l := getD_mem l 0 hu
  have hv2 := hl2 _ hm
  obtain ⟨s1, s2⟩ := safe_fix (hfix _ hm) zP hi hv2
  rw [Nat.mul_succ] at hk
  obtain ⟨k1, h1, h2⟩ := ax_l2 st hF hl i hi (l.getD u 0) (near_in hv2) l u (by omega) s1 st.length 0 k 0 (by omega) (by omega) (by omega)
  obtain ⟨k2, g1, g2⟩ := ax_l1 i hi l hll hl2 hfix d (u + 1) k1 (by omega) (by omega)
  refine ⟨k2, by rw [Nat.mul_succ]; omega, ?_⟩
  unfold ax1
  rw [jigsawlaw20_GccFixed.l1, if_pos (nlt hu), ipo_, if_pos (nlt hu), rd_at, List.length_map]
  refine h2.trans ?_
  rw [List.drop_zero, Nat.zero_add]
  unfold aft
  by_cases hc : ((st.countP (isIn (l.getD u 0)) : Nat) : Int) = 1
  ·
   have := s2 (by omega)
   rw [if_pos hc, ino_]
   exact g2
  ·
   rw [if_neg hc]
   exact g2
theorem ax_l0 (hfix : ∀ i, i < st.length → ∀ v ∈ LL (st.getD i zP).2, one1 v 1 1 st = some (st, false)) (hwk : ∀ k, 4000 ≤ k → jigsawlaw20_wakes.f k = some true) : ∀ (d i k : Nat), st.length = i + d → 4000 * d + 4100 < k → jigsawlaw20_GccFixed.l0 k (st.map dp) (st.map dp) (st.length : Int) (i : Int) = some true
 | 0, i, k + 1, e, hk => by
  rw [jigsawlaw20_GccFixed.l0, ino_, hwk k (by omega)]
  rfl
 | d + 1, i, k + 1, e, hk => by
  have hi : i < st.length := by omega
  have hmem : st.getD i zP ∈ st := getD_mem st zP hi
  obtain ⟨r1, r2⟩ := hF _ hmem
  have hlen := (len_all (st.getD i zP).2).1
  obtain ⟨k1, h1, h2⟩ := ax_l1 st hF hl i hi (LL (st.getD i zP).2) (by omega) (fun v h => h) (hfix i hi) (LL (st.getD i zP).2).length 0 k (by omega) (by
   have h5 : (2 * st.length + 3) * (LL (st.getD i zP).2).length ≤ 203 * 11 := Nat.mul_le_mul (by omega) (by omega)
   omega)
  have h5 : (2 * st.length + 3) * (LL (st.getD i zP).2).length ≤ 203 * 11 := Nat.mul_le_mul (by omega) (by omega)
  rw [jigsawlaw20_GccFixed.l0, if_pos (nlt hi), ipo_, if_pos (by rw [List.length_map]; exact nlt hi), rdD_at, dp_at st hi]
  rw [show dom_Dom_List.f k (dp (st.getD i zP)).f0 (dp (st.getD i zP)).f1 (dp (st.getD i zP)).f2 (dp (st.getD i zP)).f3 (dp (st.getD i zP)).f4 = some (LL (st.getD i zP).2) from list_dr r1 r2 (by omega), obs_]
  refine h2.trans ?_
  exact ax_l0 hfix hwk d (i + 1) k1 (by omega) (by omega)
end
theorem F_sub (v : Int) (p : Pd) : ∃ q : Int → Bool, LL (Fw v p).2 = (LL p.2).filter q := by
 unfold Fw
 by_cases c : hit v p = true
 ·
  rw [if_pos c]
  exact ⟨_, LL_wo (near_in (hit_iff.1 c).1)⟩
 ·
  rw [if_neg c]
  exact ⟨fun _ => true, (List.filter_eq_self.2 fun _ _ => rfl).symm⟩
theorem G_sub (v : Int) (p : Pd) : ∃ q : Int → Bool, LL (Go1 v p).2 = (LL p.2).filter q := by
 unfold Go1
 by_cases c : hit v p = true
 ·
  rw [if_pos c]
  exact ⟨_, LL_on (near_in (hit_iff.1 c).1)⟩
 ·
  rw [if_neg c]
  exact ⟨fun _ => true, (List.filter_eq_self.2 fun _ _ => rfl).symm⟩
theorem map_sub {f : Pd → Pd} (hf : ∀ p : Pd, ∃ q : Int → Bool, LL (f p).2 = (LL p.2).filter q) (st : List Pd) : ∀ i, i < st.length → ∃ q : Int → Bool, LL ((st.map f).getD i zP).2 = (LL (st.getD i zP).2).filter q := fun i hi => by
 rw [getD_map f st zP zP hi]
 exact hf _
theorem one1_sub {v lo' hi' : Int} {st st' : List Pd} {ch : Bool} (e : one1 v lo' hi' st = some (st', ch)) : ∀ i, i < st.length → ∃ q : Int → Bool, LL (st'.getD i zP).2 = (LL (st.getD i zP).2).filter q := by
 have h1 : ∀ i, i < st.length → ∃ q : Int → Bool, LL ((st1 v hi' st).getD i zP).2 = (LL (st.getD i zP).2).filter q := by
  intro i hi
  unfold st1
  split
  ·
   exact map_sub (F_sub v) st i hi
  ·
   exact ⟨fun _ => true, (List.filter_eq_self.2 fun _ _ => rfl).symm⟩
 unfold one1 at e
 split at e
 ·
  cases e
 ·
  split at e
  ·
   obtain ⟨rfl, _⟩ := Prod.mk.inj (Option.some.inj e)
   exact h1
  ·
   split at e
   ·
    obtain ⟨rfl, _⟩ := Prod.mk.inj (Option.some.inj e)
    intro i hi
    obtain ⟨q1, e1⟩ := h1 i hi
    obtain ⟨q2, e2⟩ := map_sub (G_sub v) (st1 v hi' st) i (by rw [st1_len]; exact hi)
    exact ⟨_, by rw [e2, e1, List.filter_filter]⟩
   ·
    cases e
theorem rnd_sub : ∀ (T : List (Int × Int × Int)) {st st' : List Pd} {ch ch' : Bool}, Fine st → rnd T st ch = some (st', ch') → ∀ i, i < st.length → ∃ q : Int → Bool, LL (st'.getD i zP).2 = (LL (st.getD i zP).2).filter q
 | [], st, st', ch, ch', _, e => by
  obtain ⟨rfl, _⟩ := Prod.mk.inj (Option.some.inj e)
  exact fun i _ => ⟨fun _ => true, (List.filter_eq_self.2 fun _ _ => rfl).symm⟩
 | t :: T, st, st', ch, ch', hg, e => by
  unfold rnd at e
  split at e
  ·
   cases e
  ·
   rename_i r hr
   intro i hi
   obtain ⟨g1, g2⟩ := one1_fine (st' := r.1) (ch := r.2) hg hr
   obtain ⟨q1, e1⟩ := one1_sub (st' := r.1) (ch := r.2) hr i hi
   obtain ⟨q2, e2⟩ := rnd_sub T g1 e i (by omega)
   exact ⟨_, by rw [e2, e1, List.filter_filter]⟩
theorem fil_sub (T : List (Int × Int × Int)) : ∀ (n : Nat) (st st' : List Pd), Fine st → fil T n st = some st' → ∀ i, i < st.length → ∀ v ∈ LL (st'.getD i zP).2, v ∈ LL (st.getD i zP).2
 | 0, st, st', _, e => by cases e
 | n + 1, st, st', hg, e => by
  unfold fil at e
  split at e
  ·
   cases e
  ·
   rename_i r hr
   have hr' : rnd T st false = some (r.1, r.2) := hr
   obtain ⟨f1, f2⟩ := rnd_fine T hg hr'
   have s := rnd_sub T hg hr'
   intro i hi v hv
   obtain ⟨q, eq⟩ := s i hi
   have key : v ∈ LL (r.1.getD i zP).2 := by
    split at e
    ·
     exact fil_sub T n _ _ f1 e i (by omega) v hv
    ·
     obtain rfl := Option.some.inj e
     exact hv
   rw [eq] at key
   exact (List.mem_filter.1 key).1
theorem wakes_true {k : Nat} (hk : 100 ≤ k) : jigsawlaw20_wakes.f k = some true :=
 up (f := fun k => jigsawlaw20_wakes.f k) jigsawlaw20_wakes.mono (by decide +kernel) hk
theorem wf8 {x : Int} (h : (Lit.int .u8 x).wf = true) : 0 ≤ x ∧ x ≤ 255 := by
 simp only [Lit.wf, IntKind.min, IntKind.max, IntKind.signed, IntKind.bits, Bool.and_eq_true] at h
 simp at h
 omega
def ones (a : List Int) : List Tr := a.map fun v => (v, 1, 1)
theorem cs_ones : ∀ a : List Int, Cs (ones a) = a
 | [] => rfl
 | x :: a => by show x :: Cs (ones a) = _; rw [cs_ones a]
theorem ds_ones : ∀ a : List Int, Ds (ones a) = rep a
 | [] => rfl
 | x :: a => by show 1 :: Ds (ones a) = _; rw [ds_ones a]; rfl
theorem es_ones : ∀ a : List Int, Es (ones a) = rep a
 | [] => rfl
 | x :: a => by show 1 :: Es (ones a) = _; rw [es_ones a]; rfl
theorem tw_ones {a : List Int} (h0 : a ≠ []) (hl : a.length ≤ 60) (hn : Near a) (hd : a.Nodup) : TW (ones a) := by
 refine ⟨fun h => h0 (List.map_eq_nil_iff.1 h), by unfold ones; rw [List.length_map]; exact hl, fun t ht => ?_, by rw [cs_ones]; exact hd⟩
 obtain ⟨v, hv, rfl⟩ := List.mem_map.1 ht
 have := hn v hv
 exact ⟨this.1, this.2, by show (0 : Int) ≤ 1; decide, by show (1 : Int) ≤ 1; decide, by show (1 : Int) ≤ 5; decide⟩
theorem gccAll (a0 : Int) (l1 l3 l4 : List Int) (a4 a5 : Int) (l6 : List (List Int)) (h0 : (Lit.int .u8 a0).wf = true) (hw1 : ∀ x ∈ l1, (Lit.int .u8 x).wf = true) (hw3 : ∀ x ∈ l3, (Lit.int .u8 x).wf = true) (hw4 : ∀ x ∈ l4, (Lit.int .i8 x).wf = true) (hk4 : (Lit.int .i16 a4).wf = true) (hk5 : (Lit.int .u8 a5).wf = true) :
  ∃ k, jigsawlaw20_GccAll.f k a0 l1 l3 l4 a4 a5 l6 = some true := by
 refine ⟨100000, ?_⟩
 obtain ⟨n, p, ms, n1, n4, hms, hs, hm⟩ := case17_f a0 a4 a5 l1 l3 l4 l6 (fun x hx => wf8 (hw1 x hx)) (k := 100000) (by decide)
 have hlen : (ms.map LL).length = n := by rw [List.length_map, hms]
 have at_ : ∀ i, i < (ms.map LL).length → (ms.map LL).getD i [] = LL (ms.getD i ⟨0, by decide⟩) := fun i hi => getD_map LL ms ⟨0, by decide⟩ [] (by rwa [List.length_map] at hi)
 obtain ⟨st, s1, s2, s3⟩ := lift_st ms hs
 have sl : st.length = n := by rw [← hms, ← s2, List.length_map]
 have at2 : ∀ i, i < n → (st.getD i zP).2 = ms.getD i ⟨0, by decide⟩ := fun i hi => by
  rw [← s2]; exact (getD_map Prod.snd st zP ⟨0, by decide⟩ (by omega)).symm
 unfold jigsawlaw20_GccAll.f
 rw [hm, obs_]
 show jigsawlaw20_GccAll.j0 (99999 + 1) (ms.map LL) (((ms.map LL).length : Nat) : Int) 0 21 0 = some true
 rw [jigsawlaw20_GccAll.j0, hlen]
 obtain ⟨k1, b1, b2⟩ := ga_l0 (ms.map LL) n n4 21 0 n 0 99999 (by omega) (by omega)
 refine (show _ = _ from b2).trans ?_
 obtain ⟨s', a', k2, c1, c2, c3, c4, c5⟩ := ga_l1 (ms.map LL) (by omega) (fun i hi => by rw [at_ i hi]; exact ⟨(len_all _).1, near_LL _⟩) 21 0 ((List.range n).map (fun i : Nat => (i : Int))) (ms.map LL).length 0 k1 [] [] (by omega) (by simp) ⟨List.nodup_nil, fun x => Iff.rfl, fun v hv => by simp at hv, Nat.le_refl _⟩ (by omega)
 refine (show _ = _ from c5).trans ?_
 obtain ⟨d1, d2, d3, d4⟩ := c1
 have dn : Near a' := fun v hv => d3 v ((d2 v).1 hv)
 have hmem : ∀ i, i < n → ∀ v ∈ LL (st.getD i zP).2, v ∈ a' := fun i hi v hv => by
  rw [d2, c3]
  refine .inr ⟨i, Nat.zero_le _, by omega, ?_⟩
  rw [at_ i (by omega), ← at2 i hi]
  exact hv
 have ha0 : a' ≠ [] := fun h => by
  have hne := (s1 (st.getD 0 zP) (getD_mem st zP (by omega))).2
  have hl := ne_all _ hne
  obtain ⟨v, hv⟩ := List.exists_mem_of_length_pos (l := LL (st.getD 0 zP).2) (by omega)
  have := hmem 0 (by omega) v hv
  rw [h] at this
  simp at this
 have hT := tw_ones ha0 (by omega) dn d1
 have hp : Places n ((List.range n).map (fun i : Nat => (i : Int))) := ⟨by simp, fun x hx => by
  obtain ⟨i, hi, rfl⟩ := List.mem_map.1 hx
  rw [List.mem_range] at hi
  omega⟩
 have hw := wt_le st
 have hf : gcc_Filter.f k2 21 ((List.range n).map (fun i : Nat => (i : Int))) [] a' (rep a') (rep a') 0 [] (ms.map D) = some (outP (fil (ones a') 100 st)) := by
  have h := prog_l0 21 ((List.range n).map (fun i : Nat => (i : Int))) [] 0 [] (ones a') (fun t ht => has_near ⟨(hT.2.2.1 t ht).1, (hT.2.2.1 t ht).2.1⟩) (by have := hT.2.1; omega) 100 st k2 s1 (by omega) (by omega) (by omega)
  have hfit := fits_f ((List.range n).map (fun i : Nat => (i : Int))) (st.map dp) n n1 n4 hp hT (by rw [List.length_map]; exact sl) (fun d hd => by
   obtain ⟨q, hq, rfl⟩ := List.mem_map.1 hd
   have := ne_all q.2 (s1 q hq).2
   show ((LL q.2).length : Int) ≠ 0
   omega) (k := k2) (by omega)
  rw [cs_ones, ds_ones, es_ones] at h hfit
  rw [← s3]
  unfold gcc_Filter.f slices_CloneDom.f
  rw [hfit, obs_, if_pos rfl, if_pos (by rw [List.length_map]; omega), obs_]
  exact h
 unfold finA
 rw [doms_f ms hs (by omega) (by omega), obs_, hf, obs_]
 cases ho : fil (ones a') 100 st with
 | none =>
  rw [if_neg (by unfold outP; decide), wakes_true (by omega), obs_]
 | some st' =>
  obtain ⟨f1, f2⟩ := fil_fine (ones a') 100 st st' s1 ho
  have hfx := rnd_each (ones a') (fil_fix (ones a') 100 st st' ho)
  have hsub := fil_sub (ones a') 100 st st' s1 ho
  have hq : jigsawlaw20_GccFixed.f k2 (st'.map dp) = some true := by
   unfold jigsawlaw20_GccFixed.f
   rw [List.length_map]
   refine ax_l0 st' f1 (by omega) (fun i hi v hv => ?_) (fun k hk => wakes_true (by omega)) st'.length 0 k2 (by omega) (by omega)
   have hv' : v ∈ a' := hmem i (by omega) v (hsub i (by omega) v hv)
   exact hfx (v, 1, 1) (List.mem_map.2 ⟨v, hv', rfl⟩)
  show (if (true : Bool) = true then (jigsawlaw20_GccFixed.f k2 (st'.map dp)).bind _ else _) = _
  rw [if_pos rfl, hq]
  rfl
end Go.Proofs.YtijjhobjmehhoaaGreatDoor.Pure
