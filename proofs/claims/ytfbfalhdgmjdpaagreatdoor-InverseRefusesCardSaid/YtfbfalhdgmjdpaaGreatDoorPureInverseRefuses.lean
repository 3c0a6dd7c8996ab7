/- The plain law of InverseRefuses: what the walk computes answers true, for every input. -/
import Derived.Test.YtfbfalhdgmjdpaaGreatDoorXIRex23
import Derived.Test.YtfbfalhdgmjdpaaGreatDoorKMa
import Derived.Test.YtfbfalhdgmjdpaaGreatDoorKMb
import Derived.Test.YtfbfalhdgmjdpaaGreatDoorKMc
namespace Go.Proofs.YtfbfalhdgmjdpaaGreatDoor.Pure
open Go.RowKit Go.Proofs.YtfbfalhdgmjdpaaGreatDoor.XInverseRefuses Go.Proofs.YtfbfalhdgmjdpaaGreatDoorW.PrintWords Go.Proofs.YtfbfalhdgmjdpaaGreatDoorW.PrintLast Go.Proofs.YtfbfalhdgmjdpaaGreatDoorW.PrintMore
set_option linter.unusedVariables false
theorem ind_ {c : Prop} [Decidable c] {α : Type} {a b : α} (h : ¬ c := by decide) : (if c then a else b) = b := if_neg h
theorem obs_ {α β : Type} (a : α) (f : α → Option β) : (some a).bind f = f a := rfl
theorem ino_ {c : Prop} [Decidable c] {α : Type} {a b : α} (h : ¬ c := by omega) : (if c then a else b) = b := if_neg h
theorem ipo_ {c : Prop} [Decidable c] {α : Type} {a b : α} (h : c := by omega) : (if c then a else b) = a := if_pos h
theorem wsu_ {j : Nat} (h : j ≤ 100000 := by omega) : wrap64 ((j : Int) + 1) = ((j + 1 : Nat) : Int) := wrap_succ h
def Near (x : List Int) : Prop := ∀ v ∈ x, -5 ≤ v ∧ v ≤ 5
theorem mem_vals {v : Int} : v ∈ vals ↔ -5 ≤ v ∧ v ≤ 5 := by
 unfold vals
 simp only [List.mem_cons, List.not_mem_nil, or_false]
 omega
theorem mem_L {m : Nat} {v : Int} : v ∈ L m ↔ (-5 ≤ v ∧ v ≤ 5) ∧ m.testBit (v + 5).toNat = true := by
 unfold L; rw [List.mem_filter, mem_vals]
theorem L_filter {m m' : Nat} {p : Int → Bool} (h : ∀ v, -5 ≤ v → v ≤ 5 → (v ∈ L m ↔ v ∈ L m' ∧ p v = true)) : L m = (L m').filter p := by
 unfold L
 rw [List.filter_filter]
 apply List.filter_congr
 intro v hv
 have hr := mem_vals.1 hv
 have h' := h v hr.1 hr.2
 rw [mem_L, mem_L] at h'
 rw [Bool.eq_iff_iff, Bool.and_eq_true]
 constructor
 ·
  intro h1
  have h2 := h'.1 ⟨hr, h1⟩
  exact ⟨h2.2, h2.1.2⟩
 ·
  exact fun h1 => (h'.2 ⟨⟨hr, h1.2⟩, h1.1⟩).2
def msk : List Int → Nat
 | [] => 0
 | v :: l => msk l ||| 1 <<< (v + 5).toNat
theorem msk_append (a b : List Int) : msk (a ++ b) = msk a ||| msk b := by
 induction a with
 | nil => simp [msk]
 | cons v a ih => rw [List.cons_append, msk, ih, msk, Nat.or_assoc, Nat.or_assoc, Nat.or_comm (msk b)]
theorem msk_bit (l : List Int) (i : Nat) : (msk l).testBit i = true ↔ ∃ v, v ∈ l ∧ (v + 5).toNat = i := by
 induction l with
 | nil => simp [msk]
 | cons v l ih =>
  rw [msk, Nat.testBit_or, Bool.or_eq_true, ih, Nat.one_shiftLeft, Nat.testBit_two_pow, decide_eq_true_iff]
  constructor
  ·
   rintro (⟨u, h1, h2⟩ | h)
   ·
    exact ⟨u, List.mem_cons_of_mem _ h1, h2⟩
   ·
    exact ⟨v, List.mem_cons_self, h⟩
  ·
   rintro ⟨u, h1, h2⟩
   rcases List.mem_cons.1 h1 with rfl | h1
   ·
    exact Or.inr h2
   ·
    exact Or.inl ⟨u, h1, h2⟩
theorem msk_lt {l : List Int} (h : Near l) : msk l < 2048 := by
 induction l with
 | nil => decide
 | cons v l ih =>
  have hv := h v List.mem_cons_self
  refine Nat.or_lt_two_pow (n := 11) (ih fun u hu => h u (List.mem_cons_of_mem _ hu)) ?_
  rw [Nat.one_shiftLeft]
  exact Nat.pow_lt_pow_right (by decide) (by omega)
theorem mem_msk {l : List Int} (h : Near l) {v : Int} : v ∈ L (msk l) ↔ v ∈ l := by
 rw [mem_L, msk_bit]
 constructor
 ·
  rintro ⟨hv, u, hu, e⟩
  have := h u hu
  have : u = v := by omega
  rwa [← this]
 ·
  exact fun hv => ⟨h v hv, v, hv, rfl⟩
def mk (l : List Int) : Fin 2048 := ⟨msk l % 2048, Nat.mod_lt _ (by decide)⟩
theorem mk_val {l : List Int} (h : Near l) : (mk l).val = msk l := Nat.mod_eq_of_lt (msk_lt h)
theorem mem_mk {l : List Int} (h : Near l) {v : Int} : v ∈ LL (mk l) ↔ v ∈ l := by
 unfold LL; rw [mk_val h]; exact mem_msk h
theorem mk_ne {l : List Int} (h : Near l) (h0 : l ≠ []) : (mk l).val ≠ 0 := by
 intro h1
 obtain ⟨v, hv⟩ := List.exists_mem_of_ne_nil l h0
 have h2 := (mem_mk h).2 hv
 have : LL (mk l) = [] := by unfold LL; rw [h1]; decide +kernel
 rw [this] at h2; cases h2
theorem mask_ext {m m' : Fin 2048} (h : ∀ v, v ∈ LL m ↔ v ∈ LL m') : m = m' := by
 apply Fin.ext
 apply Nat.eq_of_testBit_eq
 intro i
 by_cases hi : i < 11
 ·
  have h1 := h ((i : Int) - 5)
  unfold LL at h1
  rw [mem_L, mem_L, show ((i : Int) - 5 + 5).toNat = i by omega] at h1
  have hr : -5 ≤ (i : Int) - 5 ∧ (i : Int) - 5 ≤ 5 := by omega
  rw [Bool.eq_iff_iff]
  exact ⟨fun h2 => (h1.1 ⟨hr, h2⟩).2, fun h2 => (h1.2 ⟨hr, h2⟩).2⟩
 ·
  have h2 : 2 ^ 11 ≤ 2 ^ i := Nat.pow_le_pow_right (by decide) (by omega)
  rw [Nat.testBit_lt_two_pow (Nat.lt_of_lt_of_le m.isLt h2), Nat.testBit_lt_two_pow (Nat.lt_of_lt_of_le m'.isLt h2)]
theorem near_LL (m : Fin 2048) : Near (LL m) := (len_all m).2
theorem mk_LL (m : Fin 2048) : mk (LL m) = m := mask_ext fun _ => mem_mk (near_LL m)
theorem fold_mn : ∀ (l : List Int) (z : Int), (l.foldl mn z ≤ z) ∧ (∀ v ∈ l, l.foldl mn z ≤ v) ∧ (l.foldl mn z = z ∨ l.foldl mn z ∈ l)
 | [], z => ⟨Int.le_refl _, fun v hv => absurd hv List.not_mem_nil, Or.inl rfl⟩
 | a :: l, z => by
  obtain ⟨h1, h2, h3⟩ := fold_mn l (mn z a)
  have hz : mn z a ≤ z ∧ mn z a ≤ a ∧ (mn z a = z ∨ mn z a = a) := by unfold mn; split <;> omega
  rw [List.foldl_cons]
  refine ⟨by omega, fun v hv => ?_, ?_⟩
  ·
   rcases List.mem_cons.1 hv with rfl | hv
   ·
    omega
   ·
    exact h2 v hv
  ·
   rcases h3 with h3 | h3
   ·
    rw [h3]
    rcases hz.2.2 with h | h
    ·
     exact Or.inl h
    ·
     exact Or.inr (by rw [h]; exact List.mem_cons_self)
   ·
    exact Or.inr (List.mem_cons_of_mem _ h3)
theorem fold_mx : ∀ (l : List Int) (z : Int), (z ≤ l.foldl mx z) ∧ (∀ v ∈ l, v ≤ l.foldl mx z) ∧ (l.foldl mx z = z ∨ l.foldl mx z ∈ l)
 | [], z => ⟨Int.le_refl _, fun v hv => absurd hv List.not_mem_nil, Or.inl rfl⟩
 | a :: l, z => by
  obtain ⟨h1, h2, h3⟩ := fold_mx l (mx z a)
  have hz : z ≤ mx z a ∧ a ≤ mx z a ∧ (mx z a = z ∨ mx z a = a) := by unfold mx; split <;> omega
  rw [List.foldl_cons]
  refine ⟨by omega, fun v hv => ?_, ?_⟩
  ·
   rcases List.mem_cons.1 hv with rfl | hv
   ·
    omega
   ·
    exact h2 v hv
  ·
   rcases h3 with h3 | h3
   ·
    rw [h3]
    rcases hz.2.2 with h | h
    ·
     exact Or.inl h
    ·
     exact Or.inr (by rw [h]; exact List.mem_cons_self)
   ·
    exact Or.inr (List.mem_cons_of_mem _ h3)
theorem rd_at (l : List Int) (j : Nat) : rd l (j : Int) = l.getD j 0 := rfl
theorem rdL_at (l : List (List Int)) (j : Nat) : rd_L7 l (j : Int) = l.getD j [] := rfl
theorem rdD_at (l : List S58) (j : Nat) : rd_T58 l (j : Int) = l.getD j z58 := rfl
theorem getD_lt {α : Type} (l : List α) (z : α) {j : Nat} (h : j < l.length) : l.getD j z = l[j] := by
 rw [List.getD_eq_getElem?_getD, List.getElem?_eq_getElem h]; rfl
theorem getD_mem {α : Type} (l : List α) (z : α) {j : Nat} (h : j < l.length) : l.getD j z ∈ l := by
 rw [getD_lt _ _ h]; exact List.getElem_mem _
theorem getD_map {α β : Type} (f : α → β) (l : List α) (z : α) (y : β) {j : Nat} (h : j < l.length) : (l.map f).getD j y = f (l.getD j z) := by
 rw [getD_lt _ _ (by simpa using h), getD_lt _ _ h]; simp
theorem take_step {α : Type} (l : List α) (z : α) {j : Nat} (h : j < l.length) : l.take j ++ [l.getD j z] = l.take (j + 1) := by
 rw [getD_lt _ _ h]; simp
theorem nlt {a b : Nat} (h : a < b) : (a : Int) < (b : Int) := by omega
theorem nge {a b : Nat} (h : ¬ a < b) : ¬ (a : Int) < (b : Int) := by omega
theorem has_one (m : Fin 2048) {v : Int} (hv : -5 ≤ v ∧ v ≤ 5) : dom_Dom_Has.f (D m).f0 (D m).f1 (D m).f2 (D m).f3 (D m).f4 v = some (decide (v ∈ LL m)) := by
 have h := has_all m ⟨(v + 5).toNat, by omega⟩
 simp only [] at h
 rwa [show (((v + 5).toNat : Nat) : Int) - 5 = v by omega] at h
theorem list_one (m : Fin 2048) {k : Nat} (hk : 40 ≤ k) : dom_Dom_List.f k (D m).f0 (D m).f1 (D m).f2 (D m).f3 (D m).f4 = some (LL m) :=
 up (f := fun k => dom_Dom_List.f k _ _ _ _ _) (dom_Dom_List.mono _ _ _ _ _) (list_all m) hk
theorem place_one {v : Int} (hv : -5 ≤ v ∧ v ≤ 5) : dom_place.f v = some (if v < 0 then -64 else 0) := by
 have h := place_all ⟨(v + 5).toNat, by omega⟩
 simp only [] at h
 rwa [show (((v + 5).toNat : Nat) : Int) - 5 = v by omega] at h
def wd (neg pos : Bool) (m : Nat) : List Int := (if neg then [((m % 32 * 576460752303423488 : Nat) : Int)] else []) ++ (if pos then [((m / 32 : Nat) : Int)] else [])
def off (neg : Bool) : Int := if neg then -64 else 0
theorem put_one (neg pos : Bool) (m : Fin 2048) {v : Int} (hv : -5 ≤ v ∧ v ≤ 5) (hn : v < 0 → neg = true) (hp : 0 ≤ v → pos = true) :
  ∃ i : Nat, wrap64 (Int.tdiv (wrap64 (v - off neg)) 64) = (i : Int) ∧ i < (wd neg pos m.val).length ∧ 0 ≤ Int.tmod (wrap64 (v - off neg)) 64 ∧ (wd neg pos m.val).set i (Go.bits .or .u64 (rd (wd neg pos m.val) (i : Int)) (shl .u64 1 (Int.tmod (wrap64 (v - off neg)) 64))) = wd neg pos (m.val ||| 1 <<< (v + 5).toNat) := by
 have hs := split_all m ⟨(v + 5).toNat, by omega⟩
 simp only [] at hs
 by_cases h : v < 0
 ·
  obtain rfl := hn h
  have hl := put_lo ⟨m.val % 32, Nat.mod_lt _ (by decide)⟩ ⟨(v + 5).toNat, by omega⟩
  simp only [] at hl
  rw [ipo_, ipo_, Nat.or_zero] at hs
  rw [show (((v + 5).toNat : Nat) : Int) - 5 = v by omega] at hl
  have e1 : wrap64 (v - off true) = v + 64 := by rw [show off true = -64 from rfl, wrap_id (by omega) (by omega)]; omega
  have e2 : Int.tdiv (v + 64) 64 = 0 := Int.tdiv_eq_zero_of_lt (by omega) (by omega)
  refine ⟨0, by rw [e1, e2]; decide +kernel, by simp [wd], by rw [e1]; exact Int.tmod_nonneg _ (by omega), ?_⟩
  show List.set (((m.val % 32 * 576460752303423488 : Nat) : Int) :: _) 0 (Go.bits .or .u64 ((m.val % 32 * 576460752303423488 : Nat) : Int) (shl .u64 1 (Int.tmod (wrap64 (v - (-64))) 64))) = _
  rw [List.set_cons_zero, hl]
  unfold wd
  rw [hs.1, hs.2]; rfl
 ·
  obtain rfl := hp (by omega)
  rw [ino_, ino_, Nat.or_zero] at hs
  have hh := put_hi ⟨m.val / 32, by have := m.isLt; omega⟩ ⟨v.toNat, by omega⟩
  simp only [] at hh
  rw [show ((v.toNat : Nat) : Int) = v by omega] at hh
  have e0 : (v + 5).toNat - 5 = v.toNat := by omega
  cases neg with
  | true =>
   have e1 : wrap64 (v - off true) = v + 64 := by rw [show off true = -64 from rfl, wrap_id (by omega) (by omega)]; omega
   have e2 : Int.tdiv (v + 64) 64 = 1 := by rw [Int.tdiv_eq_ediv_of_nonneg (by omega)]; omega
   refine ⟨1, by rw [e1, e2]; decide +kernel, by simp [wd], by rw [e1]; exact Int.tmod_nonneg _ (by omega), ?_⟩
   show List.set [((m.val % 32 * 576460752303423488 : Nat) : Int), ((m.val / 32 : Nat) : Int)] 1 (Go.bits .or .u64 ((m.val / 32 : Nat) : Int) (shl .u64 1 (Int.tmod (wrap64 (v - (-64))) 64))) = _
   rw [hh.2]
   unfold wd
   rw [hs.1, hs.2, e0]; rfl
  | false =>
   have e1 : wrap64 (v - off false) = v := by rw [show off false = 0 from rfl, wrap_id (by omega) (by omega)]; omega
   have e2 : Int.tdiv v 64 = 0 := Int.tdiv_eq_zero_of_lt (by omega) (by omega)
   refine ⟨0, by rw [e1, e2]; decide +kernel, by simp [wd], by rw [e1]; exact Int.tmod_nonneg _ (by omega), ?_⟩
   show List.set [((m.val / 32 : Nat) : Int)] 0 (Go.bits .or .u64 ((m.val / 32 : Nat) : Int) (shl .u64 1 (Int.tmod (wrap64 (v - 0)) 64))) = _
   rw [hh.1]
   unfold wd
   rw [hs.1, hs.2, e0]; rfl
theorem wd_D (neg pos : Bool) (m : Fin 2048) (hm : m.val ≠ 0) (hn : neg = true ↔ ¬ (∀ v ∈ LL m, 0 ≤ v)) (hp : pos = true ↔ ¬ (∀ v ∈ LL m, v < 0)) : off neg = (D m).f0 ∧ wd neg pos m.val = (D m).f1 := by
 obtain ⟨h1, h2⟩ := low_all m
 rw [← h1] at hn
 rw [← h2] at hp
 unfold D DM
 cases neg with
 | false =>
  have e : m.val % 32 = 0 := Classical.byContradiction fun h => absurd (hn.2 h) (by decide)
  have ep : pos = true := hp.2 (by omega)
  rw [if_pos e, ep]; exact ⟨rfl, rfl⟩
 | true =>
  rw [if_neg (hn.1 rfl)]
  cases pos with
  | false =>
   have e : m.val / 32 = 0 := Classical.byContradiction fun h => absurd (hp.2 h) (by decide)
   rw [if_pos e]; exact ⟨rfl, rfl⟩
  | true => rw [if_neg (hp.1 rfl)]; exact ⟨rfl, rfl⟩
theorem of_l0 (neg pos : Bool) (l : List Int) (hl : l.length ≤ 2000) (hr : Near l) (hn : ∀ v ∈ l, v < 0 → neg = true) (hp : ∀ v ∈ l, 0 ≤ v → pos = true) : ∀ (m j k : Nat), l.length = j + m → m + 20 < k →
  dom_Of.l0 k l (l.length : Int) (j : Int) (off neg) (wd neg pos (msk (l.take j))) 0 0 0 = (dom_made.f (k - m - 1) (off neg) (wd neg pos (msk l))).bind fun bt => some (bt.1, bt.2.1, bt.2.2.1, bt.2.2.2.1, bt.2.2.2.2, 0)
 | 0, j, k + 1, e, hk => by
  rw [dom_Of.l0, ino_, List.take_of_length_le (by omega)]
  rfl
 | m + 1, j, k + 1, e, hk => by
  have hj : j < l.length := by omega
  have hv := getD_mem l 0 hj
  have hnt : Near (l.take j) := fun u hu => hr u (List.mem_of_mem_take hu)
  obtain ⟨i, e1, e2, e3, e4⟩ := put_one neg pos ⟨msk (l.take j), msk_lt hnt⟩ (hr _ hv) (hn _ hv) (hp _ hv)
  simp only [] at e2 e4
  have e5 : msk (l.take (j + 1)) = msk (l.take j) ||| 1 <<< (l.getD j 0 + 5).toNat := by
   rw [← take_step l 0 hj, msk_append, msk, msk, Nat.zero_or]
  rw [dom_Of.l0, if_pos (nlt hj), ipo_, if_pos (nlt hj), rd_at, e1, ipo_, if_pos (nlt e2), if_pos e3, Int.toNat_natCast, e4, ← e5, wsu_, of_l0 neg pos l hl hr hn hp m (j + 1) k (by omega) (by omega)]
  rw [show k + 1 - (m + 1) - 1 = k - m - 1 by omega]
theorem idx_of (l : List Int) (hl : l.length ≤ 2000) (hr : Near l) : ∀ (m j k : Nat), l.length = j + m → m < k → slices_IndexFunc_int_int_84_at_dom_Of_1.l0 k l (l.length : Int) (j : Int) = some (-1)
 | 0, j, k + 1, e, _ => by rw [slices_IndexFunc_int_int_84_at_dom_Of_1.l0, ino_]
 | m + 1, j, k + 1, e, hk => by
  have hj : j < l.length := by omega
  have hv := hr _ (getD_mem l 0 hj)
  have hf : dom_Of_1.f (l.getD j 0) = some false := by
   unfold dom_Of_1.f dom_in.f
   rw [ipo_, obs_, decide_eq_true (by omega)]; rfl
  rw [slices_IndexFunc_int_int_84_at_dom_Of_1.l0, if_pos (nlt hj), ipo_, if_pos (nlt hj), rd_at, hf, obs_, ind_, wsu_]
  exact idx_of l hl hr m (j + 1) k (by omega) (by omega)
theorem room_f {a b : Int} (ha : -5 ≤ a ∧ a ≤ 5) (hb : -5 ≤ b ∧ b ≤ 5) (hab : a ≤ b) : dom_room.f a b = some (off (decide (a < 0)), wd (decide (a < 0)) (decide (0 ≤ b)) 0, 0, 0, 0) := by
 unfold dom_room.f
 rw [place_one ha, obs_, place_one hb, obs_, obs_]
 by_cases h1 : a < 0
 ·
  rw [if_pos h1, decide_eq_true h1]
  by_cases h2 : b < 0
  ·
   rw [if_pos h2, decide_eq_false (by omega)]; decide +kernel
  ·
   rw [if_neg h2, decide_eq_true (by omega)]; decide +kernel
 ·
  rw [if_neg h1, if_neg (show ¬ b < 0 by omega), decide_eq_false h1, decide_eq_true (by omega)]; decide +kernel
theorem of_list (l : List Int) (h0 : l ≠ []) (hl : l.length ≤ 2000) (hr : Near l) {k : Nat} (hk : l.length + 20 < k) : dom_Of.f k l = some ((D (mk l)).f0, (D (mk l)).f1, (D (mk l)).f2, (D (mk l)).f3, (D (mk l)).f4, 0) := by
 have hp : 0 < l.length := List.length_pos_iff.2 h0
 have h00 := getD_mem l 0 hp
 obtain ⟨a1, a2, a3⟩ := fold_mn l (rd l 0)
 obtain ⟨b1, b2, b3⟩ := fold_mx l (rd l 0)
 have ham : l.foldl mn (rd l 0) ∈ l := by
  rcases a3 with h | h
  ·
   rw [h]; exact h00
  ·
   exact h
 have hbm : l.foldl mx (rd l 0) ∈ l := by
  rcases b3 with h | h
  ·
   rw [h]; exact h00
  ·
   exact h
 have hra := hr _ ham
 have hrb := hr _ hbm
 have emin : slices_Min_int.f l = some (l.foldl mn (rd l 0)) := by unfold slices_Min_int.f; rw [if_neg h0]
 have emax : slices_Max_int.f l = some (l.foldl mx (rd l 0)) := by unfold slices_Max_int.f; rw [if_neg h0]
 have hidx : slices_IndexFunc_int_int_84_at_dom_Of_1.l0 k l (l.length : Int) 0 = some (-1) := idx_of l hl hr l.length 0 k (by omega) (by omega)
 generalize l.foldl mn (rd l 0) = a at *
 generalize l.foldl mx (rd l 0) = b at *
 have hw : wrap64 (b - a) = b - a := wrap_id (by omega) (by omega)
 have hc : slices_ContainsFunc_int_int_60_at_dom_Of_1.f k l = some false := by
  unfold slices_ContainsFunc_int_int_60_at_dom_Of_1.f slices_IndexFunc_int_int_84_at_dom_Of_1.f
  rw [hidx, obs_]; rfl
 unfold dom_Of.f
 rw [ino_, hc, obs_, ind_, emax, obs_, emin, obs_, hw, ino_, obs_, obs_, room_f hra hrb (by omega), obs_]
 have hcall := of_l0 (decide (a < 0)) (decide (0 ≤ b)) l hl hr (fun v hv h => decide_eq_true (by have := a2 v hv; omega)) (fun v hv h => decide_eq_true (by have := b2 v hv; omega)) l.length 0 k (by omega) (by omega)
 have hcall' : dom_Of.l0 k l (l.length : Int) 0 (off (decide (a < 0))) (wd (decide (a < 0)) (decide (0 ≤ b)) 0) 0 0 0 = _ := hcall
 rw [hcall']
 have hne := mk_ne hr h0
 obtain ⟨w1, w2⟩ := wd_D (decide (a < 0)) (decide (0 ≤ b)) (mk l) hne (by
   rw [decide_eq_true_iff]
   constructor
   ·
    exact fun h h' => by have := h' a ((mem_mk hr).2 ham); omega
   ·
    exact fun h => Classical.byContradiction fun h' => h fun v hv => by have := a2 v ((mem_mk hr).1 hv); omega) (by
   rw [decide_eq_true_iff]
   constructor
   ·
    exact fun h h' => by have := h' b ((mem_mk hr).2 hbm); omega
   ·
    exact fun h => Classical.byContradiction fun h' => h fun v hv => by have := b2 v ((mem_mk hr).1 hv); omega)
 rw [mk_val hr] at w2
 rw [w1, w2]
 have hm := up (f := fun k => dom_made.f k (D (mk l)).f0 (D (mk l)).f1) (dom_made.mono _ _) (made_all _ hne) (show 10 ≤ k - l.length - 1 by omega)
 rw [hm, obs_]
theorem of_one {m : Fin 2048} (hm : m.val ≠ 0) {k : Nat} (hk : 40 ≤ k) : dom_Of.f k (LL m) = some ((D m).f0, (D m).f1, (D m).f2, (D m).f3, (D m).f4, 0) := by
 have h := of_list (LL m) (fun h => ne_all m hm (by rw [h]; rfl)) (by have := (len_all m).1; omega) (near_LL m) (k := k) (by have := (len_all m).1; omega)
 rwa [mk_LL] at h
theorem rhas_l0 (l : List Int) (v : Int) (hl : l.length ≤ 100) : ∀ (m j k : Nat), l.length = j + m → m < k → jigsawref02_Has.l0 k l v (j : Int) = some (decide (v ∈ l.drop j))
 | 0, j, k + 1, e, _ => by
  rw [jigsawref02_Has.l0, ino_, List.drop_eq_nil_of_le (by omega)]; rfl
 | m + 1, j, k + 1, e, hk => by
  have hj : j < l.length := by omega
  have hd : l.drop j = l[j] :: l.drop (j + 1) := List.drop_eq_getElem_cons hj
  rw [jigsawref02_Has.l0, if_pos (nlt hj), ipo_, rd_at, getD_lt _ _ hj]
  by_cases h : l[j] = v
  ·
   rw [if_pos h, hd]; congr 1; symm; exact decide_eq_true (by rw [h]; exact List.mem_cons_self)
  ·
   rw [if_neg h, wsu_, rhas_l0 l v hl m (j + 1) k (by omega) (by omega), hd]
   congr 1
   rw [decide_eq_decide]
   constructor
   ·
    exact fun h' => List.mem_cons_of_mem _ h'
   ·
    intro h'
    rcases List.mem_cons.1 h' with h2 | h2
    ·
     exact absurd h2.symm h
    ·
     exact h2
theorem rhas_f (l : List Int) (v : Int) (hl : l.length ≤ 100) {k : Nat} (hk : 200 ≤ k) : jigsawref02_Has.f k l v = some (decide (v ∈ l)) := by
 have h := rhas_l0 l v hl l.length 0 k (by omega) (by omega)
 exact h
def insR : Bool → Int → List Int → List Int
 | true, _, r => r
 | false, v, r => ins v r
theorem of_l2 (x : List Int) (hx : x.length ≤ 100) (i : Nat) (hi : i < x.length) (l : List Int) (hl : l.length ≤ 100) : ∀ (m j k : Nat) (acc : List Int) (done : Bool), l.length = j + m → acc.length ≤ 2 * j → m < k →
  ∃ k', k' + m + 1 = k ∧ jigsawref02_Of.l2 k x l (i : Int) acc done (j : Int) = jigsawref02_Of.l1 k' x (acc ++ insR done (x.getD i 0) (l.drop j)) (((i + 1 : Nat)) : Int)
 | 0, j, k + 1, acc, done, e, ha, hk => by
  refine ⟨k, rfl, ?_⟩
  rw [jigsawref02_Of.l2, ino_, List.drop_eq_nil_of_le (by omega)]
  cases done with
  | true => rw [if_pos rfl, wsu_]; simp [insR]
  | false => rw [ind_, ipo_, if_pos (nlt hi), ipo_, wsu_, rd_at]; rfl
 | m + 1, j, k + 1, acc, done, e, ha, hk => by
  have hj : j < l.length := by omega
  have hd : l.drop j = l.getD j 0 :: l.drop (j + 1) := by rw [getD_lt _ _ hj]; exact List.drop_eq_getElem_cons hj
  rw [jigsawref02_Of.l2, if_pos (nlt hj), ipo_, ipo_, if_pos (nlt hi), rd_at, rd_at, wsu_, hd]
  by_cases h : l.getD j 0 > x.getD i 0
  ·
   rw [if_pos h]
   cases done with
   | true =>
    rw [if_pos rfl, ipo_]
    obtain ⟨k', hk', h'⟩ := of_l2 x hx i hi l hl m (j + 1) k (acc ++ [l.getD j 0]) true (by omega) (by simp; omega) (by omega)
    refine ⟨k', by omega, ?_⟩
    rw [h']; simp [insR]
   | false =>
    rw [ind_, ipo_, obs_, if_pos (by simp; omega)]
    obtain ⟨k', hk', h'⟩ := of_l2 x hx i hi l hl m (j + 1) k ((acc ++ [x.getD i 0]) ++ [l.getD j 0]) true (by omega) (by simp; omega) (by omega)
    refine ⟨k', by omega, ?_⟩
    have e1 : insR false (x.getD i 0) (l.getD j 0 :: l.drop (j + 1)) = x.getD i 0 :: l.getD j 0 :: l.drop (j + 1) := by show ins _ _ = _; rw [ins, if_pos h]
    rw [h', e1]; simp [insR]
  ·
   rw [if_neg h, ipo_]
   obtain ⟨k', hk', h'⟩ := of_l2 x hx i hi l hl m (j + 1) k (acc ++ [l.getD j 0]) done (by omega) (by simp; omega) (by omega)
   refine ⟨k', by omega, ?_⟩
   rw [h']
   cases done with
   | true => simp [insR]
   | false =>
    have e1 : insR false (x.getD i 0) (l.getD j 0 :: l.drop (j + 1)) = l.getD j 0 :: ins (x.getD i 0) (l.drop (j + 1)) := by show ins _ _ = _; rw [ins, if_neg h]
    rw [e1]; simp [insR]
theorem of_l1 (x : List Int) (hx : x.length ≤ 6) (hn : Near x) : ∀ (m j k : Nat) (b : Fin 2048), x.length = j + m → 300 * m + 300 < k → (0 < j → b.val ≠ 0) →
  ∃ c : Fin 2048, (0 < x.length → c.val ≠ 0) ∧ jigsawref02_Of.l1 k x (LL b) (j : Int) = some (LL c, 0)
 | 0, j, k + 1, b, e, hk, hb => by
  refine ⟨b, fun h => hb (by omega), ?_⟩
  rw [jigsawref02_Of.l1, ino_]
 | m + 1, j, k + 1, b, e, hk, hb => by
  have hj : j < x.length := by omega
  have hv := hn (x.getD j 0) (by rw [getD_lt _ _ hj]; exact List.getElem_mem _)
  have hl := (len_all b).1
  rw [jigsawref02_Of.l1, if_pos (nlt hj), ipo_, rd_at, rhas_f (LL b) _ (by omega) (by omega), obs_]
  by_cases h : x.getD j 0 ∈ LL b
  ·
   rw [if_pos (decide_eq_true h), wsu_]
   refine of_l1 x hx hn m (j + 1) k b (by omega) (by omega) (fun _ h0 => ?_)
   have : LL b = [] := by unfold LL; rw [h0]; decide +kernel
   rw [this] at h; cases h
  ·
   rw [if_neg (by simpa using h)]
   obtain ⟨k', hk', h'⟩ := of_l2 x (by omega) j hj (LL b) (by omega) (LL b).length 0 k [] false (by omega) (by simp) (by omega)
   have e0 : jigsawref02_Of.l2 k x (LL b) (j : Int) [] false 0 = _ := h'
   rw [e0]
   have hins := ins_all b ⟨(x.getD j 0 + 5).toNat, by omega⟩
   simp only [] at hins
   rw [show (((x.getD j 0 + 5).toNat : Nat) : Int) - 5 = x.getD j 0 by omega] at hins
   obtain ⟨h1, h2⟩ := hins h
   rw [List.nil_append, List.drop_zero, insR, h1]
   exact of_l1 x hx hn m (j + 1) k' _ (by omega) (by omega) (fun _ => h2)
theorem rof_l0 (x : List Int) (hx : x.length ≤ 6) (hn : Near x) : ∀ (m j k : Nat) (lo hi : Int), x.length = j + m → m + 3000 < k → -5 ≤ lo → lo ≤ 5 → -5 ≤ hi → hi ≤ 5 →
  ∃ c : Fin 2048, (0 < x.length → c.val ≠ 0) ∧ jigsawref02_Of.l0 k x lo hi (j : Int) = some (LL c, 0)
 | 0, j, k + 1, lo, hi, e, hk, h1, h2, h3, h4 => by
  have ew : wrap64 (hi - lo) = hi - lo := wrap_id (by omega) (by omega)
  rw [jigsawref02_Of.l0, ino_, ew, ino_]
  have h0 : LL 0 = [] := by decide +kernel
  have h := of_l1 x hx hn x.length 0 k 0 (by omega) (by omega) (fun h => absurd h (by decide))
  rw [h0] at h
  exact h
 | m + 1, j, k + 1, lo, hi, e, hk, h1, h2, h3, h4 => by
  have hj : j < x.length := by omega
  have hv := hn (x.getD j 0) (by rw [getD_lt _ _ hj]; exact List.getElem_mem _)
  rw [jigsawref02_Of.l0, if_pos (nlt hj), ipo_, rd_at, ino_, ino_, wsu_]
  split <;> split <;> exact rof_l0 x hx hn m (j + 1) k _ _ (by omega) (by omega) (by omega) (by omega) (by omega) (by omega)
theorem rof_f (x : List Int) (hx : x.length ≤ 6) (h0 : 0 < x.length) (hn : Near x) {k : Nat} (hk : 4000 ≤ k) : ∃ c : Fin 2048, c.val ≠ 0 ∧ jigsawref02_Of.f k x = some (LL c, 0) := by
 have hv := hn (x.getD 0 0) (by rw [getD_lt _ _ h0]; exact List.getElem_mem _)
 obtain ⟨c, h1, h2⟩ := rof_l0 x hx hn x.length 0 k (x.getD 0 0) (x.getD 0 0) (by omega) (by omega) hv.1 hv.2 hv.1 hv.2
 refine ⟨c, h1 h0, ?_⟩
 unfold jigsawref02_Of.f
 rw [ino_, ipo_]
 exact h2
theorem mod_near (v : Int) : -5 ≤ Int.tmod v 6 ∧ Int.tmod v 6 ≤ 5 := by
 have h1 := Int.tmod_lt_of_pos v (show (0 : Int) < 6 by decide)
 have h2 := Int.lt_tmod_of_pos v (show (0 : Int) < 6 by decide)
 omega
theorem small_l0 (l : List Int) (h0 : 0 < l.length) : ∀ (m j k : Nat) (acc : List Int), 6 = j + m → j ≤ l.length → m + 4100 < k → acc.length = j → Near acc →
  ∃ c : Fin 2048, c.val ≠ 0 ∧ jigsawref02_Small.l0 k l 6 6 acc (j : Int) = some (LL c)
 | m, j, k + 1, acc, e, hjl, hk, ha, hn => by
  have fin : ∀ (hx : 0 < acc.length), ∃ c : Fin 2048, c.val ≠ 0 ∧ ((jigsawref02_Of.f k acc).bind fun bt => some bt.1) = some (LL c) := by
   intro hx
   obtain ⟨c, h1, h2⟩ := rof_f acc (by omega) hx hn (k := k) (by omega)
   exact ⟨c, h1, by rw [h2, obs_]⟩
  rw [jigsawref02_Small.l0]
  by_cases hj : j < l.length
  ·
   rw [if_pos (nlt hj)]
   by_cases h6 : j < 6
   ·
    obtain ⟨m, rfl⟩ : ∃ m', m = m' + 1 := ⟨m - 1, by omega⟩
    rw [ipo_, ipo_, ind_, ipo_, wsu_]
    refine small_l0 l h0 m (j + 1) k _ (by omega) (by omega) (by omega) (by simp [ha]) (fun v hv => ?_)
    rcases List.mem_append.1 hv with h | h
    ·
     exact hn v h
    ·
     rw [List.mem_singleton] at h; rw [h]; exact mod_near _
   ·
    rw [ino_]
    exact fin (by omega)
  ·
   rw [if_neg (nge hj)]
   exact fin (by omega)
theorem small_f (l : List Int) (h0 : 0 < l.length) {k : Nat} (hk : 4200 ≤ k) : ∃ c : Fin 2048, c.val ≠ 0 ∧ jigsawref02_Small.f k l 6 6 = some (LL c) :=
 small_l0 l h0 6 0 k [] rfl (by omega) (by omega) rfl (fun v hv => by simp at hv)
def Places (n : Nat) (r : List Int) : Prop := r.length = n ∧ ∀ x ∈ r, 0 ≤ x ∧ x ≤ 4
theorem places_l0 (l : List Int) (hl : ∀ x ∈ l, 0 ≤ x ∧ x ≤ 255) (n : Nat) (hn : n ≤ 4) : ∀ (m j k : Nat) (acc : List Int), n = j + m → m < k → Places j acc → ∃ r, jigsawref06_places.l0 k l (n : Int) 5 acc (j : Int) = some r ∧ Places n r
 | 0, j, k + 1, acc, e, _, ha => by
  obtain rfl : n = j := by omega
  refine ⟨acc, ?_, ha⟩
  rw [jigsawref06_places.l0, ino_]
 | m + 1, j, k + 1, acc, e, hk, ha => by
  have hj : j < n := by omega
  obtain ⟨h1, h2⟩ := ha
  have hlen : acc.length < 17592186044416 := by omega
  by_cases hx : j < l.length
  ·
   have hm := hl (l.getD j 0) (by rw [getD_lt _ _ hx]; exact List.getElem_mem _)
   obtain ⟨r, hr, hp⟩ := places_l0 l hl n hn m (j + 1) k (acc ++ [Int.tmod (wrap64 (rd l (j : Int))) 5]) (by omega) (by omega) ⟨by simp [h1], fun x hx => by
    rcases List.mem_append.1 hx with h | h
    ·
     exact h2 x h
    ·
     rw [List.mem_singleton] at h
     rw [h, rd_at, wrap_id (by omega) (by omega), Int.tmod_eq_emod_of_nonneg (by omega)]
     omega⟩
   refine ⟨r, ?_, hp⟩
   rw [jigsawref06_places.l0, if_pos (nlt hj), if_pos (nlt hx), ipo_, ind_, if_pos hlen, wsu_]
   exact hr
  ·
   obtain ⟨r, hr, hp⟩ := places_l0 l hl n hn m (j + 1) k (acc ++ [Int.tmod (j : Int) 5]) (by omega) (by omega) ⟨by simp [h1], fun x hx => by
    rcases List.mem_append.1 hx with h | h
    ·
     exact h2 x h
    ·
     rw [List.mem_singleton] at h
     rw [h, Int.tmod_eq_emod_of_nonneg (by omega)]
     omega⟩
   refine ⟨r, ?_, hp⟩
   rw [jigsawref06_places.l0, if_pos (nlt hj), if_neg (nge hx), ind_, if_pos hlen, wsu_]
   exact hr
theorem places_f (l : List Int) (hl : ∀ x ∈ l, 0 ≤ x ∧ x ≤ 255) (n : Nat) (hn : n ≤ 4) {k : Nat} (hk : 5 ≤ k) : ∃ r, jigsawref06_places.f k l (n : Int) 5 = some r ∧ Places n r :=
 places_l0 l hl n hn n 0 k [] (by omega) (by omega) ⟨rfl, fun x hx => by simp at hx⟩
theorem has_f {s : ByteArray} {c r : Int} (h : jigsawref06_has.f 6 s c = some r) {k : Nat} (hk : 6 ≤ k) : jigsawref06_has.f k s c = some r :=
 up (f := fun k => jigsawref06_has.f k s c) (jigsawref06_has.mono _ _) h hk
theorem has_g0 (s : ByteArray) (c : Int) (hs : s.size ≤ 4) : ∀ (m j k n : Nat), s.size = j + m → m < k → n + m ≤ 100 → ∃ r : Nat, jigsawref06_has.l0 k s c (n : Int) (j : Int) = some (r : Int) ∧ r ≤ n + m
 | 0, j, k + 1, n, e, _, _ => ⟨n, by rw [jigsawref06_has.l0, ino_], by omega⟩
 | m + 1, j, k + 1, n, e, hk, hn => by
  have hj : j < s.size := by omega
  rw [jigsawref06_has.l0, if_pos (nlt hj), ipo_, wsu_, wsu_]
  by_cases h : bt s (j : Int) = c
  ·
   obtain ⟨r, h1, h2⟩ := has_g0 s c hs m (j + 1) k (n + 1) (by omega) (by omega) (by omega)
   exact ⟨r, by rw [if_pos h]; exact h1, by omega⟩
  ·
   obtain ⟨r, h1, h2⟩ := has_g0 s c hs m (j + 1) k n (by omega) (by omega) (by omega)
   exact ⟨r, by rw [if_neg h]; exact h1, by omega⟩
theorem numbers_g0 (l : List Int) (from_ : Nat) (hf : from_ ≤ 1000) (n : Nat) (hn : n ≤ 50) (least wide : Int) (hw : wide ≠ 0) : ∀ (m j k : Nat) (acc : List Int), n = j + m → m < k → acc.length = j → ∃ r, jigsawref06_numbers.l0 k l (from_ : Int) (n : Int) least wide acc (j : Int) = some r ∧ r.length = n
 | 0, j, k + 1, acc, e, _, ha => ⟨acc, by rw [jigsawref06_numbers.l0, ino_], by omega⟩
 | m + 1, j, k + 1, acc, e, hk, ha => by
  have hj : j < n := by omega
  have hlen : acc.length < 17592186044416 := by omega
  have ew : wrap64 ((from_ : Int) + (j : Int)) = ((from_ + j : Nat) : Int) := by rw [wrap_id (by omega) (by omega)]; omega
  have step : ∀ v, ∃ r, jigsawref06_numbers.l0 k l (from_ : Int) (n : Int) least wide (acc ++ [v]) (((j + 1 : Nat)) : Int) = some r ∧ r.length = n := fun v =>
   numbers_g0 l from_ hf n hn least wide hw m (j + 1) k (acc ++ [v]) (by omega) (by omega) (by simp [ha])
  rw [jigsawref06_numbers.l0, if_pos (nlt hj), ew, wsu_]
  simp only [if_pos hlen, if_neg hw]
  (repeat' split) <;> first | exact step _ | (exfalso; omega)
theorem numbers_g (l : List Int) (from_ : Nat) (hf : from_ ≤ 1000) (n : Nat) (hn : n ≤ 50) (least wide : Int) (hw : wide ≠ 0) {k : Nat} (hk : 60 ≤ k) : ∃ r, jigsawref06_numbers.f k l (from_ : Int) (n : Int) least wide = some r ∧ r.length = n :=
 numbers_g0 l from_ hf n hn least wide hw n 0 k [] (by omega) (by omega) rfl
abbrev Con := Int × List Int × List Int × List Int × List Int × List Int × Int × List (List Int)
def Ends (kd : Int) (p q : List Int) (o : Option Con) : Prop := ∃ C D E K R, o = some (kd, p, q, C, D, E, K, R)
section
variable (a0 a4 a5 kd : Int) (l1 l2 l3 : List Int) (n : Nat) (hn : 1 ≤ n ∧ n ≤ 4)
include hn
theorem mk_l2 (p q C D E : List Int) (K : Int) (N : Nat) (hN : N ≤ 6) : ∀ (m j k : Nat) (R : List (List Int)), N = j + m → m + 70 < k → R.length = j → Ends kd p q (jigsawref06_Make.l2 k (n : Int) (N : Int) (j : Int) a0 l1 l2 l3 a4 a5 kd p q C D E K R)
 | 0, j, k + 1, R, e, _, hR => ⟨C, D, E, K, R, by rw [jigsawref06_Make.l2, ino_]⟩
 | m + 1, j, k + 1, R, e, hk, hR => by
  have hm : j * n ≤ 6 * 4 := Nat.mul_le_mul (by omega) hn.2
  have ew : wrap64 ((j : Int) * (n : Int)) = ((j * n : Nat) : Int) := by rw [← Int.natCast_mul]; exact wrap_id (by omega) (by omega)
  obtain ⟨r, h1, _⟩ := numbers_g l3 (j * n) (by omega) n (by omega) (-1) 4 (by decide) (k := k) (by omega)
  rw [jigsawref06_Make.l2, ipo_, ew, h1, obs_, ipo_, wsu_]
  exact mk_l2 p q C D E K N hN m (j + 1) k (R ++ [r]) (by omega) (by omega) (by simp [hR])
theorem mk_j11 (p q C D E : List Int) (K : Int) {k : Nat} (hk : 80 ≤ k) : Ends kd p q (jigsawref06_Make.j11 k (n : Int) a0 l1 l2 l3 a4 a5 kd p q C D E K) := by
 obtain ⟨k, rfl⟩ : ∃ k', k = k' + 1 := ⟨k - 1, by omega⟩
 rw [jigsawref06_Make.j11]
 split
 ·
  have e : (1 : Int) + ((l3.length : Int) % 6) = ((1 + l3.length % 6 : Nat) : Int) := by omega
  rw [e]
  exact mk_l2 a0 a4 a5 kd l1 l2 l3 n hn p q C D E K _ (by omega) (1 + l3.length % 6) 0 k [] (by omega) (by omega) rfl
 ·
  exact ⟨C, D, E, K, [], rfl⟩
theorem mk_l1 (p q C D : List Int) (K : Int) (N : Nat) (hN : N ≤ 3) (hD : D.length = N) : ∀ (m j k : Nat) (E : List Int), N = j + m → m + 90 < k → E.length = j → Ends kd p q (jigsawref06_Make.l1 k (n : Int) (N : Int) (j : Int) a0 l1 l2 l3 a4 a5 kd p q C D E K)
 | 0, j, k + 1, E, e, hk, hE => by
  rw [jigsawref06_Make.l1, ino_]
  exact mk_j11 a0 a4 a5 kd l1 l2 l3 n hn p q C D E K (by omega)
 | m + 1, j, k + 1, E, e, hk, hE => by
  rw [jigsawref06_Make.l1, ipo_, ipo_, ipo_, ipo_, wsu_]
  exact mk_l1 p q C D K N hN hD m (j + 1) k _ (by omega) (by omega) (by simp [hE])
theorem mk_l0 (p q D : List Int) (K : Int) (N : Nat) (hN : 1 ≤ N ∧ N ≤ 3) : ∀ (m j k : Nat) (C : List Int), N = j + m → m + 100 < k → C.length = j → Ends kd p q (jigsawref06_Make.l0 k (n : Int) (N : Int) (j : Int) a0 l1 l2 l3 a4 a5 kd p q C D K)
 | 0, j, k + 1, C, e, hk, hC => by
  obtain ⟨r, h1, h2⟩ := numbers_g l3 0 (by omega) N (by omega) 0 2 (by decide) (k := k) (by omega)
  have h1' : jigsawref06_numbers.f k l3 0 (N : Int) 0 2 = some r := h1
  rw [jigsawref06_Make.l0, ino_, h1', obs_]
  exact mk_l1 a0 a4 a5 kd l1 l2 l3 n hn p q C r K N hN.2 h2 N 0 k [] (by omega) (by omega) rfl
 | m + 1, j, k + 1, C, e, hk, hC => by
  rw [jigsawref06_Make.l0, ipo_, ipo_, wsu_]
  exact mk_l0 p q D K N hN m (j + 1) k _ (by omega) (by omega) (by simp [hC])
theorem mk_j8 (p q C D : List Int) (K : Int) {k : Nat} (hk : 120 ≤ k) : Ends kd p q (jigsawref06_Make.j8 k (n : Int) a0 l1 l2 l3 a4 a5 kd p q C D K) := by
 obtain ⟨k, rfl⟩ : ∃ k', k = k' + 1 := ⟨k - 1, by omega⟩
 rw [jigsawref06_Make.j8]
 split
 ·
  have e : (1 : Int) + ((l3.length : Int) % 3) = ((1 + l3.length % 3 : Nat) : Int) := by omega
  rw [e]
  exact mk_l0 a0 a4 a5 kd l1 l2 l3 n hn p q D K _ (by omega) (1 + l3.length % 3) 0 k [] (by omega) (by omega) rfl
 ·
  exact mk_j11 a0 a4 a5 kd l1 l2 l3 n hn p q C D [] K (by omega)
theorem mk_j7 (p q C : List Int) (K : Int) {k : Nat} (hk : 130 ≤ k) : Ends kd p q (jigsawref06_Make.j7 k (n : Int) a0 l1 l2 l3 a4 a5 kd p q C K) := by
 obtain ⟨k, rfl⟩ : ∃ k', k = k' + 1 := ⟨k - 1, by omega⟩
 rw [jigsawref06_Make.j7]
 split
 ·
  obtain ⟨r, h1, _⟩ := numbers_g l3 0 (by omega) n (by omega) 0 4 (by decide) (k := k) (by omega)
  obtain ⟨r2, h2, _⟩ := numbers_g l3 n (by omega) n (by omega) 0 4 (by decide) (k := k) (by omega)
  have h1' : jigsawref06_numbers.f k l3 0 (n : Int) 0 4 = some r := h1
  rw [h1', obs_, h2, obs_]
  split <;> exact mk_j8 a0 a4 a5 kd l1 l2 l3 n hn p q _ _ _ (by omega)
 ·
  exact mk_j8 a0 a4 a5 kd l1 l2 l3 n hn p q C [] K (by omega)
theorem mk_j6 (s : ByteArray) (hs : s.size ≤ 4) (p q C : List Int) (K : Int) {k : Nat} (hk : 140 ≤ k) : Ends kd p q (jigsawref06_Make.j6 k s (n : Int) a0 l1 l2 l3 a4 a5 kd p q C K) := by
 obtain ⟨k, rfl⟩ : ∃ k', k = k' + 1 := ⟨k - 1, by omega⟩
 obtain ⟨r, h, _⟩ := has_g0 s 107 hs s.size 0 k 0 (by omega) (by omega) (by omega)
 have h' : jigsawref06_has.f k s 107 = some (r : Int) := h
 rw [jigsawref06_Make.j6, h', obs_]
 split <;> exact mk_j7 a0 a4 a5 kd l1 l2 l3 n hn p q C _ (by omega)
theorem mk_j5 (s : ByteArray) (hs : s.size ≤ 4) (p q C : List Int) (K : Int) {k : Nat} (hk : 150 ≤ k) : Ends kd p q (jigsawref06_Make.j5 k s (n : Int) a0 l1 l2 l3 a4 a5 kd p q C K) := by
 obtain ⟨k, rfl⟩ : ∃ k', k = k' + 1 := ⟨k - 1, by omega⟩
 rw [jigsawref06_Make.j5]
 split
 ·
  have e : (1 : Int) + ((l3.length : Int) % 5) = ((1 + l3.length % 5 : Nat) : Int) := by omega
  obtain ⟨r, h1, _⟩ := numbers_g l3 0 (by omega) (1 + l3.length % 5) (by omega) (-1) 5 (by decide) (k := k) (by omega)
  have h1' : jigsawref06_numbers.f k l3 0 ((1 + l3.length % 5 : Nat) : Int) (-1) 5 = some r := h1
  rw [e, h1', obs_]
  exact mk_j6 a0 a4 a5 kd l1 l2 l3 n hn s hs p q r K (by omega)
 ·
  exact mk_j6 a0 a4 a5 kd l1 l2 l3 n hn s hs p q C K (by omega)
theorem mk_j4 (s : ByteArray) (hs : s.size ≤ 4) (p q : List Int) (K : Int) {k : Nat} (hk : 160 ≤ k) : Ends kd p q (jigsawref06_Make.j4 k s (n : Int) a0 l1 l2 l3 a4 a5 kd p q K) := by
 obtain ⟨k, rfl⟩ : ∃ k', k = k' + 1 := ⟨k - 1, by omega⟩
 obtain ⟨r, h, _⟩ := has_g0 s 99 hs s.size 0 k 0 (by omega) (by omega) (by omega)
 have h' : jigsawref06_has.f k s 99 = some (r : Int) := h
 rw [jigsawref06_Make.j4, h', obs_]
 split
 ·
  obtain ⟨r, h1, _⟩ := numbers_g l3 0 (by omega) n (by omega) (-1) 5 (by decide) (k := k) (by omega)
  have h1' : jigsawref06_numbers.f k l3 0 (n : Int) (-1) 5 = some r := h1
  rw [h1', obs_]
  exact mk_j5 a0 a4 a5 kd l1 l2 l3 n hn s hs p q r K (by omega)
 ·
  exact mk_j5 a0 a4 a5 kd l1 l2 l3 n hn s hs p q [] K (by omega)
end
def EndsP (kd : Int) (o : Option Con) : Prop := ∃ (n m : Nat) (p q : List Int), 1 ≤ n ∧ n ≤ 4 ∧ m ≤ 4 ∧ Places n p ∧ Places m q ∧ Ends kd p q o
section
variable (a0 a4 a5 kd : Int) (l1 l2 l3 : List Int) (h1 : ∀ x ∈ l1, 0 ≤ x ∧ x ≤ 255) (h2 : ∀ x ∈ l2, 0 ≤ x ∧ x ≤ 255) (s : ByteArray) (hs : s.size ≤ 4)
include h2 hs
theorem mk_j3 (n m : Nat) (hn : 1 ≤ n ∧ n ≤ 4) (hm : m ≤ 4) (p q : List Int) (hp : Places n p) (hq : Places m q) (K : Int) {k : Nat} (hk : 170 ≤ k) : EndsP kd (jigsawref06_Make.j3 k 5 s (n : Int) a0 l1 l2 l3 a4 a5 kd p q K) := by
 obtain ⟨k, rfl⟩ : ∃ k', k = k' + 1 := ⟨k - 1, by omega⟩
 obtain ⟨r, h, _⟩ := has_g0 s 87 hs s.size 0 k 0 (by omega) (by omega) (by omega)
 have h' : jigsawref06_has.f k s 87 = some (r : Int) := h
 rw [jigsawref06_Make.j3, h', obs_]
 split
 ·
  obtain ⟨t, h1, h3⟩ := places_f l2 h2 n hn.2 (k := k) (by omega)
  rw [h1, obs_]
  exact ⟨n, n, p, t, hn.1, hn.2, hn.2, hp, h3, mk_j4 a0 a4 a5 kd l1 l2 l3 n hn s hs p t K (by omega)⟩
 ·
  exact ⟨n, m, p, q, hn.1, hn.2, hm, hp, hq, mk_j4 a0 a4 a5 kd l1 l2 l3 n hn s hs p q K (by omega)⟩
include h1
theorem mk_j2 (n : Nat) (hn : 1 ≤ n ∧ n ≤ 4) (K : Int) {k : Nat} (hk : 180 ≤ k) : EndsP kd (jigsawref06_Make.j2 k 5 s (n : Int) a0 l1 l2 l3 a4 a5 kd K) := by
 obtain ⟨k, rfl⟩ : ∃ k', k = k' + 1 := ⟨k - 1, by omega⟩
 obtain ⟨p, hp, hpp⟩ := places_f l1 h1 n hn.2 (k := k) (by omega)
 obtain ⟨r, h, _⟩ := has_g0 s 119 hs s.size 0 k 0 (by omega) (by omega) (by omega)
 have h' : jigsawref06_has.f k s 119 = some (r : Int) := h
 rw [jigsawref06_Make.j2, hp, obs_, h', obs_]
 split
 ·
  obtain ⟨t, h3, h4⟩ := places_f l2 h2 1 (by omega) (k := k) (by omega)
  have h3' : jigsawref06_places.f k l2 1 5 = some t := h3
  rw [h3', obs_]
  exact mk_j3 a0 a4 a5 kd l1 l2 l3 h2 s hs n 1 hn (by omega) p t hpp h4 K (by omega)
 ·
  exact mk_j3 a0 a4 a5 kd l1 l2 l3 h2 s hs n 0 hn (by omega) p [] hpp ⟨rfl, fun x hx => absurd hx List.not_mem_nil⟩ K (by omega)
theorem mk_j1 (n : Nat) (hn : 1 ≤ n ∧ n ≤ 4) (K : Int) {k : Nat} (hk : 190 ≤ k) : EndsP kd (jigsawref06_Make.j1 k 5 s (n : Int) a0 l1 l2 l3 a4 a5 kd K) := by
 obtain ⟨k, rfl⟩ : ∃ k', k = k' + 1 := ⟨k - 1, by omega⟩
 obtain ⟨r, h, hr⟩ := has_g0 s 118 hs s.size 0 k 0 (by omega) (by omega) (by omega)
 have h' : jigsawref06_has.f k s 118 = some (r : Int) := h
 rw [jigsawref06_Make.j1, h', obs_]
 split
 ·
  rw [obs_]
  exact mk_j2 a0 a4 a5 kd l1 l2 l3 h1 h2 s hs r (by omega) K (by omega)
 ·
  exact mk_j2 a0 a4 a5 kd l1 l2 l3 h1 h2 s hs n hn K (by omega)
theorem mk_j0 (n : Nat) (hn : 1 ≤ n) (K : Int) {k : Nat} (hk : 200 ≤ k) : EndsP kd (jigsawref06_Make.j0 k 5 s (n : Int) a0 l1 l2 l3 a4 a5 kd K) := by
 obtain ⟨k, rfl⟩ : ∃ k', k = k' + 1 := ⟨k - 1, by omega⟩
 rw [jigsawref06_Make.j0]
 split
 ·
  exact mk_j1 a0 a4 a5 kd l1 l2 l3 h1 h2 s hs 4 (by omega) K (by omega)
 ·
  exact mk_j1 a0 a4 a5 kd l1 l2 l3 h1 h2 s hs n (by omega) K (by omega)
end
theorem shape_size : ∀ i : Fin 24, (rdOf ByteArray.empty ((jigsawref06_Shapes.f).getD []) (i.val : Int)).size ≤ 4 := by decide +kernel
theorem kd_back {kd : Int} (h : 1 ≤ kd ∧ kd ≤ 23) : wrap64 (1 + Int.tmod (wrap64 ((wrap64 (kd - 1)) % 256)) 23) = kd := by
 have e0 : wrap64 (kd - 1) = kd - 1 := wrap_id (by omega) (by omega)
 have e1 : (kd - 1) % 256 = kd - 1 := by omega
 have e2 : Int.tmod (kd - 1) 23 = kd - 1 := by rw [Int.tmod_eq_emod_of_nonneg (by omega)]; omega
 rw [e0, e1, e0, e2, wrap_id (by omega) (by omega)]; omega
theorem make_any (kd : Int) (hkd : 1 ≤ kd ∧ kd ≤ 23) (l1 l2 l3 : List Int) (a4 a5 : Int) (h1 : ∀ x ∈ l1, 0 ≤ x ∧ x ≤ 255) (h2 : ∀ x ∈ l2, 0 ≤ x ∧ x ≤ 255) {k : Nat} (hk : 300 ≤ k) :
  EndsP kd (jigsawref06_Make.f k ((wrap64 (kd - 1)) % 256) l1 l2 l3 a4 a5 5) := by
 have hs : jigsawref06_Shapes.f = some ((jigsawref06_Shapes.f).getD []) := by rfl
 have hlen : ((jigsawref06_Shapes.f).getD []).length = 24 := by decide +kernel
 have hsz := shape_size ⟨kd.toNat, by omega⟩
 simp only [] at hsz
 rw [show ((kd.toNat : Nat) : Int) = kd by omega] at hsz
 unfold jigsawref06_Make.f
 rw [hs, obs_, kd_back hkd, hlen, ipo_, ipo_]
 split
 ·
  exact mk_j0 _ a4 a5 kd l1 l2 l3 h1 h2 _ hsz 1 (by omega) 0 (by omega)
 ·
  exact mk_j0 _ a4 a5 kd l1 l2 l3 h1 h2 _ hsz l1.length (by omega) 0 (by omega)
def keep (Y : List (Fin 2048)) (i : Nat) (v : Int) : Bool := decide (1 ≤ v ∧ v ≤ (Y.length : Int)) && decide (((i : Int) + 1) ∈ LL (Y.getD (v - 1).toNat ⟨0, by decide⟩))
def turn (Y : List (Fin 2048)) (i : Nat) (m : Fin 2048) : Fin 2048 := mk ((LL m).filter (keep Y i))
theorem near_filter (m : Fin 2048) (p : Int → Bool) : Near ((LL m).filter p) := fun v hv => near_LL m v (List.mem_filter.1 hv).1
theorem LL_mk_filter (m : Fin 2048) (p : Int → Bool) : LL (mk ((LL m).filter p)) = (LL m).filter p := by
 refine L_filter (m := (mk ((LL m).filter p)).val) (m' := m.val) (p := p) fun v _ _ => ?_
 show v ∈ LL (mk ((LL m).filter p)) ↔ v ∈ LL m ∧ p v = true
 rw [mem_mk (near_filter m p), List.mem_filter]
theorem LL_turn (Y : List (Fin 2048)) (i : Nat) (m : Fin 2048) : LL (turn Y i m) = (LL m).filter (keep Y i) := LL_mk_filter m _
theorem LL_nil_iff (m : Fin 2048) : (LL m).length = 0 ↔ m.val = 0 := by
 constructor
 ·
  intro h; exact Classical.byContradiction fun hc => ne_all m hc h
 ·
  intro h; have : m = ⟨0, by decide⟩ := Fin.ext h
  rw [this]; rfl
theorem turn_len (Y : List (Fin 2048)) (i : Nat) (m : Fin 2048) : (LL (turn Y i m)).length ≤ (LL m).length := by rw [LL_turn]; exact List.length_filter_le _ _
theorem turn_same {Y : List (Fin 2048)} {i : Nat} {m : Fin 2048} (h : (LL (turn Y i m)).length = (LL m).length) : turn Y i m = m := by
 refine mask_ext fun v => ?_
 rw [LL_turn] at h ⊢
 rw [List.filter_eq_self.2 (List.length_filter_eq_length_iff.1 h)]
theorem D_size (m : Fin 2048) : dom_Dom_Size.f (D m).f0 (D m).f1 (D m).f2 (D m).f3 (D m).f4 = some ((LL m).length : Int) := by
 show some (D m).f4 = _
 unfold D DM LL
 split
 ·
  rfl
 ·
  split <;> rfl
theorem side_l1 (ys : List (Fin 2048)) (hy : ys.length ≤ 5) (i : Nat) (hi : i ≤ 4) (X X2 : List S58) (m : Fin 2048) (n : Int) (ch : Bool) (e0 : Int) (e1 : List Int) (e2 e3 e4 : Int) : ∀ (r a k : Nat) (acc : List Int), (LL m).length = a + r → r < k → acc = ((LL m).take a).filter (keep ys i) →
  ∃ k', k' + r = k ∧ inverse_side.l1 k (ys.map D) ch (i : Int) acc X X2 n (i : Int) (LL m) ((LL m).length : Int) (a : Int) e0 e1 e2 e3 e4 = inverse_side.l1 k' (ys.map D) ch (i : Int) ((LL m).filter (keep ys i)) X X2 n (i : Int) (LL m) ((LL m).length : Int) ((LL m).length : Int) e0 e1 e2 e3 e4
 | 0, a, k, acc, e, _, ha => by
  refine ⟨k, rfl, ?_⟩
  have : (LL m).length = a := e
  rw [ha, List.take_of_length_le (by omega), this]
 | r + 1, a, k + 1, acc, e, hk, ha => by
  have h11 := (len_all m).1
  have hj : a < (LL m).length := by omega
  obtain ⟨v, ev⟩ : ∃ v, (LL m).getD a 0 = v := ⟨_, rfl⟩
  have hv := near_LL m v (by rw [← ev]; exact getD_mem (LL m) 0 hj)
  have hacc : acc.length ≤ 11 := by rw [ha]; exact Nat.le_trans (List.length_filter_le _ _) (by rw [List.length_take]; omega)
  have htake : (LL m).take (a + 1) = (LL m).take a ++ [v] := by rw [← ev, take_step (LL m) 0 hj]
  have go : ∀ acc', acc' = ((LL m).take (a + 1)).filter (keep ys i) → ∃ k', k' + (r + 1) = k + 1 ∧ inverse_side.l1 k (ys.map D) ch (i : Int) acc' X X2 n (i : Int) (LL m) ((LL m).length : Int) ((a + 1 : Nat) : Int) e0 e1 e2 e3 e4 = inverse_side.l1 k' (ys.map D) ch (i : Int) ((LL m).filter (keep ys i)) X X2 n (i : Int) (LL m) ((LL m).length : Int) ((LL m).length : Int) e0 e1 e2 e3 e4 := by
   intro acc' h
   obtain ⟨k', h1, h2⟩ := side_l1 ys hy i hi X X2 m n ch e0 e1 e2 e3 e4 r (a + 1) k acc' (by omega) (by omega) h
   exact ⟨k', by omega, h2⟩
  have no : keep ys i v = false → ((LL m).take (a + 1)).filter (keep ys i) = acc := fun h => by rw [htake, List.filter_append, ha, List.filter_cons_of_neg (by rw [h]; decide), List.filter_nil, List.append_nil]
  have yes : keep ys i v = true → ((LL m).take (a + 1)).filter (keep ys i) = acc ++ [v] := fun h => by rw [htake, List.filter_append, ha, List.filter_cons_of_pos h, List.filter_nil]
  rw [inverse_side.l1, if_pos (nlt hj), ipo_, if_pos (nlt hj), rd_at, ev, List.length_map, wrap_succ (j := a) (by omega)]
  by_cases c1 : v ≥ 1
  ·
   rw [if_pos c1]
   by_cases c2 : v ≤ (ys.length : Int)
   ·
    have hw : wrap64 (v - 1) = (((v - 1).toNat : Nat) : Int) := by rw [wrap_id (by omega) (by omega)]; omega
    have hu : (v - 1).toNat < ys.length := by omega
    rw [if_pos c2, hw, ipo_, ipo_, rdD_at, getD_map D ys ⟨0, by decide⟩ z58 hu, wrap_succ (j := i) (by omega), has_one _ (by omega), obs_]
    have hkeep : keep ys i v = decide (((i + 1 : Nat) : Int) ∈ LL (ys.getD (v - 1).toNat ⟨0, by decide⟩)) := by
     unfold keep
     rw [decide_eq_true (show 1 ≤ v ∧ v ≤ (ys.length : Int) from ⟨c1, c2⟩), Bool.true_and]
     rfl
    by_cases c3 : ((i + 1 : Nat) : Int) ∈ LL (ys.getD (v - 1).toNat ⟨0, by decide⟩)
    ·
     rw [if_pos (decide_eq_true c3), ipo_]
     exact go _ (yes (by rw [hkeep]; exact decide_eq_true c3)).symm
    ·
     rw [if_neg (by simpa using c3)]
     exact go _ (no (by rw [hkeep]; exact decide_eq_false c3)).symm
   ·
    rw [if_neg c2]
    exact go _ (no (by unfold keep; rw [decide_eq_false (fun h => c2 h.2)]; rfl)).symm
  ·
   rw [if_neg c1]
   exact go _ (no (by unfold keep; rw [decide_eq_false (fun h => c1 h.1)]; rfl)).symm
def part (xs ys : List (Fin 2048)) (j : Nat) : List (Fin 2048) := (List.range xs.length).map fun i => if i < j then turn ys i (xs.getD i ⟨0, by decide⟩) else xs.getD i ⟨0, by decide⟩
theorem part_len (xs ys : List (Fin 2048)) (j : Nat) : (part xs ys j).length = xs.length := by simp [part]
theorem part_at (xs ys : List (Fin 2048)) (j i : Nat) (hi : i < xs.length) : (part xs ys j).getD i ⟨0, by decide⟩ = if i < j then turn ys i (xs.getD i ⟨0, by decide⟩) else xs.getD i ⟨0, by decide⟩ := by
 rw [getD_lt _ _ (by rw [part_len]; exact hi)]; simp [part]
theorem list_ext {a b : List (Fin 2048)} (hl : a.length = b.length) (h : ∀ i, i < a.length → a.getD i ⟨0, by decide⟩ = b.getD i ⟨0, by decide⟩) : a = b := by
 refine List.ext_getElem hl fun i h1 h2 => ?_
 have := h i h1
 rwa [getD_lt _ _ h1, getD_lt _ _ h2] at this
theorem part_zero (xs ys : List (Fin 2048)) : part xs ys 0 = xs := list_ext (part_len _ _ _) fun i hi => by
 rw [part_len] at hi
 rw [part_at xs ys 0 i hi, ino_]
theorem part_succ (xs ys : List (Fin 2048)) (j : Nat) (hj : j < xs.length) : part xs ys (j + 1) = (part xs ys j).set j (turn ys j (xs.getD j ⟨0, by decide⟩)) := by
 refine list_ext (by rw [List.length_set, part_len, part_len]) fun i hi => ?_
 rw [part_len] at hi
 have e : ((part xs ys j).set j (turn ys j (xs.getD j ⟨0, by decide⟩))).getD i ⟨0, by decide⟩ = if j = i then turn ys j (xs.getD j ⟨0, by decide⟩) else (part xs ys j).getD i ⟨0, by decide⟩ := by
  rw [List.getD_eq_getElem?_getD, List.getElem?_set, part_len]
  split
  ·
   rename_i h; first | rfl | (subst h; rw [if_pos hj]; rfl)
  ·
   rw [List.getD_eq_getElem?_getD]
 rw [e, part_at xs ys (j + 1) i hi, part_at xs ys j i hi]
 by_cases h1 : j = i
 ·
  subst h1; rw [ipo_, if_pos rfl]
 ·
  rw [if_neg h1]
  by_cases h2 : i < j
  ·
   rw [ipo_, if_pos h2]
  ·
   rw [ino_, if_neg h2]
theorem part_keep (xs ys : List (Fin 2048)) (j : Nat) (hj : j < xs.length) (h : turn ys j (xs.getD j ⟨0, by decide⟩) = xs.getD j ⟨0, by decide⟩) : part xs ys (j + 1) = part xs ys j := by
 refine list_ext (by rw [part_len, part_len]) fun i hi => ?_
 rw [part_len] at hi
 rw [part_at xs ys (j + 1) i hi, part_at xs ys j i hi]
 by_cases h1 : i = j
 ·
  rw [h1, ipo_, ino_, h]
 ·
  by_cases h2 : i < j
  ·
   rw [ipo_, if_pos h2]
  ·
   rw [ino_, if_neg h2]
def side (xs ys : List (Fin 2048)) : List (Fin 2048) := part xs ys xs.length
theorem side_l0 (xs ys : List (Fin 2048)) (hx : xs.length ≤ 4) (hy : ys.length ≤ 5) (hl : ys.length = xs.length) : ∀ (r j k : Nat) (ch : Bool), xs.length = j + r → 60 * r + 60 < k → (ch = true ↔ part xs ys j ≠ xs) → (∀ i, i < j → (turn ys i (xs.getD i ⟨0, by decide⟩)).val ≠ 0) →
  ((∃ i, i < xs.length ∧ (turn ys i (xs.getD i ⟨0, by decide⟩)).val = 0) ∧ ∃ q c, inverse_side.l0 k (ys.map D) ch ((part xs ys j).map D) (xs.map D) (xs.length : Int) (j : Int) = some (q, c, false)) ∨
  ((∀ i, i < xs.length → (turn ys i (xs.getD i ⟨0, by decide⟩)).val ≠ 0) ∧ ∃ c : Bool, (c = true ↔ side xs ys ≠ xs) ∧ inverse_side.l0 k (ys.map D) ch ((part xs ys j).map D) (xs.map D) (xs.length : Int) (j : Int) = some ((side xs ys).map D, c, true))
 | 0, j, k + 1, ch, e, _, hc, h => by
  refine .inr ⟨fun i hi => h i (by omega), ch, ?_, ?_⟩
  ·
   unfold side; rw [show xs.length = j from e]; exact hc
  ·
   rw [inverse_side.l0, ino_]
   unfold side; rw [show xs.length = j from e]
 | r + 1, j, k + 1, ch, e, hk, hc, h => by
  have hj : j < xs.length := by omega
  have hp : (part xs ys j).getD j ⟨0, by decide⟩ = xs.getD j ⟨0, by decide⟩ := by rw [part_at xs ys j j hj, ino_]
  obtain ⟨m, em⟩ : ∃ m, xs.getD j ⟨0, by decide⟩ = m := ⟨_, rfl⟩
  rw [em] at hp
  have h11 := (len_all m).1
  rw [inverse_side.l0, if_pos (nlt hj), ipo_, List.length_map, if_pos (nlt hj), rdD_at, getD_map D (part xs ys j) ⟨0, by decide⟩ z58 (by rw [part_len]; exact hj), hp, list_one m (by omega), obs_]
  obtain ⟨k1, h1, h2⟩ := side_l1 ys hy j (by omega) ((part xs ys j).map D) (xs.map D) m (xs.length : Int) ch (D m).f0 (D m).f1 (D m).f2 (D m).f3 (D m).f4 (LL m).length 0 k [] (by omega) (by omega) rfl
  have h2' : inverse_side.l1 k (ys.map D) ch (j : Int) [] ((part xs ys j).map D) (xs.map D) (xs.length : Int) (j : Int) (LL m) ((LL m).length : Int) 0 (D m).f0 (D m).f1 (D m).f2 (D m).f3 (D m).f4 = _ := h2
  rw [h2']
  obtain ⟨k2, rfl⟩ : ∃ k2, k1 = k2 + 1 := ⟨k1 - 1, by omega⟩
  rw [← LL_turn, inverse_side.l1, ino_]
  by_cases c0 : (LL (turn ys j m)).length = 0
  ·
   rw [ipo_]
   exact .inl ⟨⟨j, hj, by rw [em]; exact (LL_nil_iff _).1 c0⟩, _, _, rfl⟩
  ·
   have hne : (turn ys j m).val ≠ 0 := fun hz => c0 ((LL_nil_iff _).2 hz)
   have hall : ∀ i, i < j + 1 → (turn ys i (xs.getD i ⟨0, by decide⟩)).val ≠ 0 := fun i hi => by
    by_cases ei : i = j
    ·
     rw [ei, em]; exact hne
    ·
     exact h i (by omega)
   have htl := turn_len ys j m
   rw [ino_, D_size, obs_]
   by_cases c1 : ((LL (turn ys j m)).length : Int) < ((LL m).length : Int)
   ·
    rw [if_pos c1, of_one hne (by omega), obs_, ipo_, List.length_map, part_len, if_pos (nlt hj), wsu_]
    have es : ((part xs ys j).map D).set ((j : Int)).toNat (⟨(D (turn ys j m)).f0, (D (turn ys j m)).f1, (D (turn ys j m)).f2, (D (turn ys j m)).f3, (D (turn ys j m)).f4⟩ : S58) = (part xs ys (j + 1)).map D := by
     rw [part_succ xs ys j hj, em, List.map_set]
     rfl
    show _ ∨ _
    have hgo := side_l0 xs ys hx hy hl r (j + 1) k2 true (by omega) (by omega) (by
     refine ⟨fun _ hs => ?_, fun _ => rfl⟩
     have := congrArg (fun l => l.getD j ⟨0, by decide⟩) hs
     simp only [part_at xs ys (j + 1) j hj, if_pos (show j < j + 1 by omega), em] at this
     rw [this] at c1
     omega) hall
    rw [← es] at hgo
    exact hgo
   ·
    rw [if_neg c1, wsu_]
    have hsame : turn ys j m = m := turn_same (by omega)
    have hpk := part_keep xs ys j hj (by rw [em]; exact hsame)
    have hgo := side_l0 xs ys hx hy hl r (j + 1) k2 ch (by omega) (by omega) (by rw [hpk]; exact hc) hall
    rw [hpk] at hgo
    exact hgo
theorem side_f (xs ys : List (Fin 2048)) (hx : xs.length ≤ 4) (hl : ys.length = xs.length) {k : Nat} (hk : 400 ≤ k) :
  ((∃ i, i < xs.length ∧ (turn ys i (xs.getD i ⟨0, by decide⟩)).val = 0) ∧ ∃ q c, inverse_side.f k (xs.map D) (ys.map D) = some (q, c, false)) ∨
  ((∀ i, i < xs.length → (turn ys i (xs.getD i ⟨0, by decide⟩)).val ≠ 0) ∧ ∃ c : Bool, (c = true ↔ side xs ys ≠ xs) ∧ inverse_side.f k (xs.map D) (ys.map D) = some ((side xs ys).map D, c, true)) := by
 have h := side_l0 xs ys hx (by omega) hl xs.length 0 k false (by omega) (by omega) (by rw [part_zero]; simp) (fun i hi => by omega)
 rw [part_zero] at h
 unfold inverse_side.f
 rw [List.length_map]
 exact h
theorem side_len (xs ys : List (Fin 2048)) : (side xs ys).length = xs.length := part_len _ _ _
theorem side_at (xs ys : List (Fin 2048)) (i : Nat) (hi : i < xs.length) : (side xs ys).getD i ⟨0, by decide⟩ = turn ys i (xs.getD i ⟨0, by decide⟩) := by
 unfold side
 rw [part_at xs ys xs.length i hi, if_pos hi]
def weight (l : List (Fin 2048)) : Nat := (l.map fun m => (LL m).length).sum
theorem weight_le : ∀ (a b : List (Fin 2048)), a.length = b.length → (∀ i, i < a.length → (LL (b.getD i ⟨0, by decide⟩)).length ≤ (LL (a.getD i ⟨0, by decide⟩)).length) → weight b ≤ weight a ∧ (weight b = weight a → ∀ i, i < a.length → (LL (b.getD i ⟨0, by decide⟩)).length = (LL (a.getD i ⟨0, by decide⟩)).length)
 | [], [], _, _ => ⟨Nat.le_refl _, fun _ i hi => absurd hi (Nat.not_lt_zero _)⟩
 | x :: a, y :: b, hl, h => by
  have h0 : (LL y).length ≤ (LL x).length := h 0 (by simp)
  obtain ⟨h1, h2⟩ := weight_le a b (by simpa using hl) (fun i hi => h (i + 1) (by simp; omega))
  have ea : weight (x :: a) = (LL x).length + weight a := by simp [weight]
  have eb : weight (y :: b) = (LL y).length + weight b := by simp [weight]
  rw [ea, eb]
  refine ⟨by omega, fun e i hi => ?_⟩
  cases i with
  | zero => show (LL y).length = (LL x).length; omega
  | succ i => exact h2 (by omega) i (by simpa using hi)
 | [], _ :: _, hl, _ => by simp at hl
 | _ :: _, [], hl, _ => by simp at hl
theorem side_weight (xs ys : List (Fin 2048)) : weight (side xs ys) ≤ weight xs ∧ (side xs ys ≠ xs → weight (side xs ys) < weight xs) := by
 obtain ⟨h1, h2⟩ := weight_le xs (side xs ys) (side_len _ _).symm (fun i hi => by rw [side_at xs ys i hi]; exact turn_len _ _ _)
 refine ⟨h1, fun hne => Nat.lt_of_le_of_ne h1 fun e => hne (list_ext (side_len _ _) fun i hi => ?_)⟩
 rw [side_len] at hi
 have h3 := h2 e i hi
 rw [side_at xs ys i hi] at h3 ⊢
 exact turn_same h3
theorem side_dead {xs ys : List (Fin 2048)} (h : ∃ i, i < xs.length ∧ (turn ys i (xs.getD i ⟨0, by decide⟩)).val = 0) : ∃ i, i < xs.length ∧ ((side xs ys).getD i ⟨0, by decide⟩).val = 0 := by
 obtain ⟨i, hi, h0⟩ := h
 exact ⟨i, hi, by rw [side_at xs ys i hi]; exact h0⟩
theorem app_at (A B : List (Fin 2048)) (i : Nat) : (A ++ B).getD i ⟨0, by decide⟩ = if i < A.length then A.getD i ⟨0, by decide⟩ else B.getD (i - A.length) ⟨0, by decide⟩ := by
 rw [List.getD_eq_getElem?_getD]
 split
 ·
  rename_i h; rw [List.getElem?_append_left h, List.getD_eq_getElem?_getD]
 ·
  rename_i h; rw [List.getElem?_append_right (by omega), List.getD_eq_getElem?_getD]
theorem prog_round (n : Nat) (hn : n ≤ 4) (A B : List (Fin 2048)) (hA : A.length = n) (hB : B.length = n) {k : Nat} (hk : 1000 ≤ k) :
  ((∃ i, i < 2 * n ∧ ((side A B ++ side B (side A B)).getD i ⟨0, by decide⟩).val = 0) ∧ inverse_Filter.l0 (k + 1) (A.map D) (B.map D) = some ([], false)) ∨
  ((∀ i, i < 2 * n → ((side A B ++ side B (side A B)).getD i ⟨0, by decide⟩).val ≠ 0) ∧ inverse_Filter.l0 (k + 1) (A.map D) (B.map D) = if side A B = A ∧ side B (side A B) = B then some ((side A B ++ side B (side A B)).map D, true) else inverse_Filter.l0 k ((side A B).map D) ((side B (side A B)).map D)) := by
 have hp : (side A B).length = n := by rw [side_len]; exact hA
 have hq : (side B (side A B)).length = n := by rw [side_len]; exact hB
 rw [inverse_Filter.l0]
 rcases side_f A B (by omega) (by omega) (k := k) (by omega) with ⟨hd, q, c, e⟩ | ⟨hl, c1, hc1, e⟩
 ·
  obtain ⟨i, hi, h0⟩ := side_dead hd
  refine .inl ⟨⟨i, by omega, by rw [app_at, ipo_]; exact h0⟩, ?_⟩
  rw [e, obs_, if_neg (by simp)]
 ·
  rw [e, obs_, if_pos rfl]
  rcases side_f B (side A B) (by omega) (by omega) (k := k) (by omega) with ⟨hd, q, c, e'⟩ | ⟨hl', c2, hc2, e'⟩
  ·
   obtain ⟨i, hi, h0⟩ := side_dead hd
   refine .inl ⟨⟨n + i, by omega, by rw [app_at, ino_, hp, Nat.add_sub_cancel_left]; exact h0⟩, ?_⟩
   rw [e', obs_, if_neg (by simp)]
  ·
   refine .inr ⟨fun i hi => ?_, ?_⟩
   ·
    rw [app_at]
    split
    ·
     rename_i h; rw [side_at A B i (by omega)]; exact hl i (by omega)
    ·
     rename_i h; rw [side_at B (side A B) (i - (side A B).length) (by omega)]; exact hl' _ (by omega)
   ·
    rw [e', obs_, if_pos rfl]
    cases c1 with
    | true => rw [if_pos rfl, if_neg (fun h => (hc1.1 rfl) h.1)]
    | false =>
     have s1 : side A B = A := Classical.byContradiction fun h => by have := hc1.2 h; cases this
     rw [if_neg (by simp)]
     cases c2 with
     | true => rw [if_pos rfl, if_neg (fun h => (hc2.1 rfl) h.2)]
     | false =>
      have s2 : side B (side A B) = B := Classical.byContradiction fun h => by have := hc2.2 h; cases this
      rw [if_neg (by simp), if_pos ⟨s1, s2⟩, List.map_append]
theorem make_12 (l1 l2 l3 : List Int) (a4 a5 : Int) (h1 : ∀ x ∈ l1, 0 ≤ x ∧ x ≤ 255) (h2 : ∀ x ∈ l2, 0 ≤ x ∧ x ≤ 255) {k : Nat} (hk : 300 ≤ k) :
  ∃ (n : Nat) (p q : List Int), 1 ≤ n ∧ n ≤ 4 ∧ Places n p ∧ Places n q ∧ jigsawref06_Make.f k ((wrap64 ((23 : Int) - 1)) % 256) l1 l2 l3 a4 a5 5 = some (23, p, q, [], [], [], 0, []) := by
 have hw := kd_back (kd := 23) (by decide)
 have hs : jigsawref06_Shapes.f = some ((jigsawref06_Shapes.f).getD []) := by rfl
 have hlen : ((jigsawref06_Shapes.f).getD []).length = 24 := by decide +kernel
 have hvw : rdOf ByteArray.empty ((jigsawref06_Shapes.f).getD []) 23 = (⟨#[86, 87]⟩ : ByteArray) := by rfl
 generalize (wrap64 ((23 : Int) - 1)) % 256 = a0 at *
 have key : ∀ n : Nat, n ≤ 4 → ∃ p q, Places n p ∧ Places n q ∧ ∀ k, 60 ≤ k → jigsawref06_Make.j1 k 5 (⟨#[86, 87]⟩ : ByteArray) (n : Int) a0 l1 l2 l3 a4 a5 23 0 = some (23, p, q, [], [], [], 0, []) := by
  intro n hn
  obtain ⟨p, hp, hpp⟩ := places_f l1 h1 n hn (k := 5) (by omega)
  obtain ⟨q, hq, hqq⟩ := places_f l2 h2 n hn (k := 5) (by omega)
  refine ⟨p, q, hpp, hqq, fun k hk => ?_⟩
  obtain ⟨k, rfl⟩ : ∃ k', k = k' + 23 := ⟨k - 23, by omega⟩
  have hp' : ∀ k', 5 ≤ k' → jigsawref06_places.f k' l1 (n : Int) 5 = some p := fun k' h => up (f := fun k => jigsawref06_places.f k l1 (n : Int) 5) (jigsawref06_places.mono _ _ _) hp h
  have hq' : ∀ k', 5 ≤ k' → jigsawref06_places.f k' l2 (n : Int) 5 = some q := fun k' h => up (f := fun k => jigsawref06_places.f k l2 (n : Int) 5) (jigsawref06_places.mono _ _ _) hq h
  rw [jigsawref06_Make.j1, has_f (r := 0) (by decide +kernel) (by omega), obs_, ind_, jigsawref06_Make.j2, hp' _ (by omega), obs_, has_f (r := 0) (by decide +kernel) (by omega), obs_, ind_, jigsawref06_Make.j3, has_f (r := 1) (by decide +kernel) (by omega), obs_, if_pos (by decide), hq' _ (by omega), obs_, jigsawref06_Make.j4, has_f (r := 0) (by decide +kernel) (by omega), obs_, ind_, jigsawref06_Make.j5, ind_, jigsawref06_Make.j6, has_f (r := 0) (by decide +kernel) (by omega), obs_, ind_, jigsawref06_Make.j7, ind_, jigsawref06_Make.j8, ind_, jigsawref06_Make.j11, ind_]
 have key0 : ∀ n : Nat, 1 ≤ n → ∃ (m : Nat) (p q : List Int), 1 ≤ m ∧ m ≤ 4 ∧ Places m p ∧ Places m q ∧ jigsawref06_Make.j0 k 5 (⟨#[86, 87]⟩ : ByteArray) (n : Int) a0 l1 l2 l3 a4 a5 23 0 = some (23, p, q, [], [], [], 0, []) := by
  intro n hn
  obtain ⟨k, rfl⟩ : ∃ k', k = k' + 1 := ⟨k - 1, by omega⟩
  by_cases h4 : n ≤ 4
  ·
   obtain ⟨p, q, hp, hq, e⟩ := key n h4
   exact ⟨n, p, q, hn, h4, hp, hq, by rw [jigsawref06_Make.j0, ino_]; exact e k (by omega)⟩
  ·
   obtain ⟨p, q, hp, hq, e⟩ := key 4 (by decide)
   exact ⟨4, p, q, by decide, by decide, hp, hq, by rw [jigsawref06_Make.j0, ipo_]; exact e k (by omega)⟩
 unfold jigsawref06_Make.f
 rw [hs, obs_, hw, hlen, if_pos (by decide), if_pos (by decide), hvw]
 split
 ·
  exact key0 1 (by decide)
 ·
  exact key0 l1.length (by omega)
def Bytes (l : List Int) : Prop := ∀ x ∈ l, 0 ≤ x ∧ x ≤ 255
theorem case_g0 (kd K : Int) (p q C D E : List Int) (R : List (List Int)) (N : Nat) (hN : p.length + q.length = N) (hn : N ≤ 8) (a0 a4 a5 : Int) (l1 l2 l3 : List Int) (l6 : List (List Int)) : ∀ (m j k : Nat) (ms : List (Fin 2048)), N = j + m → m + 4300 < k → ms.length = j → (∀ c ∈ ms, c.val ≠ 0) →
  ∃ ms' : List (Fin 2048), ms'.length = N ∧ (∀ c ∈ ms', c.val ≠ 0) ∧ jigsawref10_Make.l0 k 6 (ms.map LL) (j : Int) a0 l1 l2 l3 a4 a5 l6 kd p q C D E K R = some (kd, p, q, C, D, E, K, R, ms'.map LL)
 | 0, j, k + 1, ms, e, hk, hl, hs => by
  have hw : wrap64 ((p.length : Int) + (q.length : Int)) = (N : Int) := by rw [wrap_id (by omega) (by omega)]; omega
  refine ⟨ms, by omega, hs, ?_⟩
  rw [jigsawref10_Make.l0, hw, ino_]
 | m + 1, j, k + 1, ms, e, hk, hl, hs => by
  have hw : wrap64 ((p.length : Int) + (q.length : Int)) = (N : Int) := by rw [wrap_id (by omega) (by omega)]; omega
  have step : ∀ c : Fin 2048, c.val ≠ 0 → ∃ ms' : List (Fin 2048), ms'.length = N ∧ (∀ c ∈ ms', c.val ≠ 0) ∧ jigsawref10_Make.l0 k 6 ((ms.map LL) ++ [LL c]) (wrap64 ((j : Int) + 1)) a0 l1 l2 l3 a4 a5 l6 kd p q C D E K R = some (kd, p, q, C, D, E, K, R, ms'.map LL) := by
   intro c hc
   have h := case_g0 kd K p q C D E R N hN hn a0 a4 a5 l1 l2 l3 l6 m (j + 1) k (ms ++ [c]) (by omega) (by omega) (by simp [hl]) (fun x hx => by
    rcases List.mem_append.1 hx with h | h
    ·
     exact hs x h
    ·
     rw [List.mem_singleton] at h; rw [h]; exact hc)
   rw [wsu_]
   rwa [List.map_append] at h
  have hlm : (ms.map LL).length < 5864062014805 := by simp; omega
  rw [jigsawref10_Make.l0, hw, ipo_, obs_]
  have dflt : ∃ c : Fin 2048, c.val ≠ 0 ∧ jigsawref02_Small.f k [Int.tmod (j : Int) 3, 1] 6 6 = some (LL c) := small_f _ (by simp) (by omega)
  by_cases hx : j < l6.length
  ·
   rw [if_pos (nlt hx), ipo_, rdL_at]
   by_cases hz : ((l6.getD j []).length : Int) > 0
   ·
    obtain ⟨c, hc, h⟩ := small_f (l6.getD j []) (by omega) (k := k) (by omega)
    rw [if_pos hz, h, obs_, if_pos hlm]
    exact step c hc
   ·
    obtain ⟨c, hc, h⟩ := dflt
    rw [if_neg hz, h, obs_, if_pos hlm]
    exact step c hc
  ·
   obtain ⟨c, hc, h⟩ := dflt
   rw [if_neg (nge hx), h, obs_, if_pos hlm]
   exact step c hc
theorem case_all (kd : Int) (hkd : 1 ≤ kd ∧ kd ≤ 23) (a0 a4 a5 : Int) (l1 l2 l3 : List Int) (l6 : List (List Int)) (h1 : ∀ x ∈ l1, 0 ≤ x ∧ x ≤ 255) (h2 : ∀ x ∈ l2, 0 ≤ x ∧ x ≤ 255) {k : Nat} (hk : 4400 ≤ k) :
  ∃ (p q C D E : List Int) (K : Int) (R : List (List Int)) (ms : List (Fin 2048)), 1 ≤ p.length ∧ p.length ≤ 4 ∧ q.length ≤ 4 ∧ ms.length = p.length + q.length ∧ (∀ c ∈ ms, c.val ≠ 0) ∧ (kd = 23 → R = [] ∧ C = [] ∧ D = [] ∧ E = []) ∧ jigsawref10_Make.f k a0 l1 l2 l3 a4 a5 l6 kd 6 = some (kd, p, q, C, D, E, K, R, ms.map LL) := by
 have fin : ∀ (p q C D E : List Int) (K : Int) (R : List (List Int)), 1 ≤ p.length → p.length ≤ 4 → q.length ≤ 4 → (kd = 23 → R = [] ∧ C = [] ∧ D = [] ∧ E = []) → jigsawref06_Make.f k ((wrap64 (kd - 1)) % 256) l1 l2 l3 a4 a5 5 = some (kd, p, q, C, D, E, K, R) → ∃ (p q C D E : List Int) (K : Int) (R : List (List Int)) (ms : List (Fin 2048)), 1 ≤ p.length ∧ p.length ≤ 4 ∧ q.length ≤ 4 ∧ ms.length = p.length + q.length ∧ (∀ c ∈ ms, c.val ≠ 0) ∧ (kd = 23 → R = [] ∧ C = [] ∧ D = [] ∧ E = []) ∧ jigsawref10_Make.f k a0 l1 l2 l3 a4 a5 l6 kd 6 = some (kd, p, q, C, D, E, K, R, ms.map LL) := by
  intro p q C D E K R g1 g2 g3 g4 e
  obtain ⟨ms, f1, f2, f3⟩ := case_g0 kd K p q C D E R (p.length + q.length) rfl (by omega) ((wrap64 (kd - 1)) % 256) a4 a5 l1 l2 l3 l6 (p.length + q.length) 0 k [] (by omega) (by omega) rfl (fun c hc => by simp at hc)
  refine ⟨p, q, C, D, E, K, R, ms, g1, g2, g3, f1, f2, g4, ?_⟩
  unfold jigsawref10_Make.f
  rw [e, obs_]
  exact f3
 by_cases h : kd = 23
 ·
  subst h
  obtain ⟨n, p, q, e1, e2, e3, e4, e5⟩ := make_12 l1 l2 l3 a4 a5 h1 h2 (k := k) (by omega)
  exact fin p q [] [] [] 0 [] (by rw [e3.1]; exact e1) (by rw [e3.1]; exact e2) (by rw [e4.1]; exact e2) (fun _ => ⟨rfl, rfl, rfl, rfl⟩) e5
 ·
  obtain ⟨n, m, p, q, e1, e2, e3, e4, e5, C, D, E, K, R, e6⟩ := make_any kd hkd l1 l2 l3 a4 a5 h1 h2 (k := k) (by omega)
  exact fin p q C D E K R (by rw [e4.1]; exact e1) (by rw [e4.1]; exact e2) (by rw [e5.1]; exact e3) (fun h' => absurd h' h) e6
def DZ (m : Fin 2048) : S58 := if m.val = 0 then ⟨0, [], 0, 0, 0⟩ else D m
theorem LL0 {m : Fin 2048} (h : m.val = 0) : LL m = [] := by unfold LL; rw [h]; decide +kernel
theorem dz_of (m : Fin 2048) {k : Nat} (hk : 40 ≤ k) : ∃ e, dom_Of.f k (LL m) = some ((DZ m).f0, (DZ m).f1, (DZ m).f2, (DZ m).f3, (DZ m).f4, e) := by
 unfold DZ
 by_cases h : m.val = 0
 ·
  rw [if_pos h, LL0 h]
  refine ⟨4, up (f := fun k => dom_Of.f k []) (dom_Of.mono []) (k := 10) ?_ (by omega)⟩
  show dom_Of.f 10 [] = _
  decide +kernel
 ·
  rw [if_neg h]
  exact ⟨0, of_one h hk⟩
theorem dz_size (m : Fin 2048) : (DZ m).f4 = 0 ↔ m.val = 0 := by
 unfold DZ
 by_cases h : m.val = 0
 ·
  rw [if_pos h]; exact ⟨fun _ => h, fun _ => rfl⟩
 ·
  rw [if_neg h]; exact ⟨fun h' => absurd h' (size_all m h), fun h' => absurd h' h⟩
theorem domz_l0 (ms : List (Fin 2048)) (hl : ms.length ≤ 100) : ∀ (m j k : Nat), ms.length = j + m → m + 50 < k →
  jigsawlaw22_doms.l0 k ((ms.take j).map DZ) (ms.map LL) (ms.length : Int) (j : Int) = some (ms.map DZ)
 | 0, j, k + 1, e, _ => by
  rw [jigsawlaw22_doms.l0, ino_, List.take_of_length_le (by omega)]
 | m + 1, j, k + 1, e, hk => by
  have hj : j < ms.length := by omega
  obtain ⟨e', he⟩ := dz_of (ms.getD j 0) (k := k) (by omega)
  rw [jigsawlaw22_doms.l0, if_pos (nlt hj), ipo_, if_pos (by rw [List.length_map]; exact nlt hj), rdL_at, getD_map LL ms 0 [] hj, he, obs_, if_pos (by simp; omega), wsu_]
  have h := domz_l0 ms hl m (j + 1) k (by omega) (by omega)
  rw [← take_step ms 0 hj, List.map_append] at h
  exact h
theorem domz_f (ms : List (Fin 2048)) (hl : ms.length ≤ 100) {k : Nat} (hk : 200 ≤ k) : jigsawlaw22_doms.f k (ms.map LL) = some (ms.map DZ) := by
 have h := domz_l0 ms hl ms.length 0 k (by omega) (by omega)
 unfold jigsawlaw22_doms.f
 rw [List.length_map]
 exact h
def Ok23 (A B C D E : List Int) (K : Int) : Prop := K = 0 ∧ 1 ≤ A.length ∧ B.length = A.length ∧ C = [] ∧ D = [] ∧ E = [] ∧ Bytes A ∧ Bytes B
theorem rin_g (l : List Int) (hl : l.length ≤ 100) : ∀ (m j k : Nat), l.length = j + m → m < k → ∃ b : Bool, (b = true ↔ Bytes (l.drop j)) ∧ jigsawref06_in.l0 k l 0 255 (j : Int) = some b
 | 0, j, k + 1, e, _ => ⟨true, ⟨fun _ => by rw [List.drop_eq_nil_of_le (by omega)]; exact fun x hx => absurd hx List.not_mem_nil, fun _ => rfl⟩, by rw [jigsawref06_in.l0, ino_]⟩
 | m + 1, j, k + 1, e, hk => by
  have hj : j < l.length := by omega
  have hd : l.drop j = l.getD j 0 :: l.drop (j + 1) := by rw [getD_lt l 0 hj]; exact List.drop_eq_getElem_cons hj
  obtain ⟨b, hb, hr⟩ := rin_g l hl m (j + 1) k (by omega) (by omega)
  rw [jigsawref06_in.l0, if_pos (nlt hj), ipo_, rd_at, wsu_, hr, hd]
  by_cases h1 : l.getD j 0 < 0
  ·
   exact ⟨false, ⟨fun h => absurd h (by decide), fun h => by have := h _ List.mem_cons_self; omega⟩, by rw [if_pos h1]⟩
  ·
   by_cases h2 : l.getD j 0 > 255
   ·
    exact ⟨false, ⟨fun h => absurd h (by decide), fun h => by have := h _ List.mem_cons_self; omega⟩, by rw [if_neg h1, if_pos h2]⟩
   ·
    refine ⟨b, hb.trans ⟨fun h x hx => ?_, fun h x hx => h x (List.mem_cons_of_mem _ hx)⟩, by rw [if_neg h1, if_neg h2]⟩
    rcases List.mem_cons.1 hx with rfl | hx
    ·
     omega
    ·
     exact h x hx
theorem rin_f (l : List Int) (hl : l.length ≤ 100) {k : Nat} (hk : 200 ≤ k) : ∃ b : Bool, (b = true ↔ Bytes l) ∧ jigsawref06_in.f k l 0 255 = some b := by
 obtain ⟨b, h1, h2⟩ := rin_g l hl l.length 0 k (by omega) (by omega)
 exact ⟨b, h1, h2⟩
theorem in_nil (lo hi : Int) {k : Nat} (hk : 1 ≤ k) : jigsawref06_in.f k [] lo hi = some true := by
 obtain ⟨k, rfl⟩ : ∃ k', k = k' + 1 := ⟨k - 1, by omega⟩
 show jigsawref06_in.l0 (k + 1) [] lo hi 0 = _
 rw [jigsawref06_in.l0, ind_]
theorem len0 {l : List Int} : (l.length : Int) = 0 ↔ l = [] := by rw [← List.length_eq_zero_iff]; omega
theorem no_ {P : Prop} (h : ¬ P) : ((false = true) ↔ P) := ⟨fun h' => absurd h' (by decide), fun h' => absurd h' h⟩
theorem j1_no (s : ByteArray) (a b : Int) (A B C D E : List Int) (K : Int) {k : Nat} (hk : 1 ≤ k) : jigsawref06_Arity.j1 k s a b true 23 A B C D E K [] = some false := by
 obtain ⟨k, rfl⟩ : ∃ k', k = k' + 1 := ⟨k - 1, by omega⟩
 rw [jigsawref06_Arity.j1, if_pos rfl]
theorem lst1 {n : Nat} (h : n ≤ 5) (o : Int) : jigsawref06_list.f (n : Int) o 1 = some (decide (1 ≤ n)) := by
 unfold jigsawref06_list.f
 rw [if_pos (by decide)]
 by_cases c : 1 ≤ n
 ·
  rw [ipo_, decide_eq_true c, decide_eq_true (by omega)]
 ·
  rw [ino_, decide_eq_false c]
theorem lst0 (n : Int) : jigsawref06_list.f n 0 0 = some (n == 0) := by
 unfold jigsawref06_list.f
 rw [ind_]
theorem rarity_g (A B C D E : List Int) (K : Int) (hA : A.length ≤ 5) (hB : B.length ≤ 5) {k : Nat} (hk : 30 ≤ k) : ∃ b : Bool, (b = true ↔ K = 0 ∧ 1 ≤ A.length ∧ B.length = A.length ∧ C = [] ∧ D = [] ∧ E = []) ∧ jigsawref06_Arity.f k 23 A B C D E K [] (⟨#[86, 87]⟩ : ByteArray) = some b := by
 obtain ⟨k, rfl⟩ : ∃ k', k = k' + 4 := ⟨k - 4, by omega⟩
 unfold jigsawref06_Arity.f
 by_cases hK : K = 0
 ·
  rw [if_pos hK, jigsawref06_Arity.j0, ind_, ind_, has_f (r := 0) (by decide +kernel) (by omega), obs_, has_f (r := 1) (by decide +kernel) (by omega), obs_, lst1 hA, obs_, has_f (r := 0) (by decide +kernel) (by omega), obs_, has_f (r := 1) (by decide +kernel) (by omega), obs_, lst1 hB, obs_, has_f (r := 0) (by decide +kernel) (by omega), obs_, lst0, obs_, has_f (r := 0) (by decide +kernel) (by omega), obs_, lst0, obs_, has_f (r := 0) (by decide +kernel) (by omega), obs_, lst0, obs_]
  by_cases c1 : 1 ≤ A.length
  ·
   rw [if_pos (decide_eq_true c1)]
   by_cases c2 : 1 ≤ B.length
   ·
    rw [if_pos (decide_eq_true c2)]
    by_cases c3 : (C.length : Int) = 0
    ·
     rw [if_pos (by rw [c3]; rfl)]
     by_cases c4 : (D.length : Int) = 0
     ·
      rw [if_pos (by rw [c4]; rfl)]
      by_cases c5 : (E.length : Int) = 0
      ·
       rw [c5, jigsawref06_Arity.j1, ind_, has_f (r := 0) (by decide +kernel) (by omega), obs_, if_pos rfl, ind_, obs_, ind_, ind_, ind_, ind_, if_pos (by decide), jigsawref06_Arity.j2]
       by_cases c6 : B.length = A.length
       ·
        refine ⟨true, ⟨fun _ => ⟨hK, c1, c6, len0.1 c3, len0.1 c4, len0.1 c5⟩, fun _ => rfl⟩, ?_⟩
        rw [if_neg (by rw [bne_iff_ne]; omega), jigsawref06_Arity.l0, ind_]
       ·
        exact ⟨false, no_ (fun h => c6 h.2.2.1), by rw [if_pos (by rw [bne_iff_ne]; omega)]⟩
      ·
       exact ⟨false, no_ (fun h => c5 (len0.2 h.2.2.2.2.2)), by rw [show ((E.length : Int) == 0) = false from beq_eq_false_iff_ne.2 c5]; exact j1_no _ _ _ _ _ _ _ _ _ (by omega)⟩
     ·
      exact ⟨false, no_ (fun h => c4 (len0.2 h.2.2.2.2.1)), by rw [if_neg (by rw [beq_iff_eq]; exact c4)]; exact j1_no _ _ _ _ _ _ _ _ _ (by omega)⟩
    ·
     exact ⟨false, no_ (fun h => c3 (len0.2 h.2.2.2.1)), by rw [if_neg (by rw [beq_iff_eq]; exact c3)]; exact j1_no _ _ _ _ _ _ _ _ _ (by omega)⟩
   ·
    exact ⟨false, no_ (fun h => by have := h.2.1; have := h.2.2.1; omega), by rw [if_neg (by simpa using c2)]; exact j1_no _ _ _ _ _ _ _ _ _ (by omega)⟩
  ·
   exact ⟨false, no_ (fun h => c1 h.2.1), by rw [if_neg (by simpa using c1)]; exact j1_no _ _ _ _ _ _ _ _ _ (by omega)⟩
 ·
  rw [if_neg hK, has_f (r := 0) (by decide +kernel) (by omega), obs_, jigsawref06_Arity.j0, if_pos (by decide)]
  exact ⟨false, no_ (fun h => hK h.1), rfl⟩
theorem rright_g (A B C D E : List Int) (K : Int) (hA : A.length ≤ 5) (hB : B.length ≤ 5) {k : Nat} (hk : 300 ≤ k) : ∃ e : Int, (e = 0 ↔ Ok23 A B C D E K) ∧ jigsawref06_Right.f k 23 A B C D E K [] 256 = some e := by
 have hs : jigsawref06_Shapes.f = some ((jigsawref06_Shapes.f).getD []) := by rfl
 have hlen : ((jigsawref06_Shapes.f).getD []).length = 24 := by decide +kernel
 have hvw : rdOf ByteArray.empty ((jigsawref06_Shapes.f).getD []) 23 = (⟨#[86, 87]⟩ : ByteArray) := by rfl
 have e5 : wrap64 (256 - 1) = 255 := by decide +kernel
 obtain ⟨b, hb, ha⟩ := rarity_g A B C D E K hA hB (k := k) (by omega)
 obtain ⟨x, hx, hxr⟩ := rin_f A (by omega) (k := k) (by omega)
 obtain ⟨y, hy, hyr⟩ := rin_f B (by omega) (k := k) (by omega)
 unfold jigsawref06_Right.f
 rw [ind_, ind_, hs, obs_, hlen, if_pos (by decide), if_pos (by decide), hvw, ha, obs_]
 cases b with
 | false =>
  refine ⟨10, ⟨fun h => absurd h (by decide), fun h => ?_⟩, by rw [ind_]⟩
  have := hb.2 ⟨h.1, h.2.1, h.2.2.1, h.2.2.2.1, h.2.2.2.2.1, h.2.2.2.2.2.1⟩
  cases this
 | true =>
  obtain ⟨rfl, h1, h2, rfl, rfl, rfl⟩ := hb.1 rfl
  rw [if_pos rfl, if_pos (by decide), e5, hxr, obs_, hyr, obs_]
  obtain ⟨k, rfl⟩ : ∃ k', k = k' + 1 := ⟨k - 1, by omega⟩
  have hc : jigsawref06_Coefs.f k 23 A B [] [] [] 0 [] = some true := by
   obtain ⟨k, rfl⟩ : ∃ k', k = k' + 2 := ⟨k - 2, by omega⟩
   unfold jigsawref06_Coefs.f
   rw [ind_, ind_, in_nil _ _ (by omega), obs_, obs_, obs_, if_pos rfl, if_pos rfl, if_pos rfl, ind_, ind_, jigsawref06_Coefs.l0, ind_, jigsawref06_Coefs.l1, ind_]
  cases x with
  | false => exact ⟨7, ⟨fun h => absurd h (by decide), fun h => absurd (hx.2 h.2.2.2.2.2.2.1) (by decide)⟩, by rw [ind_, jigsawref06_Right.j0, if_pos rfl]⟩
  | true =>
   cases y with
   | false => exact ⟨7, ⟨fun h => absurd h (by decide), fun h => absurd (hy.2 h.2.2.2.2.2.2.2) (by decide)⟩, by rw [if_pos rfl, jigsawref06_Right.j0, if_pos (show (!false) = true from rfl)]⟩
   | true => exact ⟨0, ⟨fun _ => ⟨rfl, h1, h2, rfl, rfl, rfl, hx.1 rfl, hy.1 rfl⟩, fun _ => rfl⟩, by rw [if_pos rfl, jigsawref06_Right.j0, ind_, hc, obs_, if_pos rfl]⟩
theorem idx_right_g (l : List Int) (hl : l.length ≤ 100) : ∀ (m j k : Nat), l.length = j + m → m < k → ∃ i : Int, (i < 0 ↔ Bytes (l.drop j)) ∧ slices_IndexFunc_int_int_84_at_model_Right_1.l0 k l (l.length : Int) (j : Int) 256 = some i
 | 0, j, k + 1, e, _ => ⟨-1, ⟨fun _ => by rw [List.drop_eq_nil_of_le (by omega)]; exact fun x hx => absurd hx List.not_mem_nil, fun _ => by decide⟩, by rw [slices_IndexFunc_int_int_84_at_model_Right_1.l0, ino_]⟩
 | m + 1, j, k + 1, e, hk => by
  have hj : j < l.length := by omega
  have hd : l.drop j = l.getD j 0 :: l.drop (j + 1) := by rw [getD_lt l 0 hj]; exact List.drop_eq_getElem_cons hj
  obtain ⟨b, hb, hr⟩ := idx_right_g l hl m (j + 1) k (by omega) (by omega)
  rw [slices_IndexFunc_int_int_84_at_model_Right_1.l0, if_pos (nlt hj), ipo_, if_pos (nlt hj), rd_at, wsu_, hr, hd]
  unfold model_Right_1.f
  by_cases h1 : l.getD j 0 < 0
  ·
   exact ⟨j, ⟨fun h => absurd h (by omega), fun h => by have := h _ List.mem_cons_self; omega⟩, by rw [if_pos h1, obs_, if_pos rfl]⟩
  ·
   by_cases h2 : l.getD j 0 ≥ 256
   ·
    exact ⟨j, ⟨fun h => absurd h (by omega), fun h => by have := h _ List.mem_cons_self; omega⟩, by rw [if_neg h1, obs_, if_pos (decide_eq_true h2)]⟩
   ·
    refine ⟨b, hb.trans ⟨fun h x hx => ?_, fun h x hx => h x (List.mem_cons_of_mem _ hx)⟩, by rw [if_neg h1, obs_, if_neg (by simpa using h2)]⟩
    rcases List.mem_cons.1 hx with rfl | hx
    ·
     omega
    ·
     exact h x hx
theorem vars_g (kd : Int) (A B : List Int) (C D E : List Int) (K : Int) (hA : A.length ≤ 5) (hB : B.length ≤ 5) {k : Nat} (hk : 20 ≤ k) : model_Vars.f k kd A B C D E K [] = some (A ++ B) := by
 obtain ⟨k, rfl⟩ : ∃ k', k = k' + 6 := ⟨k - 6, by omega⟩
 have r0 : rd_L7 [A, B] 0 = A := rfl
 have r1 : rd_L7 [A, B] 1 = B := rfl
 have e1 : wrap64 (0 + (A.length : Int)) = (A.length : Int) := by rw [wrap_id (by omega) (by omega)]; omega
 have e2 : wrap64 ((A.length : Int) + (B.length : Int)) = (A.length : Int) + B.length := wrap_id (by omega) (by omega)
 have w1 : wrap64 (0 + 1) = 1 := by decide +kernel
 have w2 : wrap64 (1 + 1) = 2 := by decide +kernel
 have hlen : (([A, B] : List (List Int)).length : Int) = 2 := rfl
 unfold model_Vars.f slices_Concat_int_int.f
 rw [hlen, slices_Concat_int_int.l0, if_pos (by decide), if_pos (by decide), hlen, if_pos (by decide), r0, e1, ino_, w1, slices_Concat_int_int.l0, if_pos (by decide), if_pos (by decide), hlen, if_pos (by decide), r1, e2, ino_, w2, slices_Concat_int_int.l0, ind_]
 have hg : slices_GrowNil.f ((A.length : Int) + B.length) = some [] := by unfold slices_GrowNil.f; rw [if_pos ⟨by omega, by omega⟩]
 rw [hg, obs_, hlen, slices_Concat_int_int.l1, if_pos (by decide), if_pos (by decide), hlen, if_pos (by decide), r0, if_pos (by simp; omega), w1, slices_Concat_int_int.l1, if_pos (by decide), if_pos (by decide), hlen, if_pos (by decide), r1, if_pos (by simp; omega), w2, slices_Concat_int_int.l1, ind_, obs_]
 simp
theorem bounded_f {a : Int} {k : Nat} (hk : 5 ≤ k) : model_bounded.f k [] a = some true := by
 obtain ⟨k, rfl⟩ : ∃ k', k = k' + 1 := ⟨k - 1, by omega⟩
 unfold model_bounded.f slices_ContainsFunc_int_int_60_at_model_bounded_1.f slices_IndexFunc_int_int_84_at_model_bounded_1.f
 rw [slices_IndexFunc_int_int_84_at_model_bounded_1.l0, ind_, obs_, obs_]
 rfl
theorem nam1 {n : Nat} (h : n ≤ 5) {c d : UInt8} (hc : strings_Contains.f (⟨#[86, 87]⟩ : ByteArray) ⟨#[d]⟩ = some true) : model_named.f (n : Int) (⟨#[86, 87]⟩ : ByteArray) ⟨#[c]⟩ ⟨#[d]⟩ = some (decide (1 ≤ n)) := by
 unfold model_named.f model_within.f
 rw [hc, obs_, if_pos rfl]
 by_cases c : 1 ≤ n
 ·
  rw [ipo_, decide_eq_true c, obs_, decide_eq_true (by omega)]
 ·
  rw [ino_, decide_eq_false c, obs_]
theorem nam0 {n : Int} {c d : UInt8} (hc : strings_Contains.f (⟨#[86, 87]⟩ : ByteArray) ⟨#[d]⟩ = some false) (h : strings_Count.f (⟨#[86, 87]⟩ : ByteArray) ⟨#[c]⟩ = some 0) : model_named.f n (⟨#[86, 87]⟩ : ByteArray) ⟨#[c]⟩ ⟨#[d]⟩ = some (n == 0) := by
 unfold model_named.f
 rw [hc, obs_, ind_, h, obs_]
theorem mcounted_g (A B C D E : List Int) (K : Int) (hA : A.length ≤ 5) (hB : B.length ≤ 5) : ∃ b : Bool, (b = true ↔ 1 ≤ A.length ∧ 1 ≤ B.length ∧ C = [] ∧ D = [] ∧ E = []) ∧ model_counted.f 23 A B C D E K [] (⟨#[86, 87]⟩ : ByteArray) = some b := by
 have ne : ∀ x : Int, ¬ x = 0 → ¬ (x == 0) = true := fun x h => by rw [beq_iff_eq]; exact h
 unfold model_counted.f
 rw [ind_, show strings_Contains.f (⟨#[86, 87]⟩ : ByteArray) ⟨#[114]⟩ = some false by decide +kernel, obs_, ind_, if_pos (by decide), nam1 hA (by decide +kernel), obs_]
 by_cases c1 : 1 ≤ A.length
 ·
  rw [if_pos (decide_eq_true c1), nam1 hB (by decide +kernel), obs_]
  by_cases c2 : 1 ≤ B.length
  ·
   rw [if_pos (decide_eq_true c2), nam0 (by decide +kernel) (by decide +kernel), obs_]
   by_cases c3 : (C.length : Int) = 0
   ·
    rw [if_pos (by rw [c3]; rfl), nam0 (by decide +kernel) (by decide +kernel), obs_]
    by_cases c4 : (D.length : Int) = 0
    ·
     rw [if_pos (by rw [c4]; rfl), nam0 (by decide +kernel) (by decide +kernel), obs_]
     refine ⟨_, ?_, rfl⟩
     rw [beq_iff_eq]
     exact ⟨fun h => ⟨c1, c2, len0.1 c3, len0.1 c4, len0.1 h⟩, fun h => len0.2 h.2.2.2.2⟩
    ·
     exact ⟨false, no_ (fun h => c4 (len0.2 h.2.2.2.1)), by rw [if_neg (ne _ c4)]⟩
   ·
    exact ⟨false, no_ (fun h => c3 (len0.2 h.2.2.1)), by rw [if_neg (ne _ c3)]⟩
  ·
   exact ⟨false, no_ (fun h => c2 h.2.1), by rw [if_neg (by simpa using c2)]⟩
 ·
  exact ⟨false, no_ (fun h => c1 h.1), by rw [if_neg (by simpa using c1)]⟩
theorem mright_g (A B C D E : List Int) (K : Int) (hA : A.length ≤ 5) (hB : B.length ≤ 5) {k : Nat} (hk : 300 ≤ k) : ∃ e : Int, (e = 0 ↔ Ok23 A B C D E K) ∧ model_Right.f k 23 A B C D E K [] 256 = some e := by
 obtain ⟨k, rfl⟩ : ∃ k', k = k' + 1 := ⟨k - 1, by omega⟩
 have hs : model_Shape.f 23 = some (⟨#[86, 87]⟩ : ByteArray) := by decide +kernel
 have hw : wrap64 ((A.length : Int) + (B.length : Int)) = (A.length : Int) + B.length := wrap_id (by omega) (by omega)
 have hct : strings_Contains.f (⟨#[86, 87]⟩ : ByteArray) (⟨#[107]⟩ : ByteArray) = some false := by decide +kernel
 have ha : model_alike.f 23 A B C D E K [] = some ((B.length : Int) == (A.length : Int)) := by
  unfold model_alike.f
  rw [ind_, ind_, ind_, ind_, ind_, ind_, ind_, if_pos rfl]
 obtain ⟨b, hb, hcr⟩ := mcounted_g A B C D E K hA hB
 unfold model_Right.f
 rw [hs, obs_, if_neg (by decide +kernel), hcr, obs_]
 cases b with
 | false =>
  refine ⟨10, ⟨fun h => absurd h (by decide), fun h => ?_⟩, by rw [ind_, model_Right.j0, if_pos rfl]⟩
  have := hb.2 ⟨h.2.1, by rw [h.2.2.1]; exact h.2.1, h.2.2.2.1, h.2.2.2.2.1, h.2.2.2.2.2.1⟩
  cases this
 | true =>
  obtain ⟨h1, _, rfl, rfl, rfl⟩ := hb.1 rfl
  rw [if_pos rfl, ha, obs_]
  by_cases h2 : B.length = A.length
  case neg =>
   rw [if_neg (by rw [beq_iff_eq]; omega)]
   exact ⟨10, ⟨fun h => absurd h (by decide), fun h => absurd h.2.2.1 h2⟩, by rw [model_Right.j0, if_pos rfl]⟩
  rw [if_pos (by rw [beq_iff_eq]; omega)]
  by_cases hK : K = 0
  ·
   subst hK
   rw [if_pos rfl, model_Right.j0, ind_, vars_g 23 A B [] [] [] 0 hA hB (by omega), obs_]
   obtain ⟨i, hi, hir⟩ := idx_right_g (A ++ B) (by simp; omega) (A ++ B).length 0 k (by omega) (by simp; omega)
   have hir' : slices_IndexFunc_int_int_84_at_model_Right_1.l0 k (A ++ B) ((A ++ B).length : Int) 0 256 = some i := hir
   have hco : slices_ContainsFunc_int_int_60_at_model_Right_1.f k (A ++ B) 256 = some (decide (i ≥ 0)) := by
    unfold slices_ContainsFunc_int_int_60_at_model_Right_1.f slices_IndexFunc_int_int_84_at_model_Right_1.f
    rw [hir', obs_]
   have hby : Bytes (A ++ B) ↔ Bytes A ∧ Bytes B := ⟨fun h => ⟨fun x hx => h x (List.mem_append_left _ hx), fun x hx => h x (List.mem_append_right _ hx)⟩, fun h x hx => by rcases List.mem_append.1 hx with h' | h'; exact h.1 x h'; exact h.2 x h'⟩
   rw [List.drop_zero, hby] at hi
   have hnum : model_numbers.f k 23 A B [] [] [] 0 [] = some true := by
    obtain ⟨k, rfl⟩ : ∃ k', k = k' + 1 := ⟨k - 1, by omega⟩
    unfold model_numbers.f
    rw [ind_, ind_, model_numbers.l0, ind_, bounded_f (by omega), obs_, if_pos rfl, obs_, if_pos rfl, obs_, if_pos rfl, if_pos (by decide)]
    rfl
   have hcn : model_counts.f 23 A B [] [] [] 0 [] = some true := by unfold model_counts.f; rw [ind_]
   rw [hco, obs_]
   by_cases h4 : i ≥ 0
   ·
    exact ⟨7, ⟨fun h => absurd h (by decide), fun h => by have := hi.2 ⟨h.2.2.2.2.2.2.1, h.2.2.2.2.2.2.2⟩; omega⟩, by rw [if_pos (decide_eq_true h4)]⟩
   ·
    have h3 := hi.1 (by omega)
    exact ⟨0, ⟨fun _ => ⟨rfl, h1, h2, rfl, rfl, rfl, h3.1, h3.2⟩, fun _ => rfl⟩, by rw [if_neg (by simpa using h4), hnum, obs_, if_pos rfl, hcn, obs_, if_pos rfl]⟩
  ·
   rw [if_neg hK, hct, obs_, model_Right.j0, if_pos (by decide)]
   exact ⟨10, ⟨fun h => absurd h (by decide), fun h => absurd h.1 hK⟩, rfl⟩
def OkAll (kd : Int) (A B C D' E : List Int) (K : Int) (ms : List (Fin 2048)) : Prop := kd = 23 ∧ Ok23 A B C D' E K ∧ ms.length = A.length + B.length ∧ ∀ c ∈ ms, c.val ≠ 0
theorem idx_fits_g (ms : List (Fin 2048)) (hl : ms.length ≤ 100) : ∀ (m j k : Nat), ms.length = j + m → m < k → ∃ i : Int, (i < 0 ↔ ∀ c ∈ ms.drop j, c.val ≠ 0) ∧ dom_Dom_75_at_prop_Fits_1.l0 k (ms.map DZ) (ms.length : Int) (j : Int) = some i
 | 0, j, k + 1, e, _ => ⟨-1, ⟨fun _ => by rw [List.drop_eq_nil_of_le (by omega)]; exact fun x hx => absurd hx List.not_mem_nil, fun _ => by decide⟩, by rw [dom_Dom_75_at_prop_Fits_1.l0, ino_]⟩
 | m + 1, j, k + 1, e, hk => by
  have hj : j < ms.length := by omega
  have hd : ms.drop j = ms.getD j 0 :: ms.drop (j + 1) := by rw [getD_lt ms 0 hj]; exact List.drop_eq_getElem_cons hj
  obtain ⟨b, hb, hr⟩ := idx_fits_g ms hl m (j + 1) k (by omega) (by omega)
  have hf : prop_Fits_1.f (DZ (ms.getD j 0)).f0 (DZ (ms.getD j 0)).f1 (DZ (ms.getD j 0)).f2 (DZ (ms.getD j 0)).f3 (DZ (ms.getD j 0)).f4 = some ((DZ (ms.getD j 0)).f4 == 0) := rfl
  rw [dom_Dom_75_at_prop_Fits_1.l0, if_pos (nlt hj), ipo_, if_pos (by rw [List.length_map]; exact nlt hj), rdD_at, getD_map DZ ms 0 z58 hj, hf, obs_, wsu_, hr, hd]
  by_cases h : (ms.getD j 0).val = 0
  ·
   exact ⟨j, ⟨fun h' => absurd h' (by omega), fun h' => absurd h (h' _ List.mem_cons_self)⟩, by rw [if_pos (beq_iff_eq.2 ((dz_size _).2 h))]⟩
  ·
   refine ⟨b, hb.trans ⟨fun h' x hx => ?_, fun h' x hx => h' x (List.mem_cons_of_mem _ hx)⟩, by rw [if_neg (by rw [beq_iff_eq, dz_size]; exact h)]⟩
   rcases List.mem_cons.1 hx with rfl | hx
   ·
    exact h
   ·
    exact h' x hx
theorem fits_g (kd : Int) (A B C D' E : List Int) (K : Int) (R : List (List Int)) (hR : kd = 23 → R = []) (hA : A.length ≤ 5) (hB : B.length ≤ 5) (ms : List (Fin 2048)) (hl : ms.length ≤ 20) {k : Nat} (hk : 400 ≤ k) :
  ∃ b : Bool, (b = true ↔ OkAll kd A B C D' E K ms) ∧ prop_Fits.f k kd A B C D' E K R (ms.map DZ) 23 23 = some b := by
 obtain ⟨i, hi, hir⟩ := idx_fits_g ms (by omega) ms.length 0 k (by omega) (by omega)
 rw [List.drop_zero] at hi
 have hir' : dom_Dom_75_at_prop_Fits_1.l0 k (ms.map DZ) (((ms.map DZ).length : Nat) : Int) 0 = some i := by rw [List.length_map]; exact hir
 have hco : dom_Dom_56_at_prop_Fits_1.f k (ms.map DZ) = some (decide (i ≥ 0)) := by
  unfold dom_Dom_56_at_prop_Fits_1.f dom_Dom_75_at_prop_Fits_1.f
  rw [hir', obs_]
 have hw : wrap64 ((A.length : Int) + (B.length : Int)) = (A.length : Int) + B.length := wrap_id (by omega) (by omega)
 unfold prop_Fits.f
 rw [hco, obs_]
 by_cases h1 : kd = 23
 ·
  subst h1
  obtain rfl := hR rfl
  obtain ⟨e, he, her⟩ := mright_g A B C D' E K hA hB (k := k) (by omega)
  rw [if_pos (by decide), if_pos (by decide), her, obs_, hw, List.length_map]
  by_cases h2 : e = 0
  ·
   rw [if_pos h2]
   by_cases h3 : (ms.length : Int) = (A.length : Int) + B.length
   ·
    rw [if_pos h3]
    refine ⟨_, ?_, rfl⟩
    constructor
    ·
     intro h
     have : ¬ i ≥ 0 := by simpa using h
     exact ⟨rfl, he.1 h2, by omega, hi.1 (by omega)⟩
    ·
     rintro ⟨_, _, _, h⟩
     have := hi.2 h
     simp; omega
   ·
    rw [if_neg h3]
    exact ⟨false, ⟨fun h => absurd h (by decide), fun h => absurd h.2.2.1 (by omega)⟩, rfl⟩
  ·
   rw [if_neg h2]
   exact ⟨false, ⟨fun h => absurd h (by decide), fun h => absurd (he.2 h.2.1) h2⟩, rfl⟩
 ·
  refine ⟨false, ⟨fun h => absurd h (by decide), fun h => absurd h.1 h1⟩, ?_⟩
  by_cases h2 : kd ≥ 23
  ·
   rw [if_pos h2, ino_]
  ·
   rw [if_neg h2]
theorem rfits_g0 (ms : List (Fin 2048)) (hl : ms.length ≤ 100) : ∀ (m j k : Nat), ms.length = j + m → m < k → ∃ b : Bool, (b = true ↔ ∀ c ∈ ms.drop j, c.val ≠ 0) ∧ jigsawref10_Fits.l0 k (ms.map LL) (j : Int) = some b
 | 0, j, k + 1, e, _ => ⟨true, ⟨fun _ => by rw [List.drop_eq_nil_of_le (by omega)]; exact fun x hx => absurd hx List.not_mem_nil, fun _ => rfl⟩, by rw [jigsawref10_Fits.l0, List.length_map, ino_]⟩
 | m + 1, j, k + 1, e, hk => by
  have hj : j < ms.length := by omega
  have hd : ms.drop j = ms.getD j 0 :: ms.drop (j + 1) := by rw [getD_lt ms 0 hj]; exact List.drop_eq_getElem_cons hj
  obtain ⟨b, hb, hr⟩ := rfits_g0 ms hl m (j + 1) k (by omega) (by omega)
  rw [jigsawref10_Fits.l0, List.length_map, if_pos (nlt hj), ipo_, rdL_at, getD_map LL ms 0 [] hj, wsu_, hr, hd]
  by_cases h : (ms.getD j 0).val = 0
  ·
   exact ⟨false, ⟨fun h' => absurd h' (by decide), fun h' => absurd h (h' _ List.mem_cons_self)⟩, by rw [if_pos (by rw [LL0 h]; rfl)]⟩
  ·
   refine ⟨b, hb.trans ⟨fun h' x hx => ?_, fun h' x hx => h' x (List.mem_cons_of_mem _ hx)⟩, by rw [if_neg (by have := ne_all _ h; omega)]⟩
   rcases List.mem_cons.1 hx with rfl | hx
   ·
    exact h
   ·
    exact h' x hx
theorem rfits_g (kd : Int) (A B C D' E : List Int) (K : Int) (R : List (List Int)) (hR : kd = 23 → R = []) (hA : A.length ≤ 5) (hB : B.length ≤ 5) (ms : List (Fin 2048)) (hl : ms.length ≤ 20) {k : Nat} (hk : 400 ≤ k) :
  ∃ b : Bool, (b = true ↔ OkAll kd A B C D' E K ms) ∧ jigsawref10_Fits.f k kd A B C D' E K R (ms.map LL) 23 23 = some b := by
 obtain ⟨k, rfl⟩ : ∃ k', k = k' + 1 := ⟨k - 1, by omega⟩
 have hw : wrap64 ((A.length : Int) + (B.length : Int)) = (A.length : Int) + B.length := wrap_id (by omega) (by omega)
 unfold jigsawref10_Fits.f
 by_cases h1 : kd = 23
 ·
  subst h1
  obtain rfl := hR rfl
  obtain ⟨e, he, her⟩ := rright_g A B C D' E K hA hB (k := k) (by omega)
  obtain ⟨b, hb, hbr⟩ := rfits_g0 ms (by omega) ms.length 0 k (by omega) (by omega)
  rw [List.drop_zero] at hb
  have hbr' : jigsawref10_Fits.l0 k (ms.map LL) 0 = some b := hbr
  rw [ind_, ind_, jigsawref10_Fits.j0, hw, List.length_map]
  by_cases h3 : (ms.length : Int) = (A.length : Int) + B.length
  ·
   rw [if_neg (by rw [bne_iff_ne]; exact fun h => h h3), her, obs_]
   by_cases h2 : e = 0
   ·
    rw [if_pos h2, hbr']
    exact ⟨b, hb.trans ⟨fun h => ⟨rfl, he.1 h2, by omega, h⟩, fun h => h.2.2.2⟩, rfl⟩
   ·
    rw [if_neg h2]
    exact ⟨false, ⟨fun h => absurd h (by decide), fun h => absurd (he.2 h.2.1) h2⟩, rfl⟩
  ·
   rw [if_pos (by rw [bne_iff_ne]; exact h3)]
   exact ⟨false, ⟨fun h => absurd h (by decide), fun h => absurd h.2.2.1 (by omega)⟩, rfl⟩
 ·
  refine ⟨false, ⟨fun h => absurd h (by decide), fun h => absurd h.1 h1⟩, ?_⟩
  by_cases h2 : kd < 23
  ·
   rw [if_pos h2, jigsawref10_Fits.j0, if_pos rfl]
  ·
   rw [if_neg h2, ipo_, jigsawref10_Fits.j0, if_pos rfl]
theorem prog_len (n : Nat) (hn : n ≤ 4) : ∀ (r : Nat) (A B : List (Fin 2048)) (k : Nat), A.length = n → B.length = n → weight A + weight B ≤ r → r + 1010 < k →
  ∃ (C : List (Fin 2048)) (b : Bool), inverse_Filter.l0 k (A.map D) (B.map D) = some (if b = true then C.map D else [], b) ∧ (b = true → C.length = 2 * n) := by
 intro r
 induction r using Nat.strongRecOn with
 | _ r ih =>
  intro A B k hA hB hw hk
  obtain ⟨k, rfl⟩ : ∃ k', k = k' + 1 := ⟨k - 1, by omega⟩
  have hp : (side A B).length = n := by rw [side_len]; exact hA
  have hq : (side B (side A B)).length = n := by rw [side_len]; exact hB
  rcases prog_round n hn A B hA hB (k := k) (by omega) with ⟨_, e⟩ | ⟨_, e⟩
  ·
   exact ⟨[], false, e, fun h => (by cases h)⟩
  ·
   by_cases c : side A B = A ∧ side B (side A B) = B
   ·
    rw [if_pos c] at e
    exact ⟨side A B ++ side B (side A B), true, e, fun _ => by rw [List.length_append, hp, hq]; omega⟩
   ·
    rw [if_neg c] at e
    obtain ⟨a1, a2⟩ := side_weight A B
    obtain ⟨b1, b2⟩ := side_weight B (side A B)
    have hlt : weight (side A B) + weight (side B (side A B)) < weight A + weight B := by
     by_cases c1 : side A B = A
     ·
      have := b2 (fun h => c ⟨c1, h⟩)
      omega
     ·
      have := a2 c1
      omega
    obtain ⟨C, b, e1, e2⟩ := ih (weight (side A B) + weight (side B (side A B))) (by omega) (side A B) (side B (side A B)) k hp hq (Nat.le_refl _) (by omega)
    exact ⟨C, b, e.trans e1, e2⟩
theorem filter_g (A B C D' E : List Int) (K : Int) (hok : Ok23 A B C D' E K) (ms : List (Fin 2048)) (hl : ms.length = A.length + B.length) (h9 : ms.length ≤ 9) {k : Nat} (hk : 2000 ≤ k) (hf : prop_Fits.f k 23 A B C D' E K [] (ms.map D) 23 23 = some true) :
  ∃ r, inverse_Filter.f k 23 A B C D' E K [] (ms.map D) = some r ∧ (r.2 = true → r.1.length = ms.length) := by
 have hAB : A.length = B.length := hok.2.2.1.symm
 have h1 := hok.2.1
 have hA : (ms.take A.length).length = A.length := by rw [List.length_take]; omega
 have hB : (ms.drop A.length).length = A.length := by rw [List.length_drop]; omega
 have hweight : ∀ l : List (Fin 2048), weight l ≤ 11 * l.length := by
  intro l
  induction l with
  | nil => exact Nat.le_refl _
  | cons x l ih =>
   have h11 := (len_all x).1
   have e : weight (x :: l) = (LL x).length + weight l := by simp [weight]
   rw [e, List.length_cons]; omega
 have wA := hweight (ms.take A.length)
 have wB := hweight (ms.drop A.length)
 obtain ⟨C', b, e1, e2⟩ := prog_len A.length (by omega) 100 (ms.take A.length) (ms.drop A.length) k hA hB (by omega) (by omega)
 refine ⟨(if b = true then C'.map D else [], b), ?_, fun hb => ?_⟩
 ·
  unfold inverse_Filter.f slices_CloneDom.f
  rw [hf, obs_, if_pos rfl, if_pos (by rw [List.length_map]; omega), obs_, ipo_, if_pos (by rw [List.length_map]; omega), if_pos (by rw [List.length_map]; omega), Int.toNat_natCast, ← List.map_take, ← List.map_drop]
  exact e1
 ·
  replace hb : b = true := hb
  show (if b = true then C'.map D else []).length = _
  rw [if_pos hb, List.length_map, e2 hb]; omega
theorem both (kd : Int) (A B C D' E : List Int) (K : Int) (R : List (List Int)) (hR : 23 ≤ kd ∧ kd ≤ 23 → R = []) (hA : A.length ≤ 5) (hB : B.length ≤ 5) (ms : List (Fin 2048)) (hl : ms.length ≤ 9) {k : Nat} (hk : 2000 ≤ k) :
  ∃ (r : List S58 × Bool) (t : Bool), inverse_Filter.f k kd A B C D' E K R (ms.map DZ) = some r ∧ jigsawref10_Fits.f k kd A B C D' E K R (ms.map LL) 23 23 = some t ∧ (t = true → r.2 = true → r.1.length = ms.length) ∧ (t = false → r = ([], false)) := by
 obtain ⟨b, hb, hbr⟩ := fits_g kd A B C D' E K R (fun h => hR (by omega)) hA hB ms (by omega) (k := k) (by omega)
 obtain ⟨t, ht, htr⟩ := rfits_g kd A B C D' E K R (fun h => hR (by omega)) hA hB ms (by omega) (k := k) (by omega)
 have hbt : b = t := by rw [Bool.eq_iff_iff, hb, ht]
 subst hbt
 cases b with
 | false => exact ⟨([], false), false, by unfold inverse_Filter.f; rw [hbr, obs_, ind_], htr, fun h => absurd h (by decide), fun _ => rfl⟩
 | true =>
  obtain ⟨rfl, hok, h3, h4⟩ := hb.1 rfl
  obtain rfl := hR (by decide)
  have hDZ : ms.map DZ = ms.map D := List.map_congr_left fun c hc => by unfold DZ; rw [if_neg (h4 c hc)]
  rw [hDZ] at hbr ⊢
  obtain ⟨r, h5, h6⟩ := filter_g A B C D' E K hok ms h3 hl (k := k) (by omega) hbr
  exact ⟨r, true, h5, htr, fun _ h => h6 h, fun h => absurd h (by decide)⟩
theorem wakes_true {k : Nat} (hk : 100 ≤ k) : jigsawlaw22_wakes.f k = some true :=
 up (f := fun k => jigsawlaw22_wakes.f k) jigsawlaw22_wakes.mono (by decide +kernel) hk
theorem wf_u8 {x : Int} (h : (Lit.int .u8 x).wf = true) : 0 ≤ x ∧ x ≤ 255 := by
 simp only [Lit.wf, IntKind.min, IntKind.max, IntKind.signed, IntKind.bits, Bool.and_eq_true] at h
 simp at h
 omega
theorem tail0 (ms : List (Fin 2048)) (r : List S58 × Bool) (t : Bool) (h1 : t = true → r.2 = true → r.1.length = ms.length) (h2 : t = false → r = ([], false)) : jigsawlaw22_InverseRefuses.j0 (99999 + 1) (ms.map LL) r.1 r.2 t = some true := by
 rw [jigsawlaw22_InverseRefuses.j0]
 cases t with
 | false => rw [h2 rfl, ind_, wakes_true (by decide), obs_, if_pos rfl, ind_]; rfl
 | true =>
  rw [if_pos rfl, wakes_true (by decide), obs_, if_pos rfl]
  by_cases h : r.2 = true
  ·
   rw [if_pos h, List.length_map, h1 rfl h]; simp
  ·
   rw [if_neg h]
theorem tail1 (ms : List (Fin 2048)) (r : List S58 × Bool) (t : Bool) (h1 : t = true → r.2 = true → r.1.length = ms.length) (h2 : t = false → r = ([], false)) : jigsawlaw22_InverseRefuses.j1 (99999 + 1) (ms.map LL) r.1 r.2 t = some true := by
 rw [jigsawlaw22_InverseRefuses.j1]
 cases t with
 | false => rw [h2 rfl, ind_, wakes_true (by decide), obs_, if_pos rfl, ind_]; rfl
 | true =>
  rw [if_pos rfl, wakes_true (by decide), obs_, if_pos rfl]
  by_cases h : r.2 = true
  ·
   rw [if_pos h, List.length_map, h1 rfl h]; simp
  ·
   rw [if_neg h]
theorem tail2 (ms : List (Fin 2048)) (r : List S58 × Bool) (t : Bool) (h1 : t = true → r.2 = true → r.1.length = ms.length) (h2 : t = false → r = ([], false)) : jigsawlaw22_InverseRefuses.j2 (99999 + 1) (ms.map LL) r.1 r.2 t = some true := by
 rw [jigsawlaw22_InverseRefuses.j2]
 cases t with
 | false => rw [h2 rfl, ind_, wakes_true (by decide), obs_, if_pos rfl, ind_]; rfl
 | true =>
  rw [if_pos rfl, wakes_true (by decide), obs_, if_pos rfl]
  by_cases h : r.2 = true
  ·
   rw [if_pos h, List.length_map, h1 rfl h]; simp
  ·
   rw [if_neg h]
theorem tail3 (ms : List (Fin 2048)) (r : List S58 × Bool) (t : Bool) (h1 : t = true → r.2 = true → r.1.length = ms.length) (h2 : t = false → r = ([], false)) : jigsawlaw22_InverseRefuses.j3 (99999 + 1) (ms.map LL) r.1 r.2 t = some true := by
 rw [jigsawlaw22_InverseRefuses.j3]
 cases t with
 | false => rw [h2 rfl, ind_, wakes_true (by decide), obs_, if_pos rfl, ind_]; rfl
 | true =>
  rw [if_pos rfl, wakes_true (by decide), obs_, if_pos rfl]
  by_cases h : r.2 = true
  ·
   rw [if_pos h, List.length_map, h1 rfl h]; simp
  ·
   rw [if_neg h]
theorem tail4 (ms : List (Fin 2048)) (r : List S58 × Bool) (t : Bool) (h1 : t = true → r.2 = true → r.1.length = ms.length) (h2 : t = false → r = ([], false)) : jigsawlaw22_InverseRefuses.j4 (99999 + 1) (ms.map LL) r.1 r.2 t = some true := by
 rw [jigsawlaw22_InverseRefuses.j4]
 cases t with
 | false => rw [h2 rfl, ind_, wakes_true (by decide), obs_, if_pos rfl, ind_]; rfl
 | true =>
  rw [if_pos rfl, wakes_true (by decide), obs_, if_pos rfl]
  by_cases h : r.2 = true
  ·
   rw [if_pos h, List.length_map, h1 rfl h]; simp
  ·
   rw [if_neg h]
theorem short_f (l : List Int) : ∃ s : List Int, s.length ≤ 5 ∧ jigsawlaw22_InverseRefuses_1.f l = some s := by
 unfold jigsawlaw22_InverseRefuses_1.f
 have h : 0 ≤ mn (l.length : Int) 5 ∧ mn (l.length : Int) 5 ≤ (l.length : Int) ∧ mn (l.length : Int) 5 ≤ 5 := by unfold mn; split <;> omega
 exact ⟨l.take (mn (l.length : Int) 5).toNat, by rw [List.length_take]; omega, by rw [if_pos h.1, if_pos h.2.1]⟩
theorem inverseRefuses (a0 : Int) (l1 l3 l4 : List Int) (a4 a5 : Int) (l6 : List (List Int)) (b0 : Int) (m1 m2 m3 m4 m5 : List Int) (b6 : Int) (m7 : List (List Int)) (a2 : Int) (hw1 : ∀ x ∈ l1, (Lit.int .u8 x).wf = true) (hw3 : ∀ x ∈ l3, (Lit.int .u8 x).wf = true) (hwa : (Lit.int .u8 a2).wf = true) :
  ∃ k, jigsawlaw22_InverseRefuses.f k a0 l1 l3 l4 a4 a5 l6 b0 m1 m2 m3 m4 m5 b6 m7 a2 = some true := by
 refine ⟨100000, ?_⟩
 have ha := wf_u8 hwa
 obtain ⟨kd, hkd, hk⟩ : ∃ kd : Int, (1 ≤ kd ∧ kd ≤ 23) ∧ wrap64 (1 + Int.tmod (wrap64 (a2 / 8)) 23) = kd := by
  have e1 : wrap64 (a2 / 8) = a2 / 8 := wrap_id (by omega) (by omega)
  have e2 : Int.tmod (a2 / 8) 23 = (a2 / 8) % 23 := Int.tmod_eq_emod_of_nonneg (by omega)
  have e3 : wrap64 (1 + (a2 / 8) % 23) = 1 + (a2 / 8) % 23 := wrap_id (by omega) (by omega)
  exact ⟨1 + (a2 / 8) % 23, by omega, by rw [e1, e2, e3]⟩
 obtain ⟨p, q, C, D', E, K, R, ms, g1, g2, g3, hl, hs, g4, hm⟩ := case_all kd hkd a0 a4 a5 l1 l3 l4 l6 (fun x hx => wf_u8 (hw1 x hx)) (fun x hx => wf_u8 (hw3 x hx)) (k := 100000) (by decide)
 have hR : 23 ≤ kd ∧ kd ≤ 23 → R = [] := fun h => (g4 (by omega)).1
 have ew : wrap64 (((ms.map LL).length : Int) - 1) = ((ms.length - 1 : Nat) : Int) := by rw [List.length_map, wrap_id (by omega) (by omega)]; omega
 unfold jigsawlaw22_InverseRefuses.f
 rw [hk, hm, obs_]
 show (if Int.tmod a2 5 = 0 then (if 0 ≤ wrap64 (((ms.map LL).length : Int) - 1) then (if wrap64 (((ms.map LL).length : Int) - 1) ≤ ((ms.map LL).length : Int) then (some ((ms.map LL).take (wrap64 (((ms.map LL).length : Int) - 1)).toNat)).bind _ else none) else none) else _) = some true
 by_cases c0 : Int.tmod a2 5 = 0
 ·
  rw [if_pos c0, ew, ipo_, if_pos (by rw [List.length_map]; omega), obs_, Int.toNat_natCast, ← List.map_take]
  obtain ⟨r, t, e1, e2, e3, e4⟩ := both kd p q C D' E K R hR (by omega) (by omega) (ms.take (ms.length - 1)) (by rw [List.length_take]; omega) (k := 100000) (by decide)
  rw [domz_f _ (by rw [List.length_take]; omega) (by decide), obs_]
  show (inverse_Filter.f 100000 kd p q C D' E K R _).bind _ = _
  rw [e1, obs_]
  show (jigsawref10_Fits.f 100000 kd p q C D' E K R _ 23 23).bind _ = _
  rw [e2, obs_]
  exact tail0 _ r t e3 e4
 rw [if_neg c0]
 by_cases c1 : Int.tmod a2 5 = 1
 ·
  rw [if_pos c1]
  show (if 0 < ((ms.map LL).length : Int) then (some ((ms.map LL).set (0 : Int).toNat [])).bind _ else none) = some true
  have e0 : (ms.map LL).set (0 : Int).toNat [] = (ms.set 0 0).map LL := by
   rw [List.map_set, LL0 (m := 0) rfl]; rfl
  rw [if_pos (by rw [List.length_map]; omega), obs_, e0]
  obtain ⟨r, t, e1, e2, e3, e4⟩ := both kd p q C D' E K R hR (by omega) (by omega) (ms.set 0 0) (by rw [List.length_set]; omega) (k := 100000) (by decide)
  rw [domz_f _ (by rw [List.length_set]; omega) (by decide), obs_]
  show (inverse_Filter.f 100000 kd p q C D' E K R _).bind _ = _
  rw [e1, obs_]
  show (jigsawref10_Fits.f 100000 kd p q C D' E K R _ 23 23).bind _ = _
  rw [e2, obs_]
  exact tail1 _ r t e3 e4
 rw [if_neg c1]
 by_cases c2 : Int.tmod a2 5 = 2
 ·
  rw [if_pos c2]
  show (if (ms.map LL).length < 5864062014805 then (some ((ms.map LL) ++ [[1]])).bind _ else none) = some true
  have e0 : (ms.map LL) ++ [[1]] = (ms ++ [64]).map LL := by
   rw [List.map_append]
   have h64 : LL 64 = [1] := by decide +kernel
   show _ = ms.map LL ++ [LL 64]
   rw [h64]
  rw [if_pos (by rw [List.length_map]; omega), obs_, e0]
  obtain ⟨r, t, e1, e2, e3, e4⟩ := both kd p q C D' E K R hR (by omega) (by omega) (ms ++ [64]) (by simp; omega) (k := 100000) (by decide)
  rw [domz_f _ (by simp; omega) (by decide), obs_]
  show (inverse_Filter.f 100000 kd p q C D' E K R _).bind _ = _
  rw [e1, obs_]
  show (jigsawref10_Fits.f 100000 kd p q C D' E K R _ 23 23).bind _ = _
  rw [e2, obs_]
  exact tail2 _ r t e3 e4
 rw [if_neg c2]
 by_cases c3 : Int.tmod a2 5 = 3
 ·
  rw [if_pos c3]
  obtain ⟨s1, f1, h1⟩ := short_f m1
  obtain ⟨s2, f2, h2⟩ := short_f m2
  obtain ⟨s3, f3, h3⟩ := short_f m3
  obtain ⟨s4, f4, h4⟩ := short_f m4
  obtain ⟨s5, f5, h5⟩ := short_f m5
  rw [h1, obs_, h2, obs_, h3, obs_, h4, obs_, h5, obs_]
  obtain ⟨r, t, e1, e2, e3, e4⟩ := both b0 s1 s2 s3 s4 s5 b6 [] (fun _ => rfl) f1 f2 ms (by omega) (k := 100000) (by decide)
  show (jigsawlaw22_doms.f 100000 (ms.map LL)).bind _ = _
  rw [domz_f _ (by omega) (by decide), obs_]
  show (inverse_Filter.f 100000 b0 s1 s2 s3 s4 s5 b6 [] _).bind _ = _
  rw [e1, obs_]
  show (jigsawref10_Fits.f 100000 b0 s1 s2 s3 s4 s5 b6 [] (ms.map LL) 23 23).bind _ = _
  rw [e2, obs_]
  exact tail3 _ r t e3 e4
 ·
  rw [if_neg c3]
  obtain ⟨r, t, e1, e2, e3, e4⟩ := both kd p q C D' E K R hR (by omega) (by omega) ms (by omega) (k := 100000) (by decide)
  show (jigsawlaw22_doms.f 100000 (ms.map LL)).bind _ = _
  rw [domz_f _ (by omega) (by decide), obs_]
  show (inverse_Filter.f 100000 kd p q C D' E K R _).bind _ = _
  rw [e1, obs_]
  show (jigsawref10_Fits.f 100000 kd p q C D' E K R (ms.map LL) 23 23).bind _ = _
  rw [e2, obs_]
  exact tail4 _ r t e3 e4
end Go.Proofs.YtfbfalhdgmjdpaaGreatDoor.Pure
