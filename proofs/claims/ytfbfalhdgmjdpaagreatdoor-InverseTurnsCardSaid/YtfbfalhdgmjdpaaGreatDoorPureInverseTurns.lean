/- The plain law of InverseTurns: what the walk computes answers true, for every input. -/
import Derived.Test.YtfbfalhdgmjdpaaGreatDoorXITux17
import Derived.Test.YtfbfalhdgmjdpaaGreatDoorKMa
import Derived.Test.YtfbfalhdgmjdpaaGreatDoorKMb
import Derived.Test.YtfbfalhdgmjdpaaGreatDoorKMc
namespace Go.Proofs.YtfbfalhdgmjdpaaGreatDoor.Pure
open Go.RowKit Go.Proofs.YtfbfalhdgmjdpaaGreatDoor.XInverseTurns Go.Proofs.YtfbfalhdgmjdpaaGreatDoorW.PrintWords Go.Proofs.YtfbfalhdgmjdpaaGreatDoorW.PrintLast Go.Proofs.YtfbfalhdgmjdpaaGreatDoorW.PrintMore
set_option linter.unusedVariables false
theorem ind_ {c : Prop} [Decidable c] {α : Type} {a b : α} (h : ¬ c := by decide) : (if c then a else b) = b := if_neg h
theorem obs_ {α β : Type} (a : α) (f : α → Option β) : (some a).bind f = f a := rfl
theorem ino_ {c : Prop} [Decidable c] {α : Type} {a b : α} (h : ¬ c := by omega) : (if c then a else b) = b := if_neg h
theorem ipo_ {c : Prop} [Decidable c] {α : Type} {a b : α} (h : c := by omega) : (if c then a else b) = a := if_pos h
theorem wsu_ {j : Nat} (h : j ≤ 100000 := by omega) : wrap64 ((j : Int) + 1) = ((j + 1 : Nat) : Int) := wrap_succ h
def Near (x : List Int) : Prop := ∀ v ∈ x, -5 ≤ v ∧ v ≤ 5
theorem mem_vals {v : Int} : v ∈ vals ↔ -5 ≤ v ∧ v ≤ 5 := by
 unfold vals
 simp only [List.mem_cons, List.not_mem_nil, or_false]
 omega
theorem mem_L {m : Nat} {v : Int} : v ∈ L m ↔ (-5 ≤ v ∧ v ≤ 5) ∧ m.testBit (v + 5).toNat = true := by
 unfold L; rw [List.mem_filter, mem_vals]
theorem L_filter {m m' : Nat} {p : Int → Bool} (h : ∀ v, -5 ≤ v → v ≤ 5 → (v ∈ L m ↔ v ∈ L m' ∧ p v = true)) : L m = (L m').filter p := by
 unfold L
 rw [List.filter_filter]
 apply List.filter_congr
 intro v hv
 have hr := mem_vals.1 hv
 have h' := h v hr.1 hr.2
 rw [mem_L, mem_L] at h'
 rw [Bool.eq_iff_iff, Bool.and_eq_true]
 constructor
 ·
  intro h1
  have h2 := h'.1 ⟨hr, h1⟩
  exact ⟨h2.2, h2.1.2⟩
 ·
  exact fun h1 => (h'.2 ⟨⟨hr, h1.2⟩, h1.1⟩).2
def msk : List Int → Nat
 | [] => 0
 | v :: l => msk l ||| 1 <<< (v + 5).toNat
theorem msk_append (a b : List Int) : msk (a ++ b) = msk a ||| msk b := by
 induction a with
 | nil => simp [msk]
 | cons v a ih => rw [List.cons_append, msk, ih, msk, Nat.or_assoc, Nat.or_assoc, Nat.or_comm (msk b)]
theorem msk_bit (l : List Int) (i : Nat) : (msk l).testBit i = true ↔ ∃ v, v ∈ l ∧ (v + 5).toNat = i := by
 induction l with
 | nil => simp [msk]
 | cons v l ih =>
  rw [msk, Nat.testBit_or, Bool.or_eq_true, ih, Nat.one_shiftLeft, Nat.testBit_two_pow, decide_eq_true_iff]
  constructor
  ·
   rintro (⟨u, h1, h2⟩ | h)
   ·
    exact ⟨u, List.mem_cons_of_mem _ h1, h2⟩
   ·
    exact ⟨v, List.mem_cons_self, h⟩
  ·
   rintro ⟨u, h1, h2⟩
   rcases List.mem_cons.1 h1 with rfl | h1
   ·
    exact Or.inr h2
   ·
    exact Or.inl ⟨u, h1, h2⟩
theorem msk_lt {l : List Int} (h : Near l) : msk l < 2048 := by
 induction l with
 | nil => decide
 | cons v l ih =>
  have hv := h v List.mem_cons_self
  refine Nat.or_lt_two_pow (n := 11) (ih fun u hu => h u (List.mem_cons_of_mem _ hu)) ?_
  rw [Nat.one_shiftLeft]
  exact Nat.pow_lt_pow_right (by decide) (by omega)
theorem mem_msk {l : List Int} (h : Near l) {v : Int} : v ∈ L (msk l) ↔ v ∈ l := by
 rw [mem_L, msk_bit]
 constructor
 ·
  rintro ⟨hv, u, hu, e⟩
  have := h u hu
  have : u = v := by omega
  rwa [← this]
 ·
  exact fun hv => ⟨h v hv, v, hv, rfl⟩
def mk (l : List Int) : Fin 2048 := ⟨msk l % 2048, Nat.mod_lt _ (by decide)⟩
theorem mk_val {l : List Int} (h : Near l) : (mk l).val = msk l := Nat.mod_eq_of_lt (msk_lt h)
theorem mem_mk {l : List Int} (h : Near l) {v : Int} : v ∈ LL (mk l) ↔ v ∈ l := by
 unfold LL; rw [mk_val h]; exact mem_msk h
theorem mk_ne {l : List Int} (h : Near l) (h0 : l ≠ []) : (mk l).val ≠ 0 := by
 intro h1
 obtain ⟨v, hv⟩ := List.exists_mem_of_ne_nil l h0
 have h2 := (mem_mk h).2 hv
 have : LL (mk l) = [] := by unfold LL; rw [h1]; decide +kernel
 rw [this] at h2; cases h2
theorem mask_ext {m m' : Fin 2048} (h : ∀ v, v ∈ LL m ↔ v ∈ LL m') : m = m' := by
 apply Fin.ext
 apply Nat.eq_of_testBit_eq
 intro i
 by_cases hi : i < 11
 ·
  have h1 := h ((i : Int) - 5)
  unfold LL at h1
  rw [mem_L, mem_L, show ((i : Int) - 5 + 5).toNat = i by omega] at h1
  have hr : -5 ≤ (i : Int) - 5 ∧ (i : Int) - 5 ≤ 5 := by omega
  rw [Bool.eq_iff_iff]
  exact ⟨fun h2 => (h1.1 ⟨hr, h2⟩).2, fun h2 => (h1.2 ⟨hr, h2⟩).2⟩
 ·
  have h2 : 2 ^ 11 ≤ 2 ^ i := Nat.pow_le_pow_right (by decide) (by omega)
  rw [Nat.testBit_lt_two_pow (Nat.lt_of_lt_of_le m.isLt h2), Nat.testBit_lt_two_pow (Nat.lt_of_lt_of_le m'.isLt h2)]
theorem near_LL (m : Fin 2048) : Near (LL m) := (len_all m).2
theorem mk_LL (m : Fin 2048) : mk (LL m) = m := mask_ext fun _ => mem_mk (near_LL m)
theorem fold_mn : ∀ (l : List Int) (z : Int), (l.foldl mn z ≤ z) ∧ (∀ v ∈ l, l.foldl mn z ≤ v) ∧ (l.foldl mn z = z ∨ l.foldl mn z ∈ l)
 | [], z => ⟨Int.le_refl _, fun v hv => absurd hv List.not_mem_nil, Or.inl rfl⟩
 | a :: l, z => by
  obtain ⟨h1, h2, h3⟩ := fold_mn l (mn z a)
  have hz : mn z a ≤ z ∧ mn z a ≤ a ∧ (mn z a = z ∨ mn z a = a) := by unfold mn; split <;> omega
  rw [List.foldl_cons]
  refine ⟨by omega, fun v hv => ?_, ?_⟩
  ·
   rcases List.mem_cons.1 hv with rfl | hv
   ·
    omega
   ·
    exact h2 v hv
  ·
   rcases h3 with h3 | h3
   ·
    rw [h3]
    rcases hz.2.2 with h | h
    ·
     exact Or.inl h
    ·
     exact Or.inr (by rw [h]; exact List.mem_cons_self)
   ·
    exact Or.inr (List.mem_cons_of_mem _ h3)
theorem fold_mx : ∀ (l : List Int) (z : Int), (z ≤ l.foldl mx z) ∧ (∀ v ∈ l, v ≤ l.foldl mx z) ∧ (l.foldl mx z = z ∨ l.foldl mx z ∈ l)
 | [], z => ⟨Int.le_refl _, fun v hv => absurd hv List.not_mem_nil, Or.inl rfl⟩
 | a :: l, z => by
  obtain ⟨h1, h2, h3⟩ := fold_mx l (mx z a)
  have hz : z ≤ mx z a ∧ a ≤ mx z a ∧ (mx z a = z ∨ mx z a = a) := by unfold mx; split <;> omega
  rw [List.foldl_cons]
  refine ⟨by omega, fun v hv => ?_, ?_⟩
  ·
   rcases List.mem_cons.1 hv with rfl | hv
   ·
    omega
   ·
    exact h2 v hv
  ·
   rcases h3 with h3 | h3
   ·
    rw [h3]
    rcases hz.2.2 with h | h
    ·
     exact Or.inl h
    ·
     exact Or.inr (by rw [h]; exact List.mem_cons_self)
   ·
    exact Or.inr (List.mem_cons_of_mem _ h3)
theorem rd_at (l : List Int) (j : Nat) : rd l (j : Int) = l.getD j 0 := rfl
theorem rdL_at (l : List (List Int)) (j : Nat) : rd_L5 l (j : Int) = l.getD j [] := rfl
theorem rdD_at (l : List S58) (j : Nat) : rd_T58 l (j : Int) = l.getD j z58 := rfl
theorem getD_lt {α : Type} (l : List α) (z : α) {j : Nat} (h : j < l.length) : l.getD j z = l[j] := by
 rw [List.getD_eq_getElem?_getD, List.getElem?_eq_getElem h]; rfl
theorem getD_mem {α : Type} (l : List α) (z : α) {j : Nat} (h : j < l.length) : l.getD j z ∈ l := by
 rw [getD_lt _ _ h]; exact List.getElem_mem _
theorem getD_map {α β : Type} (f : α → β) (l : List α) (z : α) (y : β) {j : Nat} (h : j < l.length) : (l.map f).getD j y = f (l.getD j z) := by
 rw [getD_lt _ _ (by simpa using h), getD_lt _ _ h]; simp
theorem take_step {α : Type} (l : List α) (z : α) {j : Nat} (h : j < l.length) : l.take j ++ [l.getD j z] = l.take (j + 1) := by
 rw [getD_lt _ _ h]; simp
theorem nlt {a b : Nat} (h : a < b) : (a : Int) < (b : Int) := by omega
theorem nge {a b : Nat} (h : ¬ a < b) : ¬ (a : Int) < (b : Int) := by omega
theorem has_one (m : Fin 2048) {v : Int} (hv : -5 ≤ v ∧ v ≤ 5) : dom_Dom_Has.f (D m).f0 (D m).f1 (D m).f2 (D m).f3 (D m).f4 v = some (decide (v ∈ LL m)) := by
 have h := has_all m ⟨(v + 5).toNat, by omega⟩
 simp only [] at h
 rwa [show (((v + 5).toNat : Nat) : Int) - 5 = v by omega] at h
theorem list_one (m : Fin 2048) {k : Nat} (hk : 40 ≤ k) : dom_Dom_List.f k (D m).f0 (D m).f1 (D m).f2 (D m).f3 (D m).f4 = some (LL m) :=
 up (f := fun k => dom_Dom_List.f k _ _ _ _ _) (dom_Dom_List.mono _ _ _ _ _) (list_all m) hk
theorem place_one {v : Int} (hv : -5 ≤ v ∧ v ≤ 5) : dom_place.f v = some (if v < 0 then -64 else 0) := by
 have h := place_all ⟨(v + 5).toNat, by omega⟩
 simp only [] at h
 rwa [show (((v + 5).toNat : Nat) : Int) - 5 = v by omega] at h
def wd (neg pos : Bool) (m : Nat) : List Int := (if neg then [((m % 32 * 576460752303423488 : Nat) : Int)] else []) ++ (if pos then [((m / 32 : Nat) : Int)] else [])
def off (neg : Bool) : Int := if neg then -64 else 0
theorem put_one (neg pos : Bool) (m : Fin 2048) {v : Int} (hv : -5 ≤ v ∧ v ≤ 5) (hn : v < 0 → neg = true) (hp : 0 ≤ v → pos = true) :
  ∃ i : Nat, wrap64 (Int.tdiv (wrap64 (v - off neg)) 64) = (i : Int) ∧ i < (wd neg pos m.val).length ∧ 0 ≤ Int.tmod (wrap64 (v - off neg)) 64 ∧ (wd neg pos m.val).set i (Go.bits .or .u64 (rd (wd neg pos m.val) (i : Int)) (shl .u64 1 (Int.tmod (wrap64 (v - off neg)) 64))) = wd neg pos (m.val ||| 1 <<< (v + 5).toNat) := by
 have hs := split_all m ⟨(v + 5).toNat, by omega⟩
 simp only [] at hs
 by_cases h : v < 0
 ·
  obtain rfl := hn h
  have hl := put_lo ⟨m.val % 32, Nat.mod_lt _ (by decide)⟩ ⟨(v + 5).toNat, by omega⟩
  simp only [] at hl
  rw [ipo_, ipo_, Nat.or_zero] at hs
  rw [show (((v + 5).toNat : Nat) : Int) - 5 = v by omega] at hl
  have e1 : wrap64 (v - off true) = v + 64 := by rw [show off true = -64 from rfl, wrap_id (by omega) (by omega)]; omega
  have e2 : Int.tdiv (v + 64) 64 = 0 := Int.tdiv_eq_zero_of_lt (by omega) (by omega)
  refine ⟨0, by rw [e1, e2]; decide +kernel, by simp [wd], by rw [e1]; exact Int.tmod_nonneg _ (by omega), ?_⟩
  show List.set (((m.val % 32 * 576460752303423488 : Nat) : Int) :: _) 0 (Go.bits .or .u64 ((m.val % 32 * 576460752303423488 : Nat) : Int) (shl .u64 1 (Int.tmod (wrap64 (v - (-64))) 64))) = _
  rw [List.set_cons_zero, hl]
  unfold wd
  rw [hs.1, hs.2]; rfl
 ·
  obtain rfl := hp (by omega)
  rw [ino_, ino_, Nat.or_zero] at hs
  have hh := put_hi ⟨m.val / 32, by have := m.isLt; omega⟩ ⟨v.toNat, by omega⟩
  simp only [] at hh
  rw [show ((v.toNat : Nat) : Int) = v by omega] at hh
  have e0 : (v + 5).toNat - 5 = v.toNat := by omega
  cases neg with
  | true =>
   have e1 : wrap64 (v - off true) = v + 64 := by rw [show off true = -64 from rfl, wrap_id (by omega) (by omega)]; omega
   have e2 : Int.tdiv (v + 64) 64 = 1 := by rw [Int.tdiv_eq_ediv_of_nonneg (by omega)]; omega
   refine ⟨1, by rw [e1, e2]; decide +kernel, by simp [wd], by rw [e1]; exact Int.tmod_nonneg _ (by omega), ?_⟩
   show List.set [((m.val % 32 * 576460752303423488 : Nat) : Int), ((m.val / 32 : Nat) : Int)] 1 (Go.bits .or .u64 ((m.val / 32 : Nat) : Int) (shl .u64 1 (Int.tmod (wrap64 (v - (-64))) 64))) = _
   rw [hh.2]
   unfold wd
   rw [hs.1, hs.2, e0]; rfl
  | false =>
   have e1 : wrap64 (v - off false) = v := by rw [show off false = 0 from rfl, wrap_id (by omega) (by omega)]; omega
   have e2 : Int.tdiv v 64 = 0 := Int.tdiv_eq_zero_of_lt (by omega) (by omega)
   refine ⟨0, by rw [e1, e2]; decide +kernel, by simp [wd], by rw [e1]; exact Int.tmod_nonneg _ (by omega), ?_⟩
   show List.set [((m.val / 32 : Nat) : Int)] 0 (Go.bits .or .u64 ((m.val / 32 : Nat) : Int) (shl .u64 1 (Int.tmod (wrap64 (v - 0)) 64))) = _
   rw [hh.1]
   unfold wd
   rw [hs.1, hs.2, e0]; rfl
theorem wd_D (neg pos : Bool) (m : Fin 2048) (hm : m.val ≠ 0) (hn : neg = true ↔ ¬ (∀ v ∈ LL m, 0 ≤ v)) (hp : pos = true ↔ ¬ (∀ v ∈ LL m, v < 0)) : off neg = (D m).f0 ∧ wd neg pos m.val = (D m).f1 := by
 obtain ⟨h1, h2⟩ := low_all m
 rw [← h1] at hn
 rw [← h2] at hp
 unfold D DM
 cases neg with
 | false =>
  have e : m.val % 32 = 0 := Classical.byContradiction fun h => absurd (hn.2 h) (by decide)
  have ep : pos = true := hp.2 (by omega)
  rw [if_pos e, ep]; exact ⟨rfl, rfl⟩
 | true =>
  rw [if_neg (hn.1 rfl)]
  cases pos with
  | false =>
   have e : m.val / 32 = 0 := Classical.byContradiction fun h => absurd (hp.2 h) (by decide)
   rw [if_pos e]; exact ⟨rfl, rfl⟩
  | true => rw [if_neg (hp.1 rfl)]; exact ⟨rfl, rfl⟩
theorem of_l0 (neg pos : Bool) (l : List Int) (hl : l.length ≤ 2000) (hr : Near l) (hn : ∀ v ∈ l, v < 0 → neg = true) (hp : ∀ v ∈ l, 0 ≤ v → pos = true) : ∀ (m j k : Nat), l.length = j + m → m + 20 < k →
  dom_Of.l0 k l (l.length : Int) (j : Int) (off neg) (wd neg pos (msk (l.take j))) 0 0 0 = (dom_made.f (k - m - 1) (off neg) (wd neg pos (msk l))).bind fun bt => some (bt.1, bt.2.1, bt.2.2.1, bt.2.2.2.1, bt.2.2.2.2, 0)
 | 0, j, k + 1, e, hk => by
  rw [dom_Of.l0, ino_, List.take_of_length_le (by omega)]
  rfl
 | m + 1, j, k + 1, e, hk => by
  have hj : j < l.length := by omega
  have hv := getD_mem l 0 hj
  have hnt : Near (l.take j) := fun u hu => hr u (List.mem_of_mem_take hu)
  obtain ⟨i, e1, e2, e3, e4⟩ := put_one neg pos ⟨msk (l.take j), msk_lt hnt⟩ (hr _ hv) (hn _ hv) (hp _ hv)
  simp only [] at e2 e4
  have e5 : msk (l.take (j + 1)) = msk (l.take j) ||| 1 <<< (l.getD j 0 + 5).toNat := by
   rw [← take_step l 0 hj, msk_append, msk, msk, Nat.zero_or]
  rw [dom_Of.l0, if_pos (nlt hj), ipo_, if_pos (nlt hj), rd_at, e1, ipo_, if_pos (nlt e2), if_pos e3, Int.toNat_natCast, e4, ← e5, wsu_, of_l0 neg pos l hl hr hn hp m (j + 1) k (by omega) (by omega)]
  rw [show k + 1 - (m + 1) - 1 = k - m - 1 by omega]
theorem idx_of (l : List Int) (hl : l.length ≤ 2000) (hr : Near l) : ∀ (m j k : Nat), l.length = j + m → m < k → slices_IndexFunc_int_int_84_at_dom_Of_1.l0 k l (l.length : Int) (j : Int) = some (-1)
 | 0, j, k + 1, e, _ => by rw [slices_IndexFunc_int_int_84_at_dom_Of_1.l0, ino_]
 | m + 1, j, k + 1, e, hk => by
  have hj : j < l.length := by omega
  have hv := hr _ (getD_mem l 0 hj)
  have hf : dom_Of_1.f (l.getD j 0) = some false := by
   unfold dom_Of_1.f dom_in.f
   rw [ipo_, obs_, decide_eq_true (by omega)]; rfl
  rw [slices_IndexFunc_int_int_84_at_dom_Of_1.l0, if_pos (nlt hj), ipo_, if_pos (nlt hj), rd_at, hf, obs_, ind_, wsu_]
  exact idx_of l hl hr m (j + 1) k (by omega) (by omega)
theorem room_f {a b : Int} (ha : -5 ≤ a ∧ a ≤ 5) (hb : -5 ≤ b ∧ b ≤ 5) (hab : a ≤ b) : dom_room.f a b = some (off (decide (a < 0)), wd (decide (a < 0)) (decide (0 ≤ b)) 0, 0, 0, 0) := by
 unfold dom_room.f
 rw [place_one ha, obs_, place_one hb, obs_, obs_]
 by_cases h1 : a < 0
 ·
  rw [if_pos h1, decide_eq_true h1]
  by_cases h2 : b < 0
  ·
   rw [if_pos h2, decide_eq_false (by omega)]; decide +kernel
  ·
   rw [if_neg h2, decide_eq_true (by omega)]; decide +kernel
 ·
  rw [if_neg h1, if_neg (show ¬ b < 0 by omega), decide_eq_false h1, decide_eq_true (by omega)]; decide +kernel
theorem of_list (l : List Int) (h0 : l ≠ []) (hl : l.length ≤ 2000) (hr : Near l) {k : Nat} (hk : l.length + 20 < k) : dom_Of.f k l = some ((D (mk l)).f0, (D (mk l)).f1, (D (mk l)).f2, (D (mk l)).f3, (D (mk l)).f4, 0) := by
 have hp : 0 < l.length := List.length_pos_iff.2 h0
 have h00 := getD_mem l 0 hp
 obtain ⟨a1, a2, a3⟩ := fold_mn l (rd l 0)
 obtain ⟨b1, b2, b3⟩ := fold_mx l (rd l 0)
 have ham : l.foldl mn (rd l 0) ∈ l := by
  rcases a3 with h | h
  ·
   rw [h]; exact h00
  ·
   exact h
 have hbm : l.foldl mx (rd l 0) ∈ l := by
  rcases b3 with h | h
  ·
   rw [h]; exact h00
  ·
   exact h
 have hra := hr _ ham
 have hrb := hr _ hbm
 have emin : slices_Min_int.f l = some (l.foldl mn (rd l 0)) := by unfold slices_Min_int.f; rw [if_neg h0]
 have emax : slices_Max_int.f l = some (l.foldl mx (rd l 0)) := by unfold slices_Max_int.f; rw [if_neg h0]
 have hidx : slices_IndexFunc_int_int_84_at_dom_Of_1.l0 k l (l.length : Int) 0 = some (-1) := idx_of l hl hr l.length 0 k (by omega) (by omega)
 generalize l.foldl mn (rd l 0) = a at *
 generalize l.foldl mx (rd l 0) = b at *
 have hw : wrap64 (b - a) = b - a := wrap_id (by omega) (by omega)
 have hc : slices_ContainsFunc_int_int_60_at_dom_Of_1.f k l = some false := by
  unfold slices_ContainsFunc_int_int_60_at_dom_Of_1.f slices_IndexFunc_int_int_84_at_dom_Of_1.f
  rw [hidx, obs_]; rfl
 unfold dom_Of.f
 rw [ino_, hc, obs_, ind_, emax, obs_, emin, obs_, hw, ino_, obs_, obs_, room_f hra hrb (by omega), obs_]
 have hcall := of_l0 (decide (a < 0)) (decide (0 ≤ b)) l hl hr (fun v hv h => decide_eq_true (by have := a2 v hv; omega)) (fun v hv h => decide_eq_true (by have := b2 v hv; omega)) l.length 0 k (by omega) (by omega)
 have hcall' : dom_Of.l0 k l (l.length : Int) 0 (off (decide (a < 0))) (wd (decide (a < 0)) (decide (0 ≤ b)) 0) 0 0 0 = _ := hcall
 rw [hcall']
 have hne := mk_ne hr h0
 obtain ⟨w1, w2⟩ := wd_D (decide (a < 0)) (decide (0 ≤ b)) (mk l) hne (by
   rw [decide_eq_true_iff]
   constructor
   ·
    exact fun h h' => by have := h' a ((mem_mk hr).2 ham); omega
   ·
    exact fun h => Classical.byContradiction fun h' => h fun v hv => by have := a2 v ((mem_mk hr).1 hv); omega) (by
   rw [decide_eq_true_iff]
   constructor
   ·
    exact fun h h' => by have := h' b ((mem_mk hr).2 hbm); omega
   ·
    exact fun h => Classical.byContradiction fun h' => h fun v hv => by have := b2 v ((mem_mk hr).1 hv); omega)
 rw [mk_val hr] at w2
 rw [w1, w2]
 have hm := up (f := fun k => dom_made.f k (D (mk l)).f0 (D (mk l)).f1) (dom_made.mono _ _) (made_all _ hne) (show 10 ≤ k - l.length - 1 by omega)
 rw [hm, obs_]
theorem of_one {m : Fin 2048} (hm : m.val ≠ 0) {k : Nat} (hk : 40 ≤ k) : dom_Of.f k (LL m) = some ((D m).f0, (D m).f1, (D m).f2, (D m).f3, (D m).f4, 0) := by
 have h := of_list (LL m) (fun h => ne_all m hm (by rw [h]; rfl)) (by have := (len_all m).1; omega) (near_LL m) (k := k) (by have := (len_all m).1; omega)
 rwa [mk_LL] at h
theorem rhas_l0 (l : List Int) (v : Int) (hl : l.length ≤ 100) : ∀ (m j k : Nat), l.length = j + m → m < k → jigsawref02_Has.l0 k l v (j : Int) = some (decide (v ∈ l.drop j))
 | 0, j, k + 1, e, _ => by
  rw [jigsawref02_Has.l0, ino_, List.drop_eq_nil_of_le (by omega)]; rfl
 | m + 1, j, k + 1, e, hk => by
  have hj : j < l.length := by omega
  have hd : l.drop j = l[j] :: l.drop (j + 1) := List.drop_eq_getElem_cons hj
  rw [jigsawref02_Has.l0, if_pos (nlt hj), ipo_, rd_at, getD_lt _ _ hj]
  by_cases h : l[j] = v
  ·
   rw [if_pos h, hd]; congr 1; symm; exact decide_eq_true (by rw [h]; exact List.mem_cons_self)
  ·
   rw [if_neg h, wsu_, rhas_l0 l v hl m (j + 1) k (by omega) (by omega), hd]
   congr 1
   rw [decide_eq_decide]
   constructor
   ·
    exact fun h' => List.mem_cons_of_mem _ h'
   ·
    intro h'
    rcases List.mem_cons.1 h' with h2 | h2
    ·
     exact absurd h2.symm h
    ·
     exact h2
theorem rhas_f (l : List Int) (v : Int) (hl : l.length ≤ 100) {k : Nat} (hk : 200 ≤ k) : jigsawref02_Has.f k l v = some (decide (v ∈ l)) := by
 have h := rhas_l0 l v hl l.length 0 k (by omega) (by omega)
 exact h
def insR : Bool → Int → List Int → List Int
 | true, _, r => r
 | false, v, r => ins v r
theorem of_l2 (x : List Int) (hx : x.length ≤ 100) (i : Nat) (hi : i < x.length) (l : List Int) (hl : l.length ≤ 100) : ∀ (m j k : Nat) (acc : List Int) (done : Bool), l.length = j + m → acc.length ≤ 2 * j → m < k →
  ∃ k', k' + m + 1 = k ∧ jigsawref02_Of.l2 k x l (i : Int) acc done (j : Int) = jigsawref02_Of.l1 k' x (acc ++ insR done (x.getD i 0) (l.drop j)) (((i + 1 : Nat)) : Int)
 | 0, j, k + 1, acc, done, e, ha, hk => by
  refine ⟨k, rfl, ?_⟩
  rw [jigsawref02_Of.l2, ino_, List.drop_eq_nil_of_le (by omega)]
  cases done with
  | true => rw [if_pos rfl, wsu_]; simp [insR]
  | false => rw [ind_, ipo_, if_pos (nlt hi), ipo_, wsu_, rd_at]; rfl
 | m + 1, j, k + 1, acc, done, e, ha, hk => by
  have hj : j < l.length := by omega
  have hd : l.drop j = l.getD j 0 :: l.drop (j + 1) := by rw [getD_lt _ _ hj]; exact List.drop_eq_getElem_cons hj
  rw [jigsawref02_Of.l2, if_pos (nlt hj), ipo_, ipo_, if_pos (nlt hi), rd_at, rd_at, wsu_, hd]
  by_cases h : l.getD j 0 > x.getD i 0
  ·
   rw [if_pos h]
   cases done with
   | true =>
    rw [if_pos rfl, ipo_]
    obtain ⟨k', hk', h'⟩ := of_l2 x hx i hi l hl m (j + 1) k (acc ++ [l.getD j 0]) true (by omega) (by simp; omega) (by omega)
    refine ⟨k', by omega, ?_⟩
    rw [h']; simp [insR]
   | false =>
    rw [ind_, ipo_, obs_, if_pos (by simp; omega)]
    obtain ⟨k', hk', h'⟩ := of_l2 x hx i hi l hl m (j + 1) k ((acc ++ [x.getD i 0]) ++ [l.getD j 0]) true (by omega) (by simp; omega) (by omega)
    refine ⟨k', by omega, ?_⟩
    have e1 : insR false (x.getD i 0) (l.getD j 0 :: l.drop (j + 1)) = x.getD i 0 :: l.getD j 0 :: l.drop (j + 1) := by show ins _ _ = _; rw [ins, if_pos h]
    rw [h', e1]; simp [insR]
  ·
   rw [if_neg h, ipo_]
   obtain ⟨k', hk', h'⟩ := of_l2 x hx i hi l hl m (j + 1) k (acc ++ [l.getD j 0]) done (by omega) (by simp; omega) (by omega)
   refine ⟨k', by omega, ?_⟩
   rw [h']
   cases done with
   | true => simp [insR]
   | false =>
    have e1 : insR false (x.getD i 0) (l.getD j 0 :: l.drop (j + 1)) = l.getD j 0 :: ins (x.getD i 0) (l.drop (j + 1)) := by show ins _ _ = _; rw [ins, if_neg h]
    rw [e1]; simp [insR]
theorem of_l1 (x : List Int) (hx : x.length ≤ 6) (hn : Near x) : ∀ (m j k : Nat) (b : Fin 2048), x.length = j + m → 300 * m + 300 < k → (0 < j → b.val ≠ 0) →
  ∃ c : Fin 2048, (0 < x.length → c.val ≠ 0) ∧ jigsawref02_Of.l1 k x (LL b) (j : Int) = some (LL c, 0)
 | 0, j, k + 1, b, e, hk, hb => by
  refine ⟨b, fun h => hb (by omega), ?_⟩
  rw [jigsawref02_Of.l1, ino_]
 | m + 1, j, k + 1, b, e, hk, hb => by
  have hj : j < x.length := by omega
  have hv := hn (x.getD j 0) (by rw [getD_lt _ _ hj]; exact List.getElem_mem _)
  have hl := (len_all b).1
  rw [jigsawref02_Of.l1, if_pos (nlt hj), ipo_, rd_at, rhas_f (LL b) _ (by omega) (by omega), obs_]
  by_cases h : x.getD j 0 ∈ LL b
  ·
   rw [if_pos (decide_eq_true h), wsu_]
   refine of_l1 x hx hn m (j + 1) k b (by omega) (by omega) (fun _ h0 => ?_)
   have : LL b = [] := by unfold LL; rw [h0]; decide +kernel
   rw [this] at h; cases h
  ·
   rw [if_neg (by simpa using h)]
   obtain ⟨k', hk', h'⟩ := of_l2 x (by omega) j hj (LL b) (by omega) (LL b).length 0 k [] false (by omega) (by simp) (by omega)
   have e0 : jigsawref02_Of.l2 k x (LL b) (j : Int) [] false 0 = _ := h'
   rw [e0]
   have hins := ins_all b ⟨(x.getD j 0 + 5).toNat, by omega⟩
   simp only [] at hins
   rw [show (((x.getD j 0 + 5).toNat : Nat) : Int) - 5 = x.getD j 0 by omega] at hins
   obtain ⟨h1, h2⟩ := hins h
   rw [List.nil_append, List.drop_zero, insR, h1]
   exact of_l1 x hx hn m (j + 1) k' _ (by omega) (by omega) (fun _ => h2)
theorem rof_l0 (x : List Int) (hx : x.length ≤ 6) (hn : Near x) : ∀ (m j k : Nat) (lo hi : Int), x.length = j + m → m + 3000 < k → -5 ≤ lo → lo ≤ 5 → -5 ≤ hi → hi ≤ 5 →
  ∃ c : Fin 2048, (0 < x.length → c.val ≠ 0) ∧ jigsawref02_Of.l0 k x lo hi (j : Int) = some (LL c, 0)
 | 0, j, k + 1, lo, hi, e, hk, h1, h2, h3, h4 => by
  have ew : wrap64 (hi - lo) = hi - lo := wrap_id (by omega) (by omega)
  rw [jigsawref02_Of.l0, ino_, ew, ino_]
  have h0 : LL 0 = [] := by decide +kernel
  have h := of_l1 x hx hn x.length 0 k 0 (by omega) (by omega) (fun h => absurd h (by decide))
  rw [h0] at h
  exact h
 | m + 1, j, k + 1, lo, hi, e, hk, h1, h2, h3, h4 => by
  have hj : j < x.length := by omega
  have hv := hn (x.getD j 0) (by rw [getD_lt _ _ hj]; exact List.getElem_mem _)
  rw [jigsawref02_Of.l0, if_pos (nlt hj), ipo_, rd_at, ino_, ino_, wsu_]
  split <;> split <;> exact rof_l0 x hx hn m (j + 1) k _ _ (by omega) (by omega) (by omega) (by omega) (by omega) (by omega)
theorem rof_f (x : List Int) (hx : x.length ≤ 6) (h0 : 0 < x.length) (hn : Near x) {k : Nat} (hk : 4000 ≤ k) : ∃ c : Fin 2048, c.val ≠ 0 ∧ jigsawref02_Of.f k x = some (LL c, 0) := by
 have hv := hn (x.getD 0 0) (by rw [getD_lt _ _ h0]; exact List.getElem_mem _)
 obtain ⟨c, h1, h2⟩ := rof_l0 x hx hn x.length 0 k (x.getD 0 0) (x.getD 0 0) (by omega) (by omega) hv.1 hv.2 hv.1 hv.2
 refine ⟨c, h1 h0, ?_⟩
 unfold jigsawref02_Of.f
 rw [ino_, ipo_]
 exact h2
theorem mod_near (v : Int) : -5 ≤ Int.tmod v 5 ∧ Int.tmod v 5 ≤ 5 := by
 have h1 := Int.tmod_lt_of_pos v (show (0 : Int) < 5 by decide)
 have h2 := Int.lt_tmod_of_pos v (show (0 : Int) < 5 by decide)
 omega
theorem small_l0 (l : List Int) (h0 : 0 < l.length) : ∀ (m j k : Nat) (acc : List Int), 6 = j + m → j ≤ l.length → m + 4100 < k → acc.length = j → Near acc →
  ∃ c : Fin 2048, c.val ≠ 0 ∧ jigsawref02_Small.l0 k l 6 5 acc (j : Int) = some (LL c)
 | m, j, k + 1, acc, e, hjl, hk, ha, hn => by
  have fin : ∀ (hx : 0 < acc.length), ∃ c : Fin 2048, c.val ≠ 0 ∧ ((jigsawref02_Of.f k acc).bind fun bt => some bt.1) = some (LL c) := by
   intro hx
   obtain ⟨c, h1, h2⟩ := rof_f acc (by omega) hx hn (k := k) (by omega)
   exact ⟨c, h1, by rw [h2, obs_]⟩
  rw [jigsawref02_Small.l0]
  by_cases hj : j < l.length
  ·
   rw [if_pos (nlt hj)]
   by_cases h6 : j < 6
   ·
    obtain ⟨m, rfl⟩ : ∃ m', m = m' + 1 := ⟨m - 1, by omega⟩
    rw [ipo_, ipo_, ind_, ipo_, wsu_]
    refine small_l0 l h0 m (j + 1) k _ (by omega) (by omega) (by omega) (by simp [ha]) (fun v hv => ?_)
    rcases List.mem_append.1 hv with h | h
    ·
     exact hn v h
    ·
     rw [List.mem_singleton] at h; rw [h]; exact mod_near _
   ·
    rw [ino_]
    exact fin (by omega)
  ·
   rw [if_neg (nge hj)]
   exact fin (by omega)
theorem small_f (l : List Int) (h0 : 0 < l.length) {k : Nat} (hk : 4200 ≤ k) : ∃ c : Fin 2048, c.val ≠ 0 ∧ jigsawref02_Small.f k l 6 5 = some (LL c) :=
 small_l0 l h0 6 0 k [] rfl (by omega) (by omega) rfl (fun v hv => by simp at hv)
def Places (n : Nat) (r : List Int) : Prop := r.length = n ∧ ∀ x ∈ r, 0 ≤ x ∧ x ≤ 4
theorem places_l0 (l : List Int) (hl : ∀ x ∈ l, 0 ≤ x ∧ x ≤ 255) (n : Nat) (hn : n ≤ 4) : ∀ (m j k : Nat) (acc : List Int), n = j + m → m < k → Places j acc → ∃ r, jigsawref06_places.l0 k l (n : Int) 5 acc (j : Int) = some r ∧ Places n r
 | 0, j, k + 1, acc, e, _, ha => by
  obtain rfl : n = j := by omega
  refine ⟨acc, ?_, ha⟩
  rw [jigsawref06_places.l0, ino_]
 | m + 1, j, k + 1, acc, e, hk, ha => by
  have hj : j < n := by omega
  obtain ⟨h1, h2⟩ := ha
  have hlen : acc.length < 17592186044416 := by omega
  by_cases hx : j < l.length
  ·
   have hm := hl (l.getD j 0) (by rw [getD_lt _ _ hx]; exact List.getElem_mem _)
   obtain ⟨r, hr, hp⟩ := places_l0 l hl n hn m (j + 1) k (acc ++ [Int.tmod (wrap64 (rd l (j : Int))) 5]) (by omega) (by omega) ⟨by simp [h1], fun x hx => by
    rcases List.mem_append.1 hx with h | h
    ·
     exact h2 x h
    ·
     rw [List.mem_singleton] at h
     rw [h, rd_at, wrap_id (by omega) (by omega), Int.tmod_eq_emod_of_nonneg (by omega)]
     omega⟩
   refine ⟨r, ?_, hp⟩
   rw [jigsawref06_places.l0, if_pos (nlt hj), if_pos (nlt hx), ipo_, ind_, if_pos hlen, wsu_]
   exact hr
  ·
   obtain ⟨r, hr, hp⟩ := places_l0 l hl n hn m (j + 1) k (acc ++ [Int.tmod (j : Int) 5]) (by omega) (by omega) ⟨by simp [h1], fun x hx => by
    rcases List.mem_append.1 hx with h | h
    ·
     exact h2 x h
    ·
     rw [List.mem_singleton] at h
     rw [h, Int.tmod_eq_emod_of_nonneg (by omega)]
     omega⟩
   refine ⟨r, ?_, hp⟩
   rw [jigsawref06_places.l0, if_pos (nlt hj), if_neg (nge hx), ind_, if_pos hlen, wsu_]
   exact hr
theorem places_f (l : List Int) (hl : ∀ x ∈ l, 0 ≤ x ∧ x ≤ 255) (n : Nat) (hn : n ≤ 4) {k : Nat} (hk : 5 ≤ k) : ∃ r, jigsawref06_places.f k l (n : Int) 5 = some r ∧ Places n r :=
 places_l0 l hl n hn n 0 k [] (by omega) (by omega) ⟨rfl, fun x hx => by simp at hx⟩
theorem has_f {s : ByteArray} {c r : Int} (h : jigsawref06_has.f 6 s c = some r) {k : Nat} (hk : 6 ≤ k) : jigsawref06_has.f k s c = some r :=
 up (f := fun k => jigsawref06_has.f k s c) (jigsawref06_has.mono _ _) h hk
def keep (Y : List (Fin 2048)) (i : Nat) (v : Int) : Bool := decide (1 ≤ v ∧ v ≤ (Y.length : Int)) && decide (((i : Int) + 1) ∈ LL (Y.getD (v - 1).toNat ⟨0, by decide⟩))
def turn (Y : List (Fin 2048)) (i : Nat) (m : Fin 2048) : Fin 2048 := mk ((LL m).filter (keep Y i))
theorem near_filter (m : Fin 2048) (p : Int → Bool) : Near ((LL m).filter p) := fun v hv => near_LL m v (List.mem_filter.1 hv).1
theorem LL_mk_filter (m : Fin 2048) (p : Int → Bool) : LL (mk ((LL m).filter p)) = (LL m).filter p := by
 refine L_filter (m := (mk ((LL m).filter p)).val) (m' := m.val) (p := p) fun v _ _ => ?_
 show v ∈ LL (mk ((LL m).filter p)) ↔ v ∈ LL m ∧ p v = true
 rw [mem_mk (near_filter m p), List.mem_filter]
theorem LL_turn (Y : List (Fin 2048)) (i : Nat) (m : Fin 2048) : LL (turn Y i m) = (LL m).filter (keep Y i) := LL_mk_filter m _
theorem LL_nil_iff (m : Fin 2048) : (LL m).length = 0 ↔ m.val = 0 := by
 constructor
 ·
  intro h; exact Classical.byContradiction fun hc => ne_all m hc h
 ·
  intro h; have : m = ⟨0, by decide⟩ := Fin.ext h
  rw [this]; rfl
theorem turn_len (Y : List (Fin 2048)) (i : Nat) (m : Fin 2048) : (LL (turn Y i m)).length ≤ (LL m).length := by rw [LL_turn]; exact List.length_filter_le _ _
theorem turn_same {Y : List (Fin 2048)} {i : Nat} {m : Fin 2048} (h : (LL (turn Y i m)).length = (LL m).length) : turn Y i m = m := by
 refine mask_ext fun v => ?_
 rw [LL_turn] at h ⊢
 rw [List.filter_eq_self.2 (List.length_filter_eq_length_iff.1 h)]
theorem D_size (m : Fin 2048) : dom_Dom_Size.f (D m).f0 (D m).f1 (D m).f2 (D m).f3 (D m).f4 = some ((LL m).length : Int) := by
 show some (D m).f4 = _
 unfold D DM LL
 split
 ·
  rfl
 ·
  split <;> rfl
theorem side_l1 (ys : List (Fin 2048)) (hy : ys.length ≤ 5) (i : Nat) (hi : i ≤ 4) (X X2 : List S58) (m : Fin 2048) (n : Int) (ch : Bool) (e0 : Int) (e1 : List Int) (e2 e3 e4 : Int) : ∀ (r a k : Nat) (acc : List Int), (LL m).length = a + r → r < k → acc = ((LL m).take a).filter (keep ys i) →
  ∃ k', k' + r = k ∧ inverse_side.l1 k (ys.map D) ch (i : Int) acc X X2 n (i : Int) (LL m) ((LL m).length : Int) (a : Int) e0 e1 e2 e3 e4 = inverse_side.l1 k' (ys.map D) ch (i : Int) ((LL m).filter (keep ys i)) X X2 n (i : Int) (LL m) ((LL m).length : Int) ((LL m).length : Int) e0 e1 e2 e3 e4
 | 0, a, k, acc, e, _, ha => by
  refine ⟨k, rfl, ?_⟩
  have : (LL m).length = a := e
  rw [ha, List.take_of_length_le (by omega), this]
 | r + 1, a, k + 1, acc, e, hk, ha => by
  have h11 := (len_all m).1
  have hj : a < (LL m).length := by omega
  obtain ⟨v, ev⟩ : ∃ v, (LL m).getD a 0 = v := ⟨_, rfl⟩
  have hv := near_LL m v (by rw [← ev]; exact getD_mem (LL m) 0 hj)
  have hacc : acc.length ≤ 11 := by rw [ha]; exact Nat.le_trans (List.length_filter_le _ _) (by rw [List.length_take]; omega)
  have htake : (LL m).take (a + 1) = (LL m).take a ++ [v] := by rw [← ev, take_step (LL m) 0 hj]
  have go : ∀ acc', acc' = ((LL m).take (a + 1)).filter (keep ys i) → ∃ k', k' + (r + 1) = k + 1 ∧ inverse_side.l1 k (ys.map D) ch (i : Int) acc' X X2 n (i : Int) (LL m) ((LL m).length : Int) ((a + 1 : Nat) : Int) e0 e1 e2 e3 e4 = inverse_side.l1 k' (ys.map D) ch (i : Int) ((LL m).filter (keep ys i)) X X2 n (i : Int) (LL m) ((LL m).length : Int) ((LL m).length : Int) e0 e1 e2 e3 e4 := by
   intro acc' h
   obtain ⟨k', h1, h2⟩ := side_l1 ys hy i hi X X2 m n ch e0 e1 e2 e3 e4 r (a + 1) k acc' (by omega) (by omega) h
   exact ⟨k', by omega, h2⟩
  have no : keep ys i v = false → ((LL m).take (a + 1)).filter (keep ys i) = acc := fun h => by rw [htake, List.filter_append, ha, List.filter_cons_of_neg (by rw [h]; decide), List.filter_nil, List.append_nil]
  have yes : keep ys i v = true → ((LL m).take (a + 1)).filter (keep ys i) = acc ++ [v] := fun h => by rw [htake, List.filter_append, ha, List.filter_cons_of_pos h, List.filter_nil]
  rw [inverse_side.l1, if_pos (nlt hj), ipo_, if_pos (nlt hj), rd_at, ev, List.length_map, wrap_succ (j := a) (by omega)]
  by_cases c1 : v ≥ 1
  ·
   rw [if_pos c1]
   by_cases c2 : v ≤ (ys.length : Int)
   ·
    have hw : wrap64 (v - 1) = (((v - 1).toNat : Nat) : Int) := by rw [wrap_id (by omega) (by omega)]; omega
    have hu : (v - 1).toNat < ys.length := by omega
    rw [if_pos c2, hw, ipo_, ipo_, rdD_at, getD_map D ys ⟨0, by decide⟩ z58 hu, wrap_succ (j := i) (by omega), has_one _ (by omega), obs_]
    have hkeep : keep ys i v = decide (((i + 1 : Nat) : Int) ∈ LL (ys.getD (v - 1).toNat ⟨0, by decide⟩)) := by
     unfold keep
     rw [decide_eq_true (show 1 ≤ v ∧ v ≤ (ys.length : Int) from ⟨c1, c2⟩), Bool.true_and]
     rfl
    by_cases c3 : ((i + 1 : Nat) : Int) ∈ LL (ys.getD (v - 1).toNat ⟨0, by decide⟩)
    ·
     rw [if_pos (decide_eq_true c3), ipo_]
     exact go _ (yes (by rw [hkeep]; exact decide_eq_true c3)).symm
    ·
     rw [if_neg (by simpa using c3)]
     exact go _ (no (by rw [hkeep]; exact decide_eq_false c3)).symm
   ·
    rw [if_neg c2]
    exact go _ (no (by unfold keep; rw [decide_eq_false (fun h => c2 h.2)]; rfl)).symm
  ·
   rw [if_neg c1]
   exact go _ (no (by unfold keep; rw [decide_eq_false (fun h => c1 h.1)]; rfl)).symm
def part (xs ys : List (Fin 2048)) (j : Nat) : List (Fin 2048) := (List.range xs.length).map fun i => if i < j then turn ys i (xs.getD i ⟨0, by decide⟩) else xs.getD i ⟨0, by decide⟩
theorem part_len (xs ys : List (Fin 2048)) (j : Nat) : (part xs ys j).length = xs.length := by simp [part]
theorem part_at (xs ys : List (Fin 2048)) (j i : Nat) (hi : i < xs.length) : (part xs ys j).getD i ⟨0, by decide⟩ = if i < j then turn ys i (xs.getD i ⟨0, by decide⟩) else xs.getD i ⟨0, by decide⟩ := by
 rw [getD_lt _ _ (by rw [part_len]; exact hi)]; simp [part]
theorem list_ext {a b : List (Fin 2048)} (hl : a.length = b.length) (h : ∀ i, i < a.length → a.getD i ⟨0, by decide⟩ = b.getD i ⟨0, by decide⟩) : a = b := by
 refine List.ext_getElem hl fun i h1 h2 => ?_
 have := h i h1
 rwa [getD_lt _ _ h1, getD_lt _ _ h2] at this
theorem part_zero (xs ys : List (Fin 2048)) : part xs ys 0 = xs := list_ext (part_len _ _ _) fun i hi => by
 rw [part_len] at hi
 rw [part_at xs ys 0 i hi, ino_]
theorem part_succ (xs ys : List (Fin 2048)) (j : Nat) (hj : j < xs.length) : part xs ys (j + 1) = (part xs ys j).set j (turn ys j (xs.getD j ⟨0, by decide⟩)) := by
 refine list_ext (by rw [List.length_set, part_len, part_len]) fun i hi => ?_
 rw [part_len] at hi
 have e : ((part xs ys j).set j (turn ys j (xs.getD j ⟨0, by decide⟩))).getD i ⟨0, by decide⟩ = if j = i then turn ys j (xs.getD j ⟨0, by decide⟩) else (part xs ys j).getD i ⟨0, by decide⟩ := by
  rw [List.getD_eq_getElem?_getD, List.getElem?_set, part_len]
  split
  ·
   rename_i h; first | rfl | (subst h; rw [if_pos hj]; rfl)
  ·
   rw [List.getD_eq_getElem?_getD]
 rw [e, part_at xs ys (j + 1) i hi, part_at xs ys j i hi]
 by_cases h1 : j = i
 ·
  subst h1; rw [ipo_, if_pos rfl]
 ·
  rw [if_neg h1]
  by_cases h2 : i < j
  ·
   rw [ipo_, if_pos h2]
  ·
   rw [ino_, if_neg h2]
theorem part_keep (xs ys : List (Fin 2048)) (j : Nat) (hj : j < xs.length) (h : turn ys j (xs.getD j ⟨0, by decide⟩) = xs.getD j ⟨0, by decide⟩) : part xs ys (j + 1) = part xs ys j := by
 refine list_ext (by rw [part_len, part_len]) fun i hi => ?_
 rw [part_len] at hi
 rw [part_at xs ys (j + 1) i hi, part_at xs ys j i hi]
 by_cases h1 : i = j
 ·
  rw [h1, ipo_, ino_, h]
 ·
  by_cases h2 : i < j
  ·
   rw [ipo_, if_pos h2]
  ·
   rw [ino_, if_neg h2]
def side (xs ys : List (Fin 2048)) : List (Fin 2048) := part xs ys xs.length
theorem side_l0 (xs ys : List (Fin 2048)) (hx : xs.length ≤ 4) (hy : ys.length ≤ 5) (hl : ys.length = xs.length) : ∀ (r j k : Nat) (ch : Bool), xs.length = j + r → 60 * r + 60 < k → (ch = true ↔ part xs ys j ≠ xs) → (∀ i, i < j → (turn ys i (xs.getD i ⟨0, by decide⟩)).val ≠ 0) →
  ((∃ i, i < xs.length ∧ (turn ys i (xs.getD i ⟨0, by decide⟩)).val = 0) ∧ ∃ q c, inverse_side.l0 k (ys.map D) ch ((part xs ys j).map D) (xs.map D) (xs.length : Int) (j : Int) = some (q, c, false)) ∨
  ((∀ i, i < xs.length → (turn ys i (xs.getD i ⟨0, by decide⟩)).val ≠ 0) ∧ ∃ c : Bool, (c = true ↔ side xs ys ≠ xs) ∧ inverse_side.l0 k (ys.map D) ch ((part xs ys j).map D) (xs.map D) (xs.length : Int) (j : Int) = some ((side xs ys).map D, c, true))
 | 0, j, k + 1, ch, e, _, hc, h => by
  refine .inr ⟨fun i hi => h i (by omega), ch, ?_, ?_⟩
  ·
   unfold side; rw [show xs.length = j from e]; exact hc
  ·
   rw [inverse_side.l0, ino_]
   unfold side; rw [show xs.length = j from e]
 | r + 1, j, k + 1, ch, e, hk, hc, h => by
  have hj : j < xs.length := by omega
  have hp : (part xs ys j).getD j ⟨0, by decide⟩ = xs.getD j ⟨0, by decide⟩ := by rw [part_at xs ys j j hj, ino_]
  obtain ⟨m, em⟩ : ∃ m, xs.getD j ⟨0, by decide⟩ = m := ⟨_, rfl⟩
  rw [em] at hp
  have h11 := (len_all m).1
  rw [inverse_side.l0, if_pos (nlt hj), ipo_, List.length_map, if_pos (nlt hj), rdD_at, getD_map D (part xs ys j) ⟨0, by decide⟩ z58 (by rw [part_len]; exact hj), hp, list_one m (by omega), obs_]
  obtain ⟨k1, h1, h2⟩ := side_l1 ys hy j (by omega) ((part xs ys j).map D) (xs.map D) m (xs.length : Int) ch (D m).f0 (D m).f1 (D m).f2 (D m).f3 (D m).f4 (LL m).length 0 k [] (by omega) (by omega) rfl
  have h2' : inverse_side.l1 k (ys.map D) ch (j : Int) [] ((part xs ys j).map D) (xs.map D) (xs.length : Int) (j : Int) (LL m) ((LL m).length : Int) 0 (D m).f0 (D m).f1 (D m).f2 (D m).f3 (D m).f4 = _ := h2
  rw [h2']
  obtain ⟨k2, rfl⟩ : ∃ k2, k1 = k2 + 1 := ⟨k1 - 1, by omega⟩
  rw [← LL_turn, inverse_side.l1, ino_]
  by_cases c0 : (LL (turn ys j m)).length = 0
  ·
   rw [ipo_]
   exact .inl ⟨⟨j, hj, by rw [em]; exact (LL_nil_iff _).1 c0⟩, _, _, rfl⟩
  ·
   have hne : (turn ys j m).val ≠ 0 := fun hz => c0 ((LL_nil_iff _).2 hz)
   have hall : ∀ i, i < j + 1 → (turn ys i (xs.getD i ⟨0, by decide⟩)).val ≠ 0 := fun i hi => by
    by_cases ei : i = j
    ·
     rw [ei, em]; exact hne
    ·
     exact h i (by omega)
   have htl := turn_len ys j m
   rw [ino_, D_size, obs_]
   by_cases c1 : ((LL (turn ys j m)).length : Int) < ((LL m).length : Int)
   ·
    rw [if_pos c1, of_one hne (by omega), obs_, ipo_, List.length_map, part_len, if_pos (nlt hj), wsu_]
    have es : ((part xs ys j).map D).set ((j : Int)).toNat (⟨(D (turn ys j m)).f0, (D (turn ys j m)).f1, (D (turn ys j m)).f2, (D (turn ys j m)).f3, (D (turn ys j m)).f4⟩ : S58) = (part xs ys (j + 1)).map D := by
     rw [part_succ xs ys j hj, em, List.map_set]
     rfl
    show _ ∨ _
    have hgo := side_l0 xs ys hx hy hl r (j + 1) k2 true (by omega) (by omega) (by
     refine ⟨fun _ hs => ?_, fun _ => rfl⟩
     have := congrArg (fun l => l.getD j ⟨0, by decide⟩) hs
     simp only [part_at xs ys (j + 1) j hj, if_pos (show j < j + 1 by omega), em] at this
     rw [this] at c1
     omega) hall
    rw [← es] at hgo
    exact hgo
   ·
    rw [if_neg c1, wsu_]
    have hsame : turn ys j m = m := turn_same (by omega)
    have hpk := part_keep xs ys j hj (by rw [em]; exact hsame)
    have hgo := side_l0 xs ys hx hy hl r (j + 1) k2 ch (by omega) (by omega) (by rw [hpk]; exact hc) hall
    rw [hpk] at hgo
    exact hgo
theorem side_f (xs ys : List (Fin 2048)) (hx : xs.length ≤ 4) (hl : ys.length = xs.length) {k : Nat} (hk : 400 ≤ k) :
  ((∃ i, i < xs.length ∧ (turn ys i (xs.getD i ⟨0, by decide⟩)).val = 0) ∧ ∃ q c, inverse_side.f k (xs.map D) (ys.map D) = some (q, c, false)) ∨
  ((∀ i, i < xs.length → (turn ys i (xs.getD i ⟨0, by decide⟩)).val ≠ 0) ∧ ∃ c : Bool, (c = true ↔ side xs ys ≠ xs) ∧ inverse_side.f k (xs.map D) (ys.map D) = some ((side xs ys).map D, c, true)) := by
 have h := side_l0 xs ys hx (by omega) hl xs.length 0 k false (by omega) (by omega) (by rw [part_zero]; simp) (fun i hi => by omega)
 rw [part_zero] at h
 unfold inverse_side.f
 rw [List.length_map]
 exact h
theorem side_len (xs ys : List (Fin 2048)) : (side xs ys).length = xs.length := part_len _ _ _
theorem side_at (xs ys : List (Fin 2048)) (i : Nat) (hi : i < xs.length) : (side xs ys).getD i ⟨0, by decide⟩ = turn ys i (xs.getD i ⟨0, by decide⟩) := by
 unfold side
 rw [part_at xs ys xs.length i hi, if_pos hi]
theorem side_dead {xs ys : List (Fin 2048)} (h : ∃ i, i < xs.length ∧ (turn ys i (xs.getD i ⟨0, by decide⟩)).val = 0) : ∃ i, i < xs.length ∧ ((side xs ys).getD i ⟨0, by decide⟩).val = 0 := by
 obtain ⟨i, hi, h0⟩ := h
 exact ⟨i, hi, by rw [side_at xs ys i hi]; exact h0⟩
theorem app_at (A B : List (Fin 2048)) (i : Nat) : (A ++ B).getD i ⟨0, by decide⟩ = if i < A.length then A.getD i ⟨0, by decide⟩ else B.getD (i - A.length) ⟨0, by decide⟩ := by
 rw [List.getD_eq_getElem?_getD]
 split
 ·
  rename_i h; rw [List.getElem?_append_left h, List.getD_eq_getElem?_getD]
 ·
  rename_i h; rw [List.getElem?_append_right (by omega), List.getD_eq_getElem?_getD]
theorem prog_round (n : Nat) (hn : n ≤ 4) (A B : List (Fin 2048)) (hA : A.length = n) (hB : B.length = n) {k : Nat} (hk : 1000 ≤ k) :
  ((∃ i, i < 2 * n ∧ ((side A B ++ side B (side A B)).getD i ⟨0, by decide⟩).val = 0) ∧ inverse_Filter.l0 (k + 1) (A.map D) (B.map D) = some ([], false)) ∨
  ((∀ i, i < 2 * n → ((side A B ++ side B (side A B)).getD i ⟨0, by decide⟩).val ≠ 0) ∧ inverse_Filter.l0 (k + 1) (A.map D) (B.map D) = if side A B = A ∧ side B (side A B) = B then some ((side A B ++ side B (side A B)).map D, true) else inverse_Filter.l0 k ((side A B).map D) ((side B (side A B)).map D)) := by
 have hp : (side A B).length = n := by rw [side_len]; exact hA
 have hq : (side B (side A B)).length = n := by rw [side_len]; exact hB
 rw [inverse_Filter.l0]
 rcases side_f A B (by omega) (by omega) (k := k) (by omega) with ⟨hd, q, c, e⟩ | ⟨hl, c1, hc1, e⟩
 ·
  obtain ⟨i, hi, h0⟩ := side_dead hd
  refine .inl ⟨⟨i, by omega, by rw [app_at, ipo_]; exact h0⟩, ?_⟩
  rw [e, obs_, if_neg (by simp)]
 ·
  rw [e, obs_, if_pos rfl]
  rcases side_f B (side A B) (by omega) (by omega) (k := k) (by omega) with ⟨hd, q, c, e'⟩ | ⟨hl', c2, hc2, e'⟩
  ·
   obtain ⟨i, hi, h0⟩ := side_dead hd
   refine .inl ⟨⟨n + i, by omega, by rw [app_at, ino_, hp, Nat.add_sub_cancel_left]; exact h0⟩, ?_⟩
   rw [e', obs_, if_neg (by simp)]
  ·
   refine .inr ⟨fun i hi => ?_, ?_⟩
   ·
    rw [app_at]
    split
    ·
     rename_i h; rw [side_at A B i (by omega)]; exact hl i (by omega)
    ·
     rename_i h; rw [side_at B (side A B) (i - (side A B).length) (by omega)]; exact hl' _ (by omega)
   ·
    rw [e', obs_, if_pos rfl]
    cases c1 with
    | true => rw [if_pos rfl, if_neg (fun h => (hc1.1 rfl) h.1)]
    | false =>
     have s1 : side A B = A := Classical.byContradiction fun h => by have := hc1.2 h; cases this
     rw [if_neg (by simp)]
     cases c2 with
     | true => rw [if_pos rfl, if_neg (fun h => (hc2.1 rfl) h.2)]
     | false =>
      have s2 : side B (side A B) = B := Classical.byContradiction fun h => by have := hc2.2 h; cases this
      rw [if_neg (by simp), if_pos ⟨s1, s2⟩, List.map_append]
theorem make_f (l1 l2 l3 : List Int) (a4 a5 : Int) (h1 : ∀ x ∈ l1, 0 ≤ x ∧ x ≤ 255) (h2 : ∀ x ∈ l2, 0 ≤ x ∧ x ≤ 255) {k : Nat} (hk : 20 ≤ k) :
  ∃ (n : Nat) (p q : List Int), 1 ≤ n ∧ n ≤ 4 ∧ Places n p ∧ Places n q ∧ jigsawref06_Make.f k 22 l1 l2 l3 a4 a5 5 = some (23, p, q, [], [], [], 0, []) := by
 have hw : wrap64 (1 + Int.tmod (wrap64 22) 23) = 23 := by decide +kernel
 have hs : jigsawref06_Shapes.f = some ((jigsawref06_Shapes.f).getD []) := by rfl
 have hlen : ((jigsawref06_Shapes.f).getD []).length = 24 := by decide +kernel
 have hvw : rdOf ByteArray.empty ((jigsawref06_Shapes.f).getD []) 23 = (⟨#[86, 87]⟩ : ByteArray) := by rfl
 have key : ∀ n : Nat, n ≤ 4 → ∀ k, 10 ≤ k → ∃ p q, Places n p ∧ Places n q ∧ jigsawref06_Make.j1 k 5 (⟨#[86, 87]⟩ : ByteArray) (n : Int) 22 l1 l2 l3 a4 a5 23 0 = some (23, p, q, [], [], [], 0, []) := by
  intro n hn k hk
  obtain ⟨k, rfl⟩ : ∃ k', k = k' + 1 := ⟨k - 1, by omega⟩
  obtain ⟨p, hp, hpp⟩ := places_f l1 h1 n hn (k := k) (by omega)
  obtain ⟨q, hq, hqq⟩ := places_f l2 h2 n hn (k := k) (by omega)
  refine ⟨p, q, hpp, hqq, ?_⟩
  rw [jigsawref06_Make.j1, has_f (r := 0) (by decide +kernel) (by omega), obs_, ind_, hp, obs_, has_f (r := 0) (by decide +kernel) (by omega), obs_, ind_, has_f (r := 1) (by decide +kernel) (by omega), obs_, if_pos (by decide), hq, obs_, has_f (r := 0) (by decide +kernel) (by omega), obs_, ind_, ind_, has_f (r := 0) (by decide +kernel) (by omega), obs_, ind_, ind_, ind_, ind_]
 have key0 : ∀ n : Nat, 1 ≤ n → ∃ (m : Nat) (p q : List Int), 1 ≤ m ∧ m ≤ 4 ∧ Places m p ∧ Places m q ∧ jigsawref06_Make.j0 k 5 (⟨#[86, 87]⟩ : ByteArray) (n : Int) 22 l1 l2 l3 a4 a5 23 0 = some (23, p, q, [], [], [], 0, []) := by
  intro n hn
  obtain ⟨k, rfl⟩ : ∃ k', k = k' + 1 := ⟨k - 1, by omega⟩
  by_cases h4 : n ≤ 4
  ·
   obtain ⟨p, q, hp, hq, e⟩ := key n h4 k (by omega)
   exact ⟨n, p, q, hn, h4, hp, hq, by rw [jigsawref06_Make.j0, ino_]; exact e⟩
  ·
   obtain ⟨p, q, hp, hq, e⟩ := key 4 (by decide) k (by omega)
   exact ⟨4, p, q, by decide, by decide, hp, hq, by rw [jigsawref06_Make.j0, ipo_]; exact e⟩
 unfold jigsawref06_Make.f
 rw [hs, obs_, hw, hlen, if_pos (by decide), if_pos (by decide), hvw]
 by_cases h0 : l1.length < 1
 ·
  rw [ipo_]
  exact key0 1 (by decide)
 ·
  rw [ino_]
  exact key0 l1.length (by omega)
theorem case_l0 (p q : List Int) (h : Nat) (n : Nat) (hp : p.length = h) (hq : q.length = h) (hh : n = 2 * h) (hn : n ≤ 8) (a0 a4 a5 : Int) (l1 l2 l3 : List Int) (l6 : List (List Int)) : ∀ (m j k : Nat) (ms : List (Fin 2048)), n = j + m → m + 4300 < k → ms.length = j → (∀ c ∈ ms, c.val ≠ 0) →
  ∃ ms' : List (Fin 2048), ms'.length = n ∧ (∀ c ∈ ms', c.val ≠ 0) ∧ jigsawref10_Make.l0 k 5 (ms.map LL) (j : Int) a0 l1 l2 l3 a4 a5 l6 23 p q [] [] [] 0 [] = some (23, p, q, [], [], [], 0, [], ms'.map LL)
 | 0, j, k + 1, ms, e, hk, hl, hs => by
  have hw : wrap64 ((h : Int) + (h : Int)) = (n : Int) := by rw [wrap_id (by omega) (by omega)]; omega
  refine ⟨ms, by omega, hs, ?_⟩
  rw [jigsawref10_Make.l0, hp, hq, hw, ino_]
 | m + 1, j, k + 1, ms, e, hk, hl, hs => by
  have hw : wrap64 ((h : Int) + (h : Int)) = (n : Int) := by rw [wrap_id (by omega) (by omega)]; omega
  have step : ∀ c : Fin 2048, c.val ≠ 0 → ∃ ms' : List (Fin 2048), ms'.length = n ∧ (∀ c ∈ ms', c.val ≠ 0) ∧ jigsawref10_Make.l0 k 5 ((ms.map LL) ++ [LL c]) (wrap64 ((j : Int) + 1)) a0 l1 l2 l3 a4 a5 l6 23 p q [] [] [] 0 [] = some (23, p, q, [], [], [], 0, [], ms'.map LL) := by
   intro c hc
   have h := case_l0 p q h n hp hq hh hn a0 a4 a5 l1 l2 l3 l6 m (j + 1) k (ms ++ [c]) (by omega) (by omega) (by simp [hl]) (fun x hx => by
    rcases List.mem_append.1 hx with h | h
    ·
     exact hs x h
    ·
     rw [List.mem_singleton] at h; rw [h]; exact hc)
   rw [wsu_]
   rwa [List.map_append] at h
  have hlm : (ms.map LL).length < 5864062014805 := by simp; omega
  rw [jigsawref10_Make.l0, hp, hq, hw, ipo_, obs_]
  have dflt : ∃ c : Fin 2048, c.val ≠ 0 ∧ jigsawref02_Small.f k [Int.tmod (j : Int) 3, 1] 6 5 = some (LL c) := small_f _ (by simp) (by omega)
  by_cases hx : j < l6.length
  ·
   rw [if_pos (nlt hx), ipo_, rdL_at]
   by_cases hz : ((l6.getD j []).length : Int) > 0
   ·
    obtain ⟨c, hc, h⟩ := small_f (l6.getD j []) (by omega) (k := k) (by omega)
    rw [if_pos hz, h, obs_, if_pos hlm]
    exact step c hc
   ·
    obtain ⟨c, hc, h⟩ := dflt
    rw [if_neg hz, h, obs_, if_pos hlm]
    exact step c hc
  ·
   obtain ⟨c, hc, h⟩ := dflt
   rw [if_neg (nge hx), h, obs_, if_pos hlm]
   exact step c hc
theorem case_f (a0 a4 a5 : Int) (l1 l2 l3 : List Int) (l6 : List (List Int)) (h1 : ∀ x ∈ l1, 0 ≤ x ∧ x ≤ 255) (h2 : ∀ x ∈ l2, 0 ≤ x ∧ x ≤ 255) {k : Nat} (hk : 4400 ≤ k) :
  ∃ (n : Nat) (p q : List Int) (ms : List (Fin 2048)), 1 ≤ n ∧ n ≤ 4 ∧ Places n p ∧ Places n q ∧ ms.length = 2 * n ∧ (∀ c ∈ ms, c.val ≠ 0) ∧ jigsawref10_Make.f k a0 l1 l2 l3 a4 a5 l6 23 5 = some (23, p, q, [], [], [], 0, [], ms.map LL) := by
 have hw : (wrap64 ((23 : Int) - 1)) % 256 = 22 := by decide +kernel
 obtain ⟨n, p, q, g1, g2, g3, g4, g5⟩ := make_f l1 l2 l3 a4 a5 h1 h2 (k := k) (by omega)
 obtain ⟨ms, f1, f2, f3⟩ := case_l0 p q n (2 * n) g3.1 g4.1 rfl (by omega) 22 a4 a5 l1 l2 l3 l6 (2 * n) 0 k [] (by omega) (by omega) rfl (fun c hc => by simp at hc)
 refine ⟨n, p, q, ms, g1, g2, g3, g4, f1, f2, ?_⟩
 unfold jigsawref10_Make.f
 rw [hw, g5, obs_]
 exact f3
theorem idx_fits (ds : List S58) (hd : ∀ d ∈ ds, d.f4 ≠ 0) (hl : ds.length ≤ 100) : ∀ (m j k : Nat), ds.length = j + m → m < k → dom_Dom_75_at_prop_Fits_1.l0 k ds (ds.length : Int) (j : Int) = some (-1)
 | 0, j, k + 1, e, _ => by rw [dom_Dom_75_at_prop_Fits_1.l0, ino_]
 | m + 1, j, k + 1, e, hk => by
  have hj : j < ds.length := by omega
  have hv := hd (ds.getD j z58) (by rw [getD_lt _ _ hj]; exact List.getElem_mem _)
  rw [dom_Dom_75_at_prop_Fits_1.l0, if_pos (nlt hj), ipo_, if_pos (nlt hj), rdD_at]
  have hf : prop_Fits_1.f (ds.getD j z58).f0 (ds.getD j z58).f1 (ds.getD j z58).f2 (ds.getD j z58).f3 (ds.getD j z58).f4 = some false := by
   unfold prop_Fits_1.f dom_Dom_Size.f
   rw [obs_]
   congr 1
   exact beq_eq_false_iff_ne.2 hv
  rw [hf, obs_, ind_, wsu_]
  exact idx_fits ds hd hl m (j + 1) k (by omega) (by omega)
theorem idx_right (l : List Int) (hp : ∀ x ∈ l, 0 ≤ x ∧ x ≤ 4) (hl : l.length ≤ 100) : ∀ (m j k : Nat), l.length = j + m → m < k → slices_IndexFunc_int_int_84_at_model_Right_1.l0 k l (l.length : Int) (j : Int) 256 = some (-1)
 | 0, j, k + 1, e, _ => by rw [slices_IndexFunc_int_int_84_at_model_Right_1.l0, ino_]
 | m + 1, j, k + 1, e, hk => by
  have hj : j < l.length := by omega
  have hv := hp (l.getD j 0) (by rw [getD_lt _ _ hj]; exact List.getElem_mem _)
  rw [slices_IndexFunc_int_int_84_at_model_Right_1.l0, if_pos (nlt hj), ipo_, if_pos (nlt hj), rd_at]
  have hf : model_Right_1.f (l.getD j 0) 256 = some false := by
   unfold model_Right_1.f
   rw [ino_, decide_eq_false (by omega)]
  rw [hf, obs_, ind_, wsu_]
  exact idx_right l hp hl m (j + 1) k (by omega) (by omega)
theorem vars_f (p q : List Int) (n : Nat) (hp : p.length = n) (hq : q.length = n) (hn : n ≤ 4) {k : Nat} (hk : 20 ≤ k) : model_Vars.f k 23 p q [] [] [] 0 [] = some (p ++ q) := by
 obtain ⟨k, rfl⟩ : ∃ k', k = k' + 6 := ⟨k - 6, by omega⟩
 have r0 : rd_L5 [p, q] 0 = p := rfl
 have r1 : rd_L5 [p, q] 1 = q := rfl
 have e1 : wrap64 (0 + (n : Int)) = (n : Int) := by rw [wrap_id (by omega) (by omega)]; omega
 have e2 : wrap64 ((n : Int) + (n : Int)) = (n : Int) + n := wrap_id (by omega) (by omega)
 have w1 : wrap64 (0 + 1) = 1 := by decide +kernel
 have w2 : wrap64 (1 + 1) = 2 := by decide +kernel
 have hlen : (([p, q] : List (List Int)).length : Int) = 2 := rfl
 unfold model_Vars.f slices_Concat_int_int.f
 rw [hlen, slices_Concat_int_int.l0, if_pos (by decide), if_pos (by decide), hlen, if_pos (by decide), r0, hp, e1, ino_, w1, slices_Concat_int_int.l0, if_pos (by decide), if_pos (by decide), hlen, if_pos (by decide), r1, hq, e2, ino_, w2, slices_Concat_int_int.l0, ind_]
 have hg : slices_GrowNil.f ((n : Int) + n) = some [] := by unfold slices_GrowNil.f; rw [if_pos ⟨by omega, by omega⟩]
 rw [hg, obs_, hlen, slices_Concat_int_int.l1, if_pos (by decide), if_pos (by decide), hlen, if_pos (by decide), r0, if_pos (by simp [hp]; omega), w1, slices_Concat_int_int.l1, if_pos (by decide), if_pos (by decide), hlen, if_pos (by decide), r1, if_pos (by simp [hp, hq]; omega), w2, slices_Concat_int_int.l1, ind_, obs_]
 simp
theorem bounded_f {a : Int} {k : Nat} (hk : 5 ≤ k) : model_bounded.f k [] a = some true := by
 obtain ⟨k, rfl⟩ : ∃ k', k = k' + 1 := ⟨k - 1, by omega⟩
 unfold model_bounded.f slices_ContainsFunc_int_int_60_at_model_bounded_1.f slices_IndexFunc_int_int_84_at_model_bounded_1.f
 rw [slices_IndexFunc_int_int_84_at_model_bounded_1.l0, ind_, obs_, obs_]
 rfl
theorem right_f (p q : List Int) (n : Nat) (h1 : 1 ≤ n) (hn : n ≤ 4) (hp : Places n p) (hq : Places n q) {k : Nat} (hk : 30 ≤ k) : model_Right.f k 23 p q [] [] [] 0 [] 256 = some 0 := by
 have hs : model_Shape.f 23 = some (⟨#[86, 87]⟩ : ByteArray) := by decide +kernel
 have hw : wrap64 ((n : Int) + (n : Int)) = (n : Int) + n := wrap_id (by omega) (by omega)
 have nm : ∀ (m : Nat) (c d : UInt8), 1 ≤ m → m ≤ 64 → 0 ≤ Lib.indexByte (⟨#[86, 87]⟩ : ByteArray).data.toList d → model_named.f (m : Int) (⟨#[86, 87]⟩ : ByteArray) ⟨#[c]⟩ ⟨#[d]⟩ = some true := by
  intro m c d g1 g2 g3
  unfold model_named.f model_within.f
  rw [show strings_Contains.f (⟨#[86, 87]⟩ : ByteArray) ⟨#[d]⟩ = some (decide (0 ≤ Lib.indexByte (⟨#[86, 87]⟩ : ByteArray).data.toList d)) from rfl, obs_, if_pos (by simpa using g3), ipo_, obs_, decide_eq_true (by omega)]
 have nz : ∀ d : UInt8, Lib.indexByte (⟨#[86, 87]⟩ : ByteArray).data.toList d < 0 → model_named.f 0 (⟨#[86, 87]⟩ : ByteArray) ⟨#[45]⟩ ⟨#[d]⟩ = some true := by
  intro d g
  unfold model_named.f
  rw [show strings_Contains.f (⟨#[86, 87]⟩ : ByteArray) ⟨#[d]⟩ = some (decide (0 ≤ Lib.indexByte (⟨#[86, 87]⟩ : ByteArray).data.toList d)) from rfl, obs_, if_neg (by simp; omega)]
  rfl
 have hc : model_counted.f 23 p q [] [] [] 0 [] (⟨#[86, 87]⟩ : ByteArray) = some true := by
  unfold model_counted.f
  rw [ind_, show strings_Contains.f (⟨#[86, 87]⟩ : ByteArray) ⟨#[114]⟩ = some false from by decide +kernel, obs_, ind_, if_pos (by decide), hp.1, hq.1, nm n 118 86 h1 (by omega) (by decide +kernel), obs_, if_pos rfl, nm n 119 87 h1 (by omega) (by decide +kernel), obs_, if_pos rfl, show (([] : List Int).length : Int) = 0 from rfl, nz 99 (by decide +kernel), obs_, if_pos rfl, nz 100 (by decide +kernel), obs_, if_pos rfl, nz 101 (by decide +kernel), obs_]
 have ha : model_alike.f 23 p q [] [] [] 0 [] = some true := by
  unfold model_alike.f
  rw [ind_, ind_, ind_, ind_, ind_, ind_, ind_, if_pos rfl, hp.1, hq.1, beq_self_eq_true]
 have hi : slices_ContainsFunc_int_int_60_at_model_Right_1.f k (p ++ q) 256 = some false := by
  unfold slices_ContainsFunc_int_int_60_at_model_Right_1.f slices_IndexFunc_int_int_84_at_model_Right_1.f
  have h := idx_right (p ++ q) (fun x hx => by rcases List.mem_append.1 hx with h | h; exact hp.2 x h; exact hq.2 x h) (by simp [hp.1, hq.1]; omega) (p ++ q).length 0 k (by omega) (by simp [hp.1, hq.1]; omega)
  have h' : slices_IndexFunc_int_int_84_at_model_Right_1.l0 k (p ++ q) ((p ++ q).length : Int) 0 256 = some (-1) := h
  rw [h', obs_]
  rfl
 have hb : model_numbers.f k 23 p q [] [] [] 0 [] = some true := by
  obtain ⟨k, rfl⟩ : ∃ k', k = k' + 1 := ⟨k - 1, by omega⟩
  unfold model_numbers.f
  rw [ind_, ind_, model_numbers.l0, ind_, bounded_f (by omega), obs_, if_pos rfl, obs_, if_pos rfl, obs_, if_pos rfl, if_pos (by decide)]
  rfl
 have hn' : model_counts.f 23 p q [] [] [] 0 [] = some true := by unfold model_counts.f; rw [ind_]
 unfold model_Right.f
 rw [hs, obs_, if_neg (by decide +kernel), hc, obs_, if_pos rfl, ha, obs_, if_pos rfl, if_pos rfl, vars_f p q n hp.1 hq.1 hn (by omega), obs_, hi, obs_, ind_, hb, obs_, if_pos rfl, hn', obs_, if_pos rfl]
theorem fits_f (p q : List Int) (ds : List S58) (n : Nat) (h1 : 1 ≤ n) (hn : n ≤ 4) (hp : Places n p) (hq : Places n q) (hv : ds.length = 2 * n) (hz : ∀ d ∈ ds, d.f4 ≠ 0) {k : Nat} (hk : 30 ≤ k) : prop_Fits.f k 23 p q [] [] [] 0 [] ds 23 23 = some true := by
 have hi : dom_Dom_56_at_prop_Fits_1.f k ds = some false := by
  unfold dom_Dom_56_at_prop_Fits_1.f dom_Dom_75_at_prop_Fits_1.f
  have h' : dom_Dom_75_at_prop_Fits_1.l0 k ds ((ds.length : Nat) : Int) 0 = some (-1) := idx_fits ds hz (by omega) ds.length 0 k (by omega) (by omega)
  rw [h', obs_]
  rfl
 have hw : wrap64 ((n : Int) + (n : Int)) = (n : Int) + n := wrap_id (by omega) (by omega)
 unfold prop_Fits.f
 rw [hi, obs_, if_pos (by decide), if_pos (by decide), right_f p q n h1 hn hp hq hk, obs_, if_pos rfl, hp.1, hq.1, hw, ipo_]
 rfl
theorem doms_l0 (ms : List (Fin 2048)) (hs : ∀ c ∈ ms, c.val ≠ 0) (hl : ms.length ≤ 100) : ∀ (m j k : Nat), ms.length = j + m → m + 50 < k →
  jigsawlaw22_doms.l0 k ((ms.take j).map D) (ms.map LL) (ms.length : Int) (j : Int) = some (ms.map D)
 | 0, j, k + 1, e, _ => by
  rw [jigsawlaw22_doms.l0, ino_, List.take_of_length_le (by omega)]
 | m + 1, j, k + 1, e, hk => by
  have hj : j < ms.length := by omega
  have hv := hs (ms.getD j 0) (by rw [getD_lt _ _ hj]; exact List.getElem_mem _)
  rw [jigsawlaw22_doms.l0, if_pos (nlt hj), ipo_, if_pos (by rw [List.length_map]; exact nlt hj), rdL_at, getD_map LL ms 0 [] hj, of_one hv (by omega), obs_, if_pos (by simp; omega), wsu_]
  have h := doms_l0 ms hs hl m (j + 1) k (by omega) (by omega)
  rw [← take_step ms 0 hj, List.map_append] at h
  exact h
theorem doms_f (ms : List (Fin 2048)) (hs : ∀ c ∈ ms, c.val ≠ 0) (hl : ms.length ≤ 100) {k : Nat} (hk : 200 ≤ k) : jigsawlaw22_doms.f k (ms.map LL) = some (ms.map D) := by
 have h := doms_l0 ms hs hl ms.length 0 k (by omega) (by omega)
 unfold jigsawlaw22_doms.f
 rw [List.length_map]
 exact h
theorem wf_u8 {x : Int} (h : (Lit.int .u8 x).wf = true) : 0 ≤ x ∧ x ≤ 255 := by
 simp only [Lit.wf, IntKind.min, IntKind.max, IntKind.signed, IntKind.bits, Bool.and_eq_true] at h
 simp at h
 omega
theorem keep_iff (Y : List (Fin 2048)) (i : Nat) (v : Int) : keep Y i v = true ↔ (1 ≤ v ∧ v ≤ (Y.length : Int)) ∧ ((i : Int) + 1) ∈ LL (Y.getD (v - 1).toNat ⟨0, by decide⟩) := by
 unfold keep
 rw [Bool.and_eq_true, decide_eq_true_iff, decide_eq_true_iff]
theorem mem_side (A B : List (Fin 2048)) {i : Nat} (hi : i < A.length) {v : Int} : v ∈ LL ((side A B).getD i ⟨0, by decide⟩) ↔ v ∈ LL (A.getD i ⟨0, by decide⟩) ∧ (1 ≤ v ∧ v ≤ (B.length : Int)) ∧ ((i : Int) + 1) ∈ LL (B.getD (v - 1).toNat ⟨0, by decide⟩) := by
 rw [side_at A B i hi, LL_turn, List.mem_filter, keep_iff]
theorem mem_turn (A B : List (Fin 2048)) (hl : B.length = A.length) {i k : Nat} (hi : i < A.length) (hk : k < B.length) : ((k : Int) + 1) ∈ LL ((side A B).getD i ⟨0, by decide⟩) ↔ ((i : Int) + 1) ∈ LL ((side B A).getD k ⟨0, by decide⟩) := by
 rw [mem_side A B hi, mem_side B A hk, show ((k : Int) + 1 - 1).toNat = k by omega, show ((i : Int) + 1 - 1).toNat = i by omega]
 exact ⟨fun h => ⟨h.2.2, ⟨by omega, by omega⟩, h.1⟩, fun h => ⟨h.2.2, ⟨by omega, by omega⟩, h.1⟩⟩
theorem side_ext {A C : List (Fin 2048)} (hl : C.length = A.length) (h : ∀ i, i < A.length → ∀ v, v ∈ LL (A.getD i ⟨0, by decide⟩) ↔ v ∈ LL (C.getD i ⟨0, by decide⟩)) : A = C := list_ext hl.symm fun i hi => mask_ext (h i hi)
theorem side_side (A B : List (Fin 2048)) (hl : B.length = A.length) : side B (side A B) = side B A :=
 side_ext (by rw [side_len, side_len]) fun k hk w => by
  rw [side_len] at hk
  rw [mem_side B (side A B) hk, mem_side B A hk, side_len]
  constructor
  ·
   rintro ⟨h1, h2, h3⟩
   have hi : (w - 1).toNat < A.length := by omega
   rw [mem_side A B hi] at h3
   exact ⟨h1, h2, h3.1⟩
  ·
   rintro ⟨h1, h2, h3⟩
   have hi : (w - 1).toNat < A.length := by omega
   refine ⟨h1, h2, (mem_side A B hi).2 ⟨h3, ⟨by omega, by omega⟩, ?_⟩⟩
   rw [show (((w - 1).toNat : Nat) : Int) + 1 = w by omega, show ((k : Int) + 1 - 1).toNat = k by omega]
   exact h1
theorem side_idem (A B : List (Fin 2048)) (hl : B.length = A.length) : side (side A B) (side B A) = side A B :=
 side_ext (by simp only [side_len]) fun i hi v => by
  rw [side_len, side_len] at hi
  rw [mem_side (side A B) (side B A) (by rw [side_len]; exact hi), side_len]
  refine ⟨fun h => h.1, fun h => ?_⟩
  have h' := (mem_side A B hi).1 h
  have hk : (v - 1).toNat < B.length := by omega
  refine ⟨h, h'.2.1, (mem_turn A B hl hi hk).1 ?_⟩
  rw [show (((v - 1).toNat : Nat) : Int) + 1 = v by omega]
  exact h
theorem filt_val (n : Nat) (hn : n ≤ 4) (A B : List (Fin 2048)) (hA : A.length = n) (hB : B.length = n) {k : Nat} (hk : 1010 ≤ k) :
  ∃ b : Bool, (b = true ↔ (∀ i, i < n → ((side A B).getD i ⟨0, by decide⟩).val ≠ 0) ∧ ∀ i, i < n → ((side B A).getD i ⟨0, by decide⟩).val ≠ 0) ∧ inverse_Filter.l0 k (A.map D) (B.map D) = some (if b = true then (side A B ++ side B A).map D else [], b) := by
 obtain ⟨k, rfl⟩ : ∃ k', k = k' + 2 := ⟨k - 2, by omega⟩
 have hl : B.length = A.length := by omega
 have l1 : (side A B).length = n := by rw [side_len]; exact hA
 have l2 : (side B A).length = n := by rw [side_len]; exact hB
 have all : ∀ P Q : List (Fin 2048), P.length = n → Q.length = n → ((∀ i, i < 2 * n → ((P ++ Q).getD i ⟨0, by decide⟩).val ≠ 0) ↔ (∀ i, i < n → (P.getD i ⟨0, by decide⟩).val ≠ 0) ∧ ∀ i, i < n → (Q.getD i ⟨0, by decide⟩).val ≠ 0) := by
  intro P Q hP hQ
  constructor
  ·
   intro h
   refine ⟨fun i hi => ?_, fun i hi => ?_⟩
   ·
    have := h i (by omega); rw [app_at, ipo_] at this; exact this
   ·
    have := h (n + i) (by omega); rw [app_at, ino_, hP, Nat.add_sub_cancel_left] at this; exact this
  ·
   rintro ⟨h1, h2⟩ i hi
   rw [app_at]
   split
   ·
    exact h1 i (by omega)
   ·
    exact h2 _ (by omega)
 rcases prog_round n hn A B hA hB (k := k + 1) (by omega) with ⟨⟨i, hi, h0⟩, e⟩ | ⟨hz, e⟩
 ·
  rw [side_side A B hl] at h0
  exact ⟨false, ⟨fun h => (by cases h), fun h => absurd h0 ((all _ _ l1 l2).2 h i hi)⟩, e⟩
 ·
  rw [side_side A B hl] at hz e
  refine ⟨true, ⟨fun _ => (all _ _ l1 l2).1 hz, fun _ => rfl⟩, e.trans ?_⟩
  by_cases c : side A B = A ∧ side B A = B
  ·
   rw [if_pos c]; rfl
  ·
   rw [if_neg c]
   have i1 := side_idem A B hl
   have i2 := side_idem B A hl.symm
   rcases prog_round n hn (side A B) (side B A) l1 l2 (k := k) (by omega) with ⟨⟨i, hi, h0⟩, e'⟩ | ⟨_, e'⟩
   ·
    rw [i1, i2] at h0
    exact absurd h0 (hz i hi)
   ·
    rw [i1, i2, if_pos ⟨rfl, rfl⟩] at e'
    exact e'
theorem filt_t (p q : List Int) (n : Nat) (h1 : 1 ≤ n) (hn : n ≤ 4) (hp : Places n p) (hq : Places n q) (A B : List (Fin 2048)) (hA : A.length = n) (hB : B.length = n) (hs : ∀ c ∈ A ++ B, c.val ≠ 0) {k : Nat} (hk : 2000 ≤ k) :
  ∃ b : Bool, (b = true ↔ (∀ i, i < n → ((side A B).getD i ⟨0, by decide⟩).val ≠ 0) ∧ ∀ i, i < n → ((side B A).getD i ⟨0, by decide⟩).val ≠ 0) ∧ inverse_Filter.f k 23 p q [] [] [] 0 [] ((A ++ B).map D) = some (if b = true then (side A B ++ side B A).map D else [], b) := by
 obtain ⟨b, hb, e⟩ := filt_val n hn A B hA hB (k := k) (by omega)
 refine ⟨b, hb, ?_⟩
 have hM : (A ++ B).length = 2 * n := by rw [List.length_append, hA, hB]; omega
 have hnn : (((p.length : Nat) : Int) : Int).toNat = n := by rw [hp.1]; omega
 have e1 : (A ++ B).take n = A := by rw [← hA]; exact List.take_left' rfl
 have e2 : (A ++ B).drop n = B := by rw [← hA]; exact List.drop_left' rfl
 unfold inverse_Filter.f slices_CloneDom.f
 rw [fits_f p q ((A ++ B).map D) n h1 hn hp hq (by rw [List.length_map]; exact hM) (fun d hd => by obtain ⟨m, hm, rfl⟩ := List.mem_map.1 hd; exact size_all m (hs m hm)) (by omega), obs_, if_pos rfl, if_pos (by rw [List.length_map]; omega), obs_, ipo_, if_pos (by rw [hp.1, List.length_map]; omega), if_pos (by rw [hp.1, List.length_map]; omega), hnn, ← List.map_take, ← List.map_drop, e1, e2]
 exact e
theorem wakes_true {k : Nat} (hk : 100 ≤ k) : jigsawlaw22_wakes.f k = some true :=
 up (f := fun k => jigsawlaw22_wakes.f k) jigsawlaw22_wakes.mono (by decide +kernel) hk
theorem equal_one {m : Fin 2048} (hm : m.val ≠ 0) {k : Nat} (hk : 40 ≤ k) : dom_Dom_Equal.f k (D m).f0 (D m).f1 (D m).f2 (D m).f3 (D m).f4 (D m).f0 (D m).f1 (D m).f2 (D m).f3 (D m).f4 = some true :=
 up (f := fun k => dom_Dom_Equal.f k (D m).f0 (D m).f1 (D m).f2 (D m).f3 (D m).f4 (D m).f0 (D m).f1 (D m).f2 (D m).f3 (D m).f4) (dom_Dom_Equal.mono _ _ _ _ _ _ _ _ _ _) (equal_all m hm) hk
theorem law_l1 (n : Nat) (hn : n ≤ 4) (P Q : List (Fin 2048)) (hP : P.length = n) (hQ : Q.length = n) (hT : ∀ i, i < n → ∀ k, k < n → (((k : Int) + 1) ∈ LL (P.getD i ⟨0, by decide⟩) ↔ ((i : Int) + 1) ∈ LL (Q.getD k ⟨0, by decide⟩))) (E : List S58) (i : Nat) (hi : i < n) : ∀ (m j k : Nat), n = j + m → m < k →
  ∃ k', k' + m + 1 = k ∧ jigsawlaw22_InverseTurns.l1 k (n : Int) ((P ++ Q).map D) true E (i : Int) (n : Int) (i : Int) (n : Int) (j : Int) = jigsawlaw22_InverseTurns.l0 k' (n : Int) ((P ++ Q).map D) true E (n : Int) ((i + 1 : Nat) : Int)
 | 0, j, k + 1, e, _ => ⟨k, rfl, by rw [jigsawlaw22_InverseTurns.l1, ino_, wsu_]⟩
 | m + 1, j, k + 1, e, hk => by
  have hj : j < n := by omega
  have hl : (P ++ Q).length = 2 * n := by rw [List.length_append, hP, hQ]; omega
  have ew : wrap64 ((n : Int) + (j : Int)) = ((n + j : Nat) : Int) := by rw [wrap_id (by omega) (by omega)]; omega
  obtain ⟨k', h1, h2⟩ := law_l1 n hn P Q hP hQ hT E i hi m (j + 1) k (by omega) (by omega)
  refine ⟨k', by omega, ?_⟩
  rw [jigsawlaw22_InverseTurns.l1, if_pos (nlt hj), ipo_, List.length_map, ipo_, rdD_at, getD_map D (P ++ Q) ⟨0, by decide⟩ z58 (by omega), app_at, ipo_, wrap_succ (j := j) (by omega), has_one _ (by omega), obs_, ew, ipo_, ipo_, rdD_at, getD_map D (P ++ Q) ⟨0, by decide⟩ z58 (by omega), app_at, ino_, hP, Nat.add_sub_cancel_left, wrap_succ (j := i) (by omega), has_one _ (by omega), obs_]
  have hd : decide (((j + 1 : Nat) : Int) ∈ LL (P.getD i ⟨0, by decide⟩)) = decide (((i + 1 : Nat) : Int) ∈ LL (Q.getD j ⟨0, by decide⟩)) := by
   rw [decide_eq_decide]
   exact hT i hi j hj
  rw [hd, if_neg (by simp)]
  exact h2
theorem law_l0 (n : Nat) (hn : n ≤ 4) (P Q : List (Fin 2048)) (hP : P.length = n) (hQ : Q.length = n) (hT : ∀ i, i < n → ∀ k, k < n → (((k : Int) + 1) ∈ LL (P.getD i ⟨0, by decide⟩) ↔ ((i : Int) + 1) ∈ LL (Q.getD k ⟨0, by decide⟩))) (hzP : ∀ i, i < n → (P.getD i ⟨0, by decide⟩).val ≠ 0) (hzQ : ∀ i, i < n → (Q.getD i ⟨0, by decide⟩).val ≠ 0) : ∀ (m j k : Nat), n = j + m → 6 * m + 50 < k →
  jigsawlaw22_InverseTurns.l0 k (n : Int) ((P ++ Q).map D) true ((Q ++ P).map D) (n : Int) (j : Int) = some true
 | 0, j, k + 1, e, _ => by rw [jigsawlaw22_InverseTurns.l0, ino_]
 | m + 1, j, k + 1, e, hk => by
  have hj : j < n := by omega
  have hl : (P ++ Q).length = 2 * n := by rw [List.length_append, hP, hQ]; omega
  have hl' : (Q ++ P).length = 2 * n := by rw [List.length_append, hP, hQ]; omega
  have ew : wrap64 ((n : Int) + (j : Int)) = ((n + j : Nat) : Int) := by rw [wrap_id (by omega) (by omega)]; omega
  obtain ⟨k', h1, h2⟩ := law_l1 n hn P Q hP hQ hT ((Q ++ P).map D) j hj n 0 k (by omega) (by omega)
  have g1 : ((P ++ Q).map D).getD j z58 = D (P.getD j ⟨0, by decide⟩) := by rw [getD_map D (P ++ Q) ⟨0, by decide⟩ z58 (by omega), app_at, ipo_]
  have g2 : ((Q ++ P).map D).getD (n + j) z58 = D (P.getD j ⟨0, by decide⟩) := by rw [getD_map D (Q ++ P) ⟨0, by decide⟩ z58 (by omega), app_at, ino_, hQ, Nat.add_sub_cancel_left]
  have g3 : ((P ++ Q).map D).getD (n + j) z58 = D (Q.getD j ⟨0, by decide⟩) := by rw [getD_map D (P ++ Q) ⟨0, by decide⟩ z58 (by omega), app_at, ino_, hP, Nat.add_sub_cancel_left]
  have g4 : ((Q ++ P).map D).getD j z58 = D (Q.getD j ⟨0, by decide⟩) := by rw [getD_map D (Q ++ P) ⟨0, by decide⟩ z58 (by omega), app_at, ipo_]
  rw [jigsawlaw22_InverseTurns.l0, if_pos (nlt hj), if_pos rfl, ipo_, if_pos (by rw [List.length_map]; omega), ew, ipo_, if_pos (by rw [List.length_map]; omega), rdD_at, rdD_at, g1, g2, equal_one (hzP j hj) (by omega), obs_, if_pos rfl, if_pos (by rw [List.length_map]; omega), if_pos (by rw [List.length_map]; omega), rdD_at, rdD_at, g3, g4, equal_one (hzQ j hj) (by omega), obs_, if_pos rfl]
  rw [show (0 : Int) = ((0 : Nat) : Int) from rfl, h2]
  exact law_l0 n hn P Q hP hQ hT hzP hzQ m (j + 1) k' (by omega) (by omega)
theorem inverseTurns (a0 : Int) (l1 l3 l4 : List Int) (a4 a5 : Int) (l6 : List (List Int)) (_ : (Lit.int .u8 a0).wf = true) (hw1 : ∀ x ∈ l1, (Lit.int .u8 x).wf = true) (hw3 : ∀ x ∈ l3, (Lit.int .u8 x).wf = true) (_ : ∀ x ∈ l4, (Lit.int .i8 x).wf = true) (_ : (Lit.int .i16 a4).wf = true) (_ : (Lit.int .u8 a5).wf = true) :
  ∃ k, jigsawlaw22_InverseTurns.f k a0 l1 l3 l4 a4 a5 l6 = some true := by
 refine ⟨100000, ?_⟩
 obtain ⟨n, p, q, ms, h1, hn, hp, hq, hl, hs, hm⟩ := case_f a0 a4 a5 l1 l3 l4 l6 (fun x hx => wf_u8 (hw1 x hx)) (fun x hx => wf_u8 (hw3 x hx)) (k := 100000) (by decide)
 have hA : (ms.take n).length = n := by rw [List.length_take]; omega
 have hB : (ms.drop n).length = n := by rw [List.length_drop]; omega
 have hsplit : ms = ms.take n ++ ms.drop n := (List.take_append_drop n ms).symm
 have hnn : (((p.length : Nat) : Int) : Int).toNat = n := by rw [hp.1]; omega
 have ew : wrap64 (2 * (p.length : Int)) = ((2 * n : Nat) : Int) := by rw [hp.1, wrap_id (by omega) (by omega)]; omega
 obtain ⟨A, eA⟩ : ∃ A, ms.take n = A := ⟨_, rfl⟩
 obtain ⟨B, eB⟩ : ∃ B, ms.drop n = B := ⟨_, rfl⟩
 rw [eA] at hA hsplit
 rw [eB] at hB hsplit
 have hs2 : ∀ c ∈ B ++ A, c.val ≠ 0 := fun c hc => hs c (by
  rw [hsplit]
  rcases List.mem_append.1 hc with h | h
  ·
   exact List.mem_append_right _ h
  ·
   exact List.mem_append_left _ h)
 obtain ⟨b, hb, e1⟩ := filt_t p q n h1 hn hp hq A B hA hB (fun c hc => hs c (by rw [hsplit]; exact hc)) (k := 100000) (by decide)
 obtain ⟨b', hb', e2⟩ := filt_t q p n h1 hn hq hp B A hB hA hs2 (k := 100000) (by decide)
 have hbb : b' = b := by
  rw [Bool.eq_iff_iff, hb, hb']
  exact ⟨fun h => ⟨h.2, h.1⟩, fun h => ⟨h.2, h.1⟩⟩
 subst hbb
 unfold jigsawlaw22_InverseTurns.f
 rw [hm, obs_]
 show (jigsawlaw22_doms.f 100000 (ms.map LL)).bind _ = _
 rw [doms_f ms hs (by omega) (by decide), obs_]
 show (inverse_Filter.f 100000 23 p q [] [] [] 0 [] (ms.map D)).bind _ = _
 rw [hsplit, e1, obs_]
 show (if 0 ≤ (p.length : Int) then (if (p.length : Int) ≤ (((A ++ B).map LL).length : Int) then (slices_CloneRows.f (((A ++ B).map LL).drop ((p.length : Int) : Int).toNat)).bind _ else none) else none) = _
 have d1 : ((A ++ B).map LL).drop n = B.map LL := by rw [← List.map_drop]; congr 1; rw [← hA]; exact List.drop_left' rfl
 have t1 : ((A ++ B).map LL).take n = A.map LL := by rw [← List.map_take]; congr 1; rw [← hA]; exact List.take_left' rfl
 rw [ipo_, if_pos (by rw [List.length_map, List.length_append, hA, hB, hp.1]; omega), hnn, d1]
 unfold slices_CloneRows.f
 rw [if_pos (by rw [List.length_map, hB]; omega), obs_]
 show ((some (((A ++ B).map LL).take n)).bind _ : Option Bool) = _
 rw [t1, obs_, if_pos (by rw [List.length_map, List.length_map, hA, hB]; omega), ← List.map_append, doms_f (B ++ A) hs2 (by rw [List.length_append, hA, hB]; omega) (by decide), obs_]
 show (inverse_Filter.f 100000 23 q p [] [] [] 0 [] ((B ++ A).map D)).bind _ = _
 rw [e2, obs_, wakes_true (by decide), obs_, if_pos rfl]
 show (if (b' != b') = true then none else (if b' = true then (if ((if b' = true then (side A B ++ side B A).map D else []).length : Int) = wrap64 (2 * (p.length : Int)) then jigsawlaw22_InverseTurns.j0 (99999 + 1) (p.length : Int) (if b' = true then (side A B ++ side B A).map D else []) b' (if b' = true then (side B A ++ side A B).map D else []) (((if b' = true then (side B A ++ side A B).map D else []).length : Int) != wrap64 (2 * (p.length : Int))) else none) else jigsawlaw22_InverseTurns.j0 (99999 + 1) (p.length : Int) (if b' = true then (side A B ++ side B A).map D else []) b' (if b' = true then (side B A ++ side A B).map D else []) false)) = some true
 rw [if_neg (by simp), ew]
 cases b' with
 | false =>
  rw [ind_, jigsawlaw22_InverseTurns.j0, ind_, hp.1]
  obtain ⟨n, rfl⟩ : ∃ n', n = n' + 1 := ⟨n - 1, by omega⟩
  rw [jigsawlaw22_InverseTurns.l0, ipo_, ind_]
 | true =>
  obtain ⟨z1, z2⟩ := hb.1 rfl
  have l1 : (side A B).length = n := by rw [side_len]; exact hA
  have l2 : (side B A).length = n := by rw [side_len]; exact hB
  rw [if_pos rfl, if_pos rfl, if_pos (by rw [List.length_map, List.length_append, l1, l2]; omega), if_pos rfl, jigsawlaw22_InverseTurns.j0, if_neg (by rw [bne_iff_ne, List.length_map, List.length_append, l1, l2]; omega), hp.1]
  exact law_l0 n hn (side A B) (side B A) l1 l2 (fun i hi k hk => mem_turn A B (by omega) (by omega) (by omega)) z1 z2 n 0 99999 (by omega) (by omega)
end Go.Proofs.YtfbfalhdgmjdpaaGreatDoor.Pure
