/- The plain law of AllDiffFilters: what the walk computes answers true, for every input. -/
import Derived.Test.YtckfbfdnlpnllaaGreatDoorXAFix21
import Derived.Test.YtckfbfdnlpnllaaGreatDoorKMa
import Derived.Test.YtckfbfdnlpnllaaGreatDoorKMb
import Derived.Test.YtckfbfdnlpnllaaGreatDoorKMc
namespace Go.Proofs.YtckfbfdnlpnllaaGreatDoor.Pure
open Go.RowKit Go.Proofs.YtckfbfdnlpnllaaGreatDoor.XAllDiffFilters Go.Proofs.YtckfbfdnlpnllaaGreatDoorW.PrintWords Go.Proofs.YtckfbfdnlpnllaaGreatDoorW.PrintLast Go.Proofs.YtckfbfdnlpnllaaGreatDoorW.PrintMore Go.Proofs.YtckfbfdnlpnllaaGreatDoor.Ad
set_option linter.unusedVariables false
theorem ind_ {c : Prop} [Decidable c] {α : Type} {a b : α} (h : ¬ c := by decide) : (if c then a else b) = b := if_neg h
theorem obs_ {α β : Type} (a : α) (f : α → Option β) : (some a).bind f = f a := rfl
theorem ino_ {c : Prop} [Decidable c] {α : Type} {a b : α} (h : ¬ c := by omega) : (if c then a else b) = b := if_neg h
theorem ipo_ {c : Prop} [Decidable c] {α : Type} {a b : α} (h : c := by omega) : (if c then a else b) = a := if_pos h
theorem wsu_ {j : Nat} (h : j ≤ 100000 := by omega) : wrap64 ((j : Int) + 1) = ((j + 1 : Nat) : Int) := wrap_succ h
def Near (x : List Int) : Prop := ∀ v ∈ x, -5 ≤ v ∧ v ≤ 5
theorem mem_vals {v : Int} : v ∈ vals ↔ -5 ≤ v ∧ v ≤ 5 := by
 unfold vals
 simp only [List.mem_cons, List.not_mem_nil, or_false]
 omega
theorem mem_L {m : Nat} {v : Int} : v ∈ L m ↔ (-5 ≤ v ∧ v ≤ 5) ∧ m.testBit (v + 5).toNat = true := by
 unfold L; rw [List.mem_filter, mem_vals]
theorem L_filter {m m' : Nat} {p : Int → Bool} (h : ∀ v, -5 ≤ v → v ≤ 5 → (v ∈ L m ↔ v ∈ L m' ∧ p v = true)) : L m = (L m').filter p := by
 unfold L
 rw [List.filter_filter]
 apply List.filter_congr
 intro v hv
 have hr := mem_vals.1 hv
 have h' := h v hr.1 hr.2
 rw [mem_L, mem_L] at h'
 rw [Bool.eq_iff_iff, Bool.and_eq_true]
 constructor
 ·
  intro h1
  have h2 := h'.1 ⟨hr, h1⟩
  exact ⟨h2.2, h2.1.2⟩
 ·
  exact fun h1 => (h'.2 ⟨⟨hr, h1.2⟩, h1.1⟩).2
def msk : List Int → Nat
 | [] => 0
 | v :: l => msk l ||| 1 <<< (v + 5).toNat
theorem msk_append (a b : List Int) : msk (a ++ b) = msk a ||| msk b := by
 induction a with
 | nil => simp [msk]
 | cons v a ih => rw [List.cons_append, msk, ih, msk, Nat.or_assoc, Nat.or_assoc, Nat.or_comm (msk b)]
theorem msk_bit (l : List Int) (i : Nat) : (msk l).testBit i = true ↔ ∃ v, v ∈ l ∧ (v + 5).toNat = i := by
 induction l with
 | nil => simp [msk]
 | cons v l ih =>
  rw [msk, Nat.testBit_or, Bool.or_eq_true, ih, Nat.one_shiftLeft, Nat.testBit_two_pow, decide_eq_true_iff]
  constructor
  ·
   rintro (⟨u, h1, h2⟩ | h)
   ·
    exact ⟨u, List.mem_cons_of_mem _ h1, h2⟩
   ·
    exact ⟨v, List.mem_cons_self, h⟩
  ·
   rintro ⟨u, h1, h2⟩
   rcases List.mem_cons.1 h1 with rfl | h1
   ·
    exact Or.inr h2
   ·
    exact Or.inl ⟨u, h1, h2⟩
theorem msk_lt {l : List Int} (h : Near l) : msk l < 2048 := by
 induction l with
 | nil => decide
 | cons v l ih =>
  have hv := h v List.mem_cons_self
  refine Nat.or_lt_two_pow (n := 11) (ih fun u hu => h u (List.mem_cons_of_mem _ hu)) ?_
  rw [Nat.one_shiftLeft]
  exact Nat.pow_lt_pow_right (by decide) (by omega)
theorem mem_msk {l : List Int} (h : Near l) {v : Int} : v ∈ L (msk l) ↔ v ∈ l := by
 rw [mem_L, msk_bit]
 constructor
 ·
  rintro ⟨hv, u, hu, e⟩
  have := h u hu
  have : u = v := by omega
  rwa [← this]
 ·
  exact fun hv => ⟨h v hv, v, hv, rfl⟩
def mk (l : List Int) : Fin 2048 := ⟨msk l % 2048, Nat.mod_lt _ (by decide)⟩
theorem mk_val {l : List Int} (h : Near l) : (mk l).val = msk l := Nat.mod_eq_of_lt (msk_lt h)
theorem mem_mk {l : List Int} (h : Near l) {v : Int} : v ∈ LL (mk l) ↔ v ∈ l := by
 unfold LL; rw [mk_val h]; exact mem_msk h
theorem mk_ne {l : List Int} (h : Near l) (h0 : l ≠ []) : (mk l).val ≠ 0 := by
 intro h1
 obtain ⟨v, hv⟩ := List.exists_mem_of_ne_nil l h0
 have h2 := (mem_mk h).2 hv
 have : LL (mk l) = [] := by unfold LL; rw [h1]; decide +kernel
 rw [this] at h2; cases h2
theorem mask_ext {m m' : Fin 2048} (h : ∀ v, v ∈ LL m ↔ v ∈ LL m') : m = m' := by
 apply Fin.ext
 apply Nat.eq_of_testBit_eq
 intro i
 by_cases hi : i < 11
 ·
  have h1 := h ((i : Int) - 5)
  unfold LL at h1
  rw [mem_L, mem_L, show ((i : Int) - 5 + 5).toNat = i by omega] at h1
  have hr : -5 ≤ (i : Int) - 5 ∧ (i : Int) - 5 ≤ 5 := by omega
  rw [Bool.eq_iff_iff]
  exact ⟨fun h2 => (h1.1 ⟨hr, h2⟩).2, fun h2 => (h1.2 ⟨hr, h2⟩).2⟩
 ·
  have h2 : 2 ^ 11 ≤ 2 ^ i := Nat.pow_le_pow_right (by decide) (by omega)
  rw [Nat.testBit_lt_two_pow (Nat.lt_of_lt_of_le m.isLt h2), Nat.testBit_lt_two_pow (Nat.lt_of_lt_of_le m'.isLt h2)]
theorem near_LL (m : Fin 2048) : Near (LL m) := (len_all m).2
theorem mk_LL (m : Fin 2048) : mk (LL m) = m := mask_ext fun _ => mem_mk (near_LL m)
theorem fold_mn : ∀ (l : List Int) (z : Int), (l.foldl mn z ≤ z) ∧ (∀ v ∈ l, l.foldl mn z ≤ v) ∧ (l.foldl mn z = z ∨ l.foldl mn z ∈ l)
 | [], z => ⟨Int.le_refl _, fun v hv => absurd hv List.not_mem_nil, Or.inl rfl⟩
 | a :: l, z => by
  obtain ⟨h1, h2, h3⟩ := fold_mn l (mn z a)
  have hz : mn z a ≤ z ∧ mn z a ≤ a ∧ (mn z a = z ∨ mn z a = a) := by unfold mn; split <;> omega
  rw [List.foldl_cons]
  refine ⟨by omega, fun v hv => ?_, ?_⟩
  ·
   rcases List.mem_cons.1 hv with rfl | hv
   ·
    omega
   ·
    exact h2 v hv
  ·
   rcases h3 with h3 | h3
   ·
    rw [h3]
    rcases hz.2.2 with h | h
    ·
     exact Or.inl h
    ·
     exact Or.inr (by rw [h]; exact List.mem_cons_self)
   ·
    exact Or.inr (List.mem_cons_of_mem _ h3)
theorem fold_mx : ∀ (l : List Int) (z : Int), (z ≤ l.foldl mx z) ∧ (∀ v ∈ l, v ≤ l.foldl mx z) ∧ (l.foldl mx z = z ∨ l.foldl mx z ∈ l)
 | [], z => ⟨Int.le_refl _, fun v hv => absurd hv List.not_mem_nil, Or.inl rfl⟩
 | a :: l, z => by
  obtain ⟨h1, h2, h3⟩ := fold_mx l (mx z a)
  have hz : z ≤ mx z a ∧ a ≤ mx z a ∧ (mx z a = z ∨ mx z a = a) := by unfold mx; split <;> omega
  rw [List.foldl_cons]
  refine ⟨by omega, fun v hv => ?_, ?_⟩
  ·
   rcases List.mem_cons.1 hv with rfl | hv
   ·
    omega
   ·
    exact h2 v hv
  ·
   rcases h3 with h3 | h3
   ·
    rw [h3]
    rcases hz.2.2 with h | h
    ·
     exact Or.inl h
    ·
     exact Or.inr (by rw [h]; exact List.mem_cons_self)
   ·
    exact Or.inr (List.mem_cons_of_mem _ h3)
theorem rd_at (l : List Int) (j : Nat) : rd l (j : Int) = l.getD j 0 := rfl
theorem rdL_at (l : List (List Int)) (j : Nat) : rd_L3 l (j : Int) = l.getD j [] := rfl
theorem rdD_at (l : List S57) (j : Nat) : rd_T57 l (j : Int) = l.getD j z57 := rfl
theorem getD_lt {α : Type} (l : List α) (z : α) {j : Nat} (h : j < l.length) : l.getD j z = l[j] := by
 rw [List.getD_eq_getElem?_getD, List.getElem?_eq_getElem h]; rfl
theorem getD_mem {α : Type} (l : List α) (z : α) {j : Nat} (h : j < l.length) : l.getD j z ∈ l := by
 rw [getD_lt _ _ h]; exact List.getElem_mem _
theorem getD_map {α β : Type} (f : α → β) (l : List α) (z : α) (y : β) {j : Nat} (h : j < l.length) : (l.map f).getD j y = f (l.getD j z) := by
 rw [getD_lt _ _ (by simpa using h), getD_lt _ _ h]; simp
theorem take_step {α : Type} (l : List α) (z : α) {j : Nat} (h : j < l.length) : l.take j ++ [l.getD j z] = l.take (j + 1) := by
 rw [getD_lt _ _ h]; simp
theorem nlt {a b : Nat} (h : a < b) : (a : Int) < (b : Int) := by omega
theorem nge {a b : Nat} (h : ¬ a < b) : ¬ (a : Int) < (b : Int) := by omega
theorem list_one (m : Fin 2048) {k : Nat} (hk : 40 ≤ k) : dom_Dom_List.f k (D m).f0 (D m).f1 (D m).f2 (D m).f3 (D m).f4 = some (LL m) :=
 up (f := fun k => dom_Dom_List.f k _ _ _ _ _) (dom_Dom_List.mono _ _ _ _ _) (list_all m) hk
theorem place_one {v : Int} (hv : -5 ≤ v ∧ v ≤ 5) : dom_place.f v = some (if v < 0 then -64 else 0) := by
 have h := place_all ⟨(v + 5).toNat, by omega⟩
 simp only [] at h
 rwa [show (((v + 5).toNat : Nat) : Int) - 5 = v by omega] at h
def wd (neg pos : Bool) (m : Nat) : List Int := (if neg then [((m % 32 * 576460752303423488 : Nat) : Int)] else []) ++ (if pos then [((m / 32 : Nat) : Int)] else [])
def off (neg : Bool) : Int := if neg then -64 else 0
theorem put_one (neg pos : Bool) (m : Fin 2048) {v : Int} (hv : -5 ≤ v ∧ v ≤ 5) (hn : v < 0 → neg = true) (hp : 0 ≤ v → pos = true) :
  ∃ i : Nat, wrap64 (Int.tdiv (wrap64 (v - off neg)) 64) = (i : Int) ∧ i < (wd neg pos m.val).length ∧ 0 ≤ Int.tmod (wrap64 (v - off neg)) 64 ∧ (wd neg pos m.val).set i (Go.bits .or .u64 (rd (wd neg pos m.val) (i : Int)) (shl .u64 1 (Int.tmod (wrap64 (v - off neg)) 64))) = wd neg pos (m.val ||| 1 <<< (v + 5).toNat) := by
 have hs := split_all m ⟨(v + 5).toNat, by omega⟩
 simp only [] at hs
 by_cases h : v < 0
 ·
  obtain rfl := hn h
  have hl := put_lo ⟨m.val % 32, Nat.mod_lt _ (by decide)⟩ ⟨(v + 5).toNat, by omega⟩
  simp only [] at hl
  rw [ipo_, ipo_, Nat.or_zero] at hs
  rw [show (((v + 5).toNat : Nat) : Int) - 5 = v by omega] at hl
  have e1 : wrap64 (v - off true) = v + 64 := by rw [show off true = -64 from rfl, wrap_id (by omega) (by omega)]; omega
  have e2 : Int.tdiv (v + 64) 64 = 0 := Int.tdiv_eq_zero_of_lt (by omega) (by omega)
  refine ⟨0, by rw [e1, e2]; decide +kernel, by simp [wd], by rw [e1]; exact Int.tmod_nonneg _ (by omega), ?_⟩
  show List.set (((m.val % 32 * 576460752303423488 : Nat) : Int) :: _) 0 (Go.bits .or .u64 ((m.val % 32 * 576460752303423488 : Nat) : Int) (shl .u64 1 (Int.tmod (wrap64 (v - (-64))) 64))) = _
  rw [List.set_cons_zero, hl]
  unfold wd
  rw [hs.1, hs.2]; rfl
 ·
  obtain rfl := hp (by omega)
  rw [ino_, ino_, Nat.or_zero] at hs
  have hh := put_hi ⟨m.val / 32, by have := m.isLt; omega⟩ ⟨v.toNat, by omega⟩
  simp only [] at hh
  rw [show ((v.toNat : Nat) : Int) = v by omega] at hh
  have e0 : (v + 5).toNat - 5 = v.toNat := by omega
  cases neg with
  | true =>
   have e1 : wrap64 (v - off true) = v + 64 := by rw [show off true = -64 from rfl, wrap_id (by omega) (by omega)]; omega
   have e2 : Int.tdiv (v + 64) 64 = 1 := by rw [Int.tdiv_eq_ediv_of_nonneg (by omega)]; omega
   refine ⟨1, by rw [e1, e2]; decide +kernel, by simp [wd], by rw [e1]; exact Int.tmod_nonneg _ (by omega), ?_⟩
   show List.set [((m.val % 32 * 576460752303423488 : Nat) : Int), ((m.val / 32 : Nat) : Int)] 1 (Go.bits .or .u64 ((m.val / 32 : Nat) : Int) (shl .u64 1 (Int.tmod (wrap64 (v - (-64))) 64))) = _
   rw [hh.2]
   unfold wd
   rw [hs.1, hs.2, e0]; rfl
  | false =>
   have e1 : wrap64 (v - off false) = v := by rw [show off false = 0 from rfl, wrap_id (by omega) (by omega)]; omega
   have e2 : Int.tdiv v 64 = 0 := Int.tdiv_eq_zero_of_lt (by omega) (by omega)
   refine ⟨0, by rw [e1, e2]; decide +kernel, by simp [wd], by rw [e1]; exact Int.tmod_nonneg _ (by omega), ?_⟩
   show List.set [((m.val / 32 : Nat) : Int)] 0 (Go.bits .or .u64 ((m.val / 32 : Nat) : Int) (shl .u64 1 (Int.tmod (wrap64 (v - 0)) 64))) = _
   rw [hh.1]
   unfold wd
   rw [hs.1, hs.2, e0]; rfl
theorem wd_D (neg pos : Bool) (m : Fin 2048) (hm : m.val ≠ 0) (hn : neg = true ↔ ¬ (∀ v ∈ LL m, 0 ≤ v)) (hp : pos = true ↔ ¬ (∀ v ∈ LL m, v < 0)) : off neg = (D m).f0 ∧ wd neg pos m.val = (D m).f1 := by
 obtain ⟨h1, h2⟩ := low_all m
 rw [← h1] at hn
 rw [← h2] at hp
 unfold D DM
 cases neg with
 | false =>
  have e : m.val % 32 = 0 := Classical.byContradiction fun h => absurd (hn.2 h) (by decide)
  have ep : pos = true := hp.2 (by omega)
  rw [if_pos e, ep]; exact ⟨rfl, rfl⟩
 | true =>
  rw [if_neg (hn.1 rfl)]
  cases pos with
  | false =>
   have e : m.val / 32 = 0 := Classical.byContradiction fun h => absurd (hp.2 h) (by decide)
   rw [if_pos e]; exact ⟨rfl, rfl⟩
  | true => rw [if_neg (hp.1 rfl)]; exact ⟨rfl, rfl⟩
theorem of_l0 (neg pos : Bool) (l : List Int) (hl : l.length ≤ 2000) (hr : Near l) (hn : ∀ v ∈ l, v < 0 → neg = true) (hp : ∀ v ∈ l, 0 ≤ v → pos = true) : ∀ (m j k : Nat), l.length = j + m → m + 20 < k →
  dom_Of.l0 k l (l.length : Int) (j : Int) (off neg) (wd neg pos (msk (l.take j))) 0 0 0 = (dom_made.f (k - m - 1) (off neg) (wd neg pos (msk l))).bind fun bt => some (bt.1, bt.2.1, bt.2.2.1, bt.2.2.2.1, bt.2.2.2.2, 0)
 | 0, j, k + 1, e, hk => by
  rw [dom_Of.l0, ino_, List.take_of_length_le (by omega)]
  rfl
 | m + 1, j, k + 1, e, hk => by
  have hj : j < l.length := by omega
  have hv := getD_mem l 0 hj
  have hnt : Near (l.take j) := fun u hu => hr u (List.mem_of_mem_take hu)
  obtain ⟨i, e1, e2, e3, e4⟩ := put_one neg pos ⟨msk (l.take j), msk_lt hnt⟩ (hr _ hv) (hn _ hv) (hp _ hv)
  simp only [] at e2 e4
  have e5 : msk (l.take (j + 1)) = msk (l.take j) ||| 1 <<< (l.getD j 0 + 5).toNat := by
   rw [← take_step l 0 hj, msk_append, msk, msk, Nat.zero_or]
  rw [dom_Of.l0, if_pos (nlt hj), ipo_, if_pos (nlt hj), rd_at, e1, ipo_, if_pos (nlt e2), if_pos e3, Int.toNat_natCast, e4, ← e5, wsu_, of_l0 neg pos l hl hr hn hp m (j + 1) k (by omega) (by omega)]
  rw [show k + 1 - (m + 1) - 1 = k - m - 1 by omega]
theorem idx_of (l : List Int) (hl : l.length ≤ 2000) (hr : Near l) : ∀ (m j k : Nat), l.length = j + m → m < k → slices_IndexFunc_int_int_83_at_dom_Of_1.l0 k l (l.length : Int) (j : Int) = some (-1)
 | 0, j, k + 1, e, _ => by rw [slices_IndexFunc_int_int_83_at_dom_Of_1.l0, ino_]
 | m + 1, j, k + 1, e, hk => by
  have hj : j < l.length := by omega
  have hv := hr _ (getD_mem l 0 hj)
  have hf : dom_Of_1.f (l.getD j 0) = some false := by
   unfold dom_Of_1.f dom_in.f
   rw [ipo_, obs_, decide_eq_true (by omega)]; rfl
  rw [slices_IndexFunc_int_int_83_at_dom_Of_1.l0, if_pos (nlt hj), ipo_, if_pos (nlt hj), rd_at, hf, obs_, ind_, wsu_]
  exact idx_of l hl hr m (j + 1) k (by omega) (by omega)
theorem room_f {a b : Int} (ha : -5 ≤ a ∧ a ≤ 5) (hb : -5 ≤ b ∧ b ≤ 5) (hab : a ≤ b) : dom_room.f a b = some (off (decide (a < 0)), wd (decide (a < 0)) (decide (0 ≤ b)) 0, 0, 0, 0) := by
 unfold dom_room.f
 rw [place_one ha, obs_, place_one hb, obs_, obs_]
 by_cases h1 : a < 0
 ·
  rw [if_pos h1, decide_eq_true h1]
  by_cases h2 : b < 0
  ·
   rw [if_pos h2, decide_eq_false (by omega)]; decide +kernel
  ·
   rw [if_neg h2, decide_eq_true (by omega)]; decide +kernel
 ·
  rw [if_neg h1, if_neg (show ¬ b < 0 by omega), decide_eq_false h1, decide_eq_true (by omega)]; decide +kernel
theorem of_list (l : List Int) (h0 : l ≠ []) (hl : l.length ≤ 2000) (hr : Near l) {k : Nat} (hk : l.length + 20 < k) : dom_Of.f k l = some ((D (mk l)).f0, (D (mk l)).f1, (D (mk l)).f2, (D (mk l)).f3, (D (mk l)).f4, 0) := by
 have hp : 0 < l.length := List.length_pos_iff.2 h0
 have h00 := getD_mem l 0 hp
 obtain ⟨a1, a2, a3⟩ := fold_mn l (rd l 0)
 obtain ⟨b1, b2, b3⟩ := fold_mx l (rd l 0)
 have ham : l.foldl mn (rd l 0) ∈ l := by
  rcases a3 with h | h
  ·
   rw [h]; exact h00
  ·
   exact h
 have hbm : l.foldl mx (rd l 0) ∈ l := by
  rcases b3 with h | h
  ·
   rw [h]; exact h00
  ·
   exact h
 have hra := hr _ ham
 have hrb := hr _ hbm
 have emin : slices_Min_int.f l = some (l.foldl mn (rd l 0)) := by unfold slices_Min_int.f; rw [if_neg h0]
 have emax : slices_Max_int.f l = some (l.foldl mx (rd l 0)) := by unfold slices_Max_int.f; rw [if_neg h0]
 have hidx : slices_IndexFunc_int_int_83_at_dom_Of_1.l0 k l (l.length : Int) 0 = some (-1) := idx_of l hl hr l.length 0 k (by omega) (by omega)
 generalize l.foldl mn (rd l 0) = a at *
 generalize l.foldl mx (rd l 0) = b at *
 have hw : wrap64 (b - a) = b - a := wrap_id (by omega) (by omega)
 have hc : slices_ContainsFunc_int_int_60_at_dom_Of_1.f k l = some false := by
  unfold slices_ContainsFunc_int_int_60_at_dom_Of_1.f slices_IndexFunc_int_int_83_at_dom_Of_1.f
  rw [hidx, obs_]; rfl
 unfold dom_Of.f
 rw [ino_, hc, obs_, ind_, emax, obs_, emin, obs_, hw, ino_, obs_, obs_, room_f hra hrb (by omega), obs_]
 have hcall := of_l0 (decide (a < 0)) (decide (0 ≤ b)) l hl hr (fun v hv h => decide_eq_true (by have := a2 v hv; omega)) (fun v hv h => decide_eq_true (by have := b2 v hv; omega)) l.length 0 k (by omega) (by omega)
 have hcall' : dom_Of.l0 k l (l.length : Int) 0 (off (decide (a < 0))) (wd (decide (a < 0)) (decide (0 ≤ b)) 0) 0 0 0 = _ := hcall
 rw [hcall']
 have hne := mk_ne hr h0
 obtain ⟨w1, w2⟩ := wd_D (decide (a < 0)) (decide (0 ≤ b)) (mk l) hne (by
   rw [decide_eq_true_iff]
   constructor
   ·
    exact fun h h' => by have := h' a ((mem_mk hr).2 ham); omega
   ·
    exact fun h => Classical.byContradiction fun h' => h fun v hv => by have := a2 v ((mem_mk hr).1 hv); omega) (by
   rw [decide_eq_true_iff]
   constructor
   ·
    exact fun h h' => by have := h' b ((mem_mk hr).2 hbm); omega
   ·
    exact fun h => Classical.byContradiction fun h' => h fun v hv => by have := b2 v ((mem_mk hr).1 hv); omega)
 rw [mk_val hr] at w2
 rw [w1, w2]
 have hm := up (f := fun k => dom_made.f k (D (mk l)).f0 (D (mk l)).f1) (dom_made.mono _ _) (made_all _ hne) (show 10 ≤ k - l.length - 1 by omega)
 rw [hm, obs_]
theorem of_one {m : Fin 2048} (hm : m.val ≠ 0) {k : Nat} (hk : 40 ≤ k) : dom_Of.f k (LL m) = some ((D m).f0, (D m).f1, (D m).f2, (D m).f3, (D m).f4, 0) := by
 have h := of_list (LL m) (fun h => ne_all m hm (by rw [h]; rfl)) (by have := (len_all m).1; omega) (near_LL m) (k := k) (by have := (len_all m).1; omega)
 rwa [mk_LL] at h
theorem rhas_l0 (l : List Int) (v : Int) (hl : l.length ≤ 100) : ∀ (m j k : Nat), l.length = j + m → m < k → jigsawref02_Has.l0 k l v (j : Int) = some (decide (v ∈ l.drop j))
 | 0, j, k + 1, e, _ => by
  rw [jigsawref02_Has.l0, ino_, List.drop_eq_nil_of_le (by omega)]; rfl
 | m + 1, j, k + 1, e, hk => by
  have hj : j < l.length := by omega
  have hd : l.drop j = l[j] :: l.drop (j + 1) := List.drop_eq_getElem_cons hj
  rw [jigsawref02_Has.l0, if_pos (nlt hj), ipo_, rd_at, getD_lt _ _ hj]
  by_cases h : l[j] = v
  ·
   rw [if_pos h, hd]; congr 1; symm; exact decide_eq_true (by rw [h]; exact List.mem_cons_self)
  ·
   rw [if_neg h, wsu_, rhas_l0 l v hl m (j + 1) k (by omega) (by omega), hd]
   congr 1
   rw [decide_eq_decide]
   constructor
   ·
    exact fun h' => List.mem_cons_of_mem _ h'
   ·
    intro h'
    rcases List.mem_cons.1 h' with h2 | h2
    ·
     exact absurd h2.symm h
    ·
     exact h2
theorem rhas_f (l : List Int) (v : Int) (hl : l.length ≤ 100) {k : Nat} (hk : 200 ≤ k) : jigsawref02_Has.f k l v = some (decide (v ∈ l)) := by
 have h := rhas_l0 l v hl l.length 0 k (by omega) (by omega)
 exact h
def insR : Bool → Int → List Int → List Int
 | true, _, r => r
 | false, v, r => ins v r
theorem of_l2 (x : List Int) (hx : x.length ≤ 100) (i : Nat) (hi : i < x.length) (l : List Int) (hl : l.length ≤ 100) : ∀ (m j k : Nat) (acc : List Int) (done : Bool), l.length = j + m → acc.length ≤ 2 * j → m < k →
  ∃ k', k' + m + 1 = k ∧ jigsawref02_Of.l2 k x l (i : Int) acc done (j : Int) = jigsawref02_Of.l1 k' x (acc ++ insR done (x.getD i 0) (l.drop j)) (((i + 1 : Nat)) : Int)
 | 0, j, k + 1, acc, done, e, ha, hk => by
  refine ⟨k, rfl, ?_⟩
  rw [jigsawref02_Of.l2, ino_, List.drop_eq_nil_of_le (by omega)]
  cases done with
  | true => rw [if_pos rfl, wsu_]; simp [insR]
  | false => rw [ind_, ipo_, if_pos (nlt hi), ipo_, wsu_, rd_at]; rfl
 | m + 1, j, k + 1, acc, done, e, ha, hk => by
  have hj : j < l.length := by omega
  have hd : l.drop j = l.getD j 0 :: l.drop (j + 1) := by rw [getD_lt _ _ hj]; exact List.drop_eq_getElem_cons hj
  rw [jigsawref02_Of.l2, if_pos (nlt hj), ipo_, ipo_, if_pos (nlt hi), rd_at, rd_at, wsu_, hd]
  by_cases h : l.getD j 0 > x.getD i 0
  ·
   rw [if_pos h]
   cases done with
   | true =>
    rw [if_pos rfl, ipo_]
    obtain ⟨k', hk', h'⟩ := of_l2 x hx i hi l hl m (j + 1) k (acc ++ [l.getD j 0]) true (by omega) (by simp; omega) (by omega)
    refine ⟨k', by omega, ?_⟩
    rw [h']; simp [insR]
   | false =>
    rw [ind_, ipo_, obs_, if_pos (by simp; omega)]
    obtain ⟨k', hk', h'⟩ := of_l2 x hx i hi l hl m (j + 1) k ((acc ++ [x.getD i 0]) ++ [l.getD j 0]) true (by omega) (by simp; omega) (by omega)
    refine ⟨k', by omega, ?_⟩
    have e1 : insR false (x.getD i 0) (l.getD j 0 :: l.drop (j + 1)) = x.getD i 0 :: l.getD j 0 :: l.drop (j + 1) := by show ins _ _ = _; rw [ins, if_pos h]
    rw [h', e1]; simp [insR]
  ·
   rw [if_neg h, ipo_]
   obtain ⟨k', hk', h'⟩ := of_l2 x hx i hi l hl m (j + 1) k (acc ++ [l.getD j 0]) done (by omega) (by simp; omega) (by omega)
   refine ⟨k', by omega, ?_⟩
   rw [h']
   cases done with
   | true => simp [insR]
   | false =>
    have e1 : insR false (x.getD i 0) (l.getD j 0 :: l.drop (j + 1)) = l.getD j 0 :: ins (x.getD i 0) (l.drop (j + 1)) := by show ins _ _ = _; rw [ins, if_neg h]
    rw [e1]; simp [insR]
theorem ins_len (v : Int) : ∀ l : List Int, (ins v l).length ≤ l.length + 1
 | [] => by simp [ins]
 | a :: l => by
  unfold ins
  split
  ·
   simp
  ·
   have := ins_len v l
   simp
   omega
theorem of_l1 (x : List Int) (hx : x.length ≤ 6) (hn : Near x) : ∀ (m j k : Nat) (b : Fin 2048), x.length = j + m → 300 * m + 300 < k → (0 < j → b.val ≠ 0) → (LL b).length ≤ j →
  ∃ c : Fin 2048, (0 < x.length → c.val ≠ 0) ∧ (LL c).length ≤ x.length ∧ jigsawref02_Of.l1 k x (LL b) (j : Int) = some (LL c, 0)
 | 0, j, k + 1, b, e, hk, hb, hlb => by
  refine ⟨b, fun h => hb (by omega), by omega, ?_⟩
  rw [jigsawref02_Of.l1, ino_]
 | m + 1, j, k + 1, b, e, hk, hb, hlb => by
  have hj : j < x.length := by omega
  have hv := hn (x.getD j 0) (by rw [getD_lt _ _ hj]; exact List.getElem_mem _)
  have hl := (len_all b).1
  rw [jigsawref02_Of.l1, if_pos (nlt hj), ipo_, rd_at, rhas_f (LL b) _ (by omega) (by omega), obs_]
  by_cases h : x.getD j 0 ∈ LL b
  ·
   rw [if_pos (decide_eq_true h), wsu_]
   refine of_l1 x hx hn m (j + 1) k b (by omega) (by omega) (fun _ h0 => ?_) (by omega)
   have : LL b = [] := by unfold LL; rw [h0]; decide +kernel
   rw [this] at h; cases h
  ·
   rw [if_neg (by simpa using h)]
   obtain ⟨k', hk', h'⟩ := of_l2 x (by omega) j hj (LL b) (by omega) (LL b).length 0 k [] false (by omega) (by simp) (by omega)
   have e0 : jigsawref02_Of.l2 k x (LL b) (j : Int) [] false 0 = _ := h'
   rw [e0]
   have hins := ins_all b ⟨(x.getD j 0 + 5).toNat, by omega⟩
   simp only [] at hins
   rw [show (((x.getD j 0 + 5).toNat : Nat) : Int) - 5 = x.getD j 0 by omega] at hins
   obtain ⟨h1, h2⟩ := hins h
   rw [List.nil_append, List.drop_zero, insR, h1]
   exact of_l1 x hx hn m (j + 1) k' _ (by omega) (by omega) (fun _ => h2) (by rw [← h1]; have := ins_len (x.getD j 0) (LL b); omega)
theorem rof_l0 (x : List Int) (hx : x.length ≤ 6) (hn : Near x) : ∀ (m j k : Nat) (lo hi : Int), x.length = j + m → m + 3000 < k → -5 ≤ lo → lo ≤ 5 → -5 ≤ hi → hi ≤ 5 →
  ∃ c : Fin 2048, (0 < x.length → c.val ≠ 0) ∧ (LL c).length ≤ x.length ∧ jigsawref02_Of.l0 k x lo hi (j : Int) = some (LL c, 0)
 | 0, j, k + 1, lo, hi, e, hk, h1, h2, h3, h4 => by
  have ew : wrap64 (hi - lo) = hi - lo := wrap_id (by omega) (by omega)
  rw [jigsawref02_Of.l0, ino_, ew, ino_]
  have h0 : LL 0 = [] := by decide +kernel
  have h := of_l1 x hx hn x.length 0 k 0 (by omega) (by omega) (fun h => absurd h (by decide)) (by rw [h0]; simp)
  rw [h0] at h
  exact h
 | m + 1, j, k + 1, lo, hi, e, hk, h1, h2, h3, h4 => by
  have hj : j < x.length := by omega
  have hv := hn (x.getD j 0) (by rw [getD_lt _ _ hj]; exact List.getElem_mem _)
  rw [jigsawref02_Of.l0, if_pos (nlt hj), ipo_, rd_at, ino_, ino_, wsu_]
  split <;> split <;> exact rof_l0 x hx hn m (j + 1) k _ _ (by omega) (by omega) (by omega) (by omega) (by omega) (by omega)
theorem rof_f (x : List Int) (hx : x.length ≤ 6) (h0 : 0 < x.length) (hn : Near x) {k : Nat} (hk : 4000 ≤ k) : ∃ c : Fin 2048, c.val ≠ 0 ∧ (LL c).length ≤ 6 ∧ jigsawref02_Of.f k x = some (LL c, 0) := by
 have hv := hn (x.getD 0 0) (by rw [getD_lt _ _ h0]; exact List.getElem_mem _)
 obtain ⟨c, h1, h3, h2⟩ := rof_l0 x hx hn x.length 0 k (x.getD 0 0) (x.getD 0 0) (by omega) (by omega) hv.1 hv.2 hv.1 hv.2
 refine ⟨c, h1 h0, by omega, ?_⟩
 unfold jigsawref02_Of.f
 rw [ino_, ipo_]
 exact h2
theorem mod_near (v : Int) : -5 ≤ Int.tmod v 6 ∧ Int.tmod v 6 ≤ 5 := by
 have h1 := Int.tmod_lt_of_pos v (show (0 : Int) < 6 by decide)
 have h2 := Int.lt_tmod_of_pos v (show (0 : Int) < 6 by decide)
 omega
theorem small_l0 (l : List Int) (h0 : 0 < l.length) : ∀ (m j k : Nat) (acc : List Int), 6 = j + m → j ≤ l.length → m + 4100 < k → acc.length = j → Near acc →
  ∃ c : Fin 2048, (c.val ≠ 0 ∧ (LL c).length ≤ 6) ∧ jigsawref02_Small.l0 k l 6 6 acc (j : Int) = some (LL c)
 | m, j, k + 1, acc, e, hjl, hk, ha, hn => by
  have fin : ∀ (hx : 0 < acc.length), ∃ c : Fin 2048, (c.val ≠ 0 ∧ (LL c).length ≤ 6) ∧ ((jigsawref02_Of.f k acc).bind fun bt => some bt.1) = some (LL c) := by
   intro hx
   obtain ⟨c, h1, h3, h2⟩ := rof_f acc (by omega) hx hn (k := k) (by omega)
   exact ⟨c, ⟨h1, h3⟩, by rw [h2, obs_]⟩
  rw [jigsawref02_Small.l0]
  by_cases hj : j < l.length
  ·
   rw [if_pos (nlt hj)]
   by_cases h6 : j < 6
   ·
    obtain ⟨m, rfl⟩ : ∃ m', m = m' + 1 := ⟨m - 1, by omega⟩
    rw [ipo_, ipo_, ind_, ipo_, wsu_]
    refine small_l0 l h0 m (j + 1) k _ (by omega) (by omega) (by omega) (by simp [ha]) (fun v hv => ?_)
    rcases List.mem_append.1 hv with h | h
    ·
     exact hn v h
    ·
     rw [List.mem_singleton] at h; rw [h]; exact mod_near _
   ·
    rw [ino_]
    exact fin (by omega)
  ·
   rw [if_neg (nge hj)]
   exact fin (by omega)
theorem small_f (l : List Int) (h0 : 0 < l.length) {k : Nat} (hk : 4200 ≤ k) : ∃ c : Fin 2048, (c.val ≠ 0 ∧ (LL c).length ≤ 6) ∧ jigsawref02_Small.f k l 6 6 = some (LL c) :=
 small_l0 l h0 6 0 k [] rfl (by omega) (by omega) rfl (fun v hv => by simp at hv)
def Places (n : Nat) (r : List Int) : Prop := r.length = n ∧ ∀ x ∈ r, 0 ≤ x ∧ x ≤ 4
theorem places_l0 (l : List Int) (hl : ∀ x ∈ l, 0 ≤ x ∧ x ≤ 255) (n : Nat) (hn : n ≤ 4) : ∀ (m j k : Nat) (acc : List Int), n = j + m → m < k → Places j acc → ∃ r, jigsawref06_places.l0 k l (n : Int) 5 acc (j : Int) = some r ∧ Places n r
 | 0, j, k + 1, acc, e, _, ha => by
  obtain rfl : n = j := by omega
  refine ⟨acc, ?_, ha⟩
  rw [jigsawref06_places.l0, ino_]
 | m + 1, j, k + 1, acc, e, hk, ha => by
  have hj : j < n := by omega
  obtain ⟨h1, h2⟩ := ha
  have hlen : acc.length < 17592186044416 := by omega
  by_cases hx : j < l.length
  ·
   have hm := hl (l.getD j 0) (by rw [getD_lt _ _ hx]; exact List.getElem_mem _)
   obtain ⟨r, hr, hp⟩ := places_l0 l hl n hn m (j + 1) k (acc ++ [Int.tmod (wrap64 (rd l (j : Int))) 5]) (by omega) (by omega) ⟨by simp [h1], fun x hx => by
    rcases List.mem_append.1 hx with h | h
    ·
     exact h2 x h
    ·
     rw [List.mem_singleton] at h
     rw [h, rd_at, wrap_id (by omega) (by omega), Int.tmod_eq_emod_of_nonneg (by omega)]
     omega⟩
   refine ⟨r, ?_, hp⟩
   rw [jigsawref06_places.l0, if_pos (nlt hj), if_pos (nlt hx), ipo_, ind_, if_pos hlen, wsu_]
   exact hr
  ·
   obtain ⟨r, hr, hp⟩ := places_l0 l hl n hn m (j + 1) k (acc ++ [Int.tmod (j : Int) 5]) (by omega) (by omega) ⟨by simp [h1], fun x hx => by
    rcases List.mem_append.1 hx with h | h
    ·
     exact h2 x h
    ·
     rw [List.mem_singleton] at h
     rw [h, Int.tmod_eq_emod_of_nonneg (by omega)]
     omega⟩
   refine ⟨r, ?_, hp⟩
   rw [jigsawref06_places.l0, if_pos (nlt hj), if_neg (nge hx), ind_, if_pos hlen, wsu_]
   exact hr
theorem places_f (l : List Int) (hl : ∀ x ∈ l, 0 ≤ x ∧ x ≤ 255) (n : Nat) (hn : n ≤ 4) {k : Nat} (hk : 5 ≤ k) : ∃ r, jigsawref06_places.f k l (n : Int) 5 = some r ∧ Places n r :=
 places_l0 l hl n hn n 0 k [] (by omega) (by omega) ⟨rfl, fun x hx => by simp at hx⟩
theorem has_f {s : ByteArray} {c r : Int} (h : jigsawref06_has.f 6 s c = some r) {k : Nat} (hk : 6 ≤ k) : jigsawref06_has.f k s c = some r :=
 up (f := fun k => jigsawref06_has.f k s c) (jigsawref06_has.mono _ _) h hk
theorem mem_getD {α : Type} {l : List α} (z : α) {x : α} (h : x ∈ l) : ∃ i, i < l.length ∧ l.getD i z = x := by
 obtain ⟨i, hi, e⟩ := List.getElem_of_mem h
 exact ⟨i, hi, by rw [getD_lt _ _ hi]; exact e⟩
def Row (ls : List (List Int)) (r : List Int) : Prop := r.length = ls.length ∧ ∀ i, i < ls.length → r.getD i 0 ∈ ls.getD i []
theorem made_l0 (Ls : List (List Int)) (hs : ∀ l ∈ Ls, l ≠ [] ∧ l.length ≤ 1000 ∧ Near l) (hl : Ls.length ≤ 100) : ∀ (m j k : Nat), Ls.length = j + m → m + 1100 < k →
  prop_Made.l0 k ((Ls.take j).map fun l => D (mk l)) Ls (Ls.length : Int) (j : Int) = some (Ls.map fun l => D (mk l), true)
 | 0, j, k + 1, e, _ => by
  rw [prop_Made.l0, ino_, List.take_of_length_le (by omega)]
 | m + 1, j, k + 1, e, hk => by
  have hj : j < Ls.length := by omega
  obtain ⟨h1, h2, h3⟩ := hs _ (getD_mem Ls [] hj)
  rw [prop_Made.l0, if_pos (nlt hj), ipo_, if_pos (nlt hj), rdL_at, of_list _ h1 (by omega) h3 (by omega), obs_, if_pos rfl, if_pos (by simp; omega), wsu_]
  have h := made_l0 Ls hs hl m (j + 1) k (by omega) (by omega)
  rw [← take_step Ls [] hj, List.map_append] at h
  exact h
theorem getD_set {α : Type} (l : List α) (z y : α) (c i : Nat) (hi : i < l.length) : (l.set c y).getD i z = if c = i then y else l.getD i z := by
 rw [List.getD_eq_getElem?_getD, List.getElem?_set]
 by_cases h : c = i
 ·
  subst h; rw [if_pos rfl, if_pos hi, if_pos rfl]; rfl
 ·
  rw [if_neg h, if_neg h, ← List.getD_eq_getElem?_getD]
def Lists (ls : List (List Int)) : Prop := ls.length ≤ 8 ∧ ∀ l ∈ ls, 0 < l.length ∧ l.length ≤ 11
theorem Lists.at {ls : List (List Int)} (h : Lists ls) {i : Nat} (hi : i < ls.length) : 0 < (ls.getD i []).length ∧ (ls.getD i []).length ≤ 11 :=
 h.2 _ (by rw [getD_lt _ _ hi]; exact List.getElem_mem _)
theorem wrap_succ' {j : Nat} (h : j ≤ 100000) : wrap64 ((j : Int) + 1) = ((j + 1 : Nat) : Int) := wrap_succ h
def hasAt (rows : List (List Int)) (i : Nat) (v : Int) : Bool := rows.any fun r => r.getD i 0 == v
theorem ex_l2 (ls rows : List (List Int)) (hls : Lists ls) (hr : rows.length ≤ 4000) (hw : ∀ r ∈ rows, r.length = ls.length) (out : List (List Int)) (i : Nat) (hi : i < ls.length) (acc : List Int) (ha : acc.length ≤ 100) (j : Nat) (hj : j < (ls.getD i []).length) : ∀ (m t k : Nat) (b : Bool), rows.length = t + m → m < k →
  ∃ k', k' + m + 1 = k ∧ jigsawref10_Exact.l2 k ls rows out (i : Int) acc (j : Int) b (t : Int) = jigsawref10_Exact.l1 k' ls rows out (i : Int) (if b || hasAt (rows.drop t) i ((ls.getD i []).getD j 0) then acc ++ [(ls.getD i []).getD j 0] else acc) (((j + 1 : Nat)) : Int)
 | 0, t, k + 1, b, e, hk => by
  have h8 := hls.1
  have hlen := (hls.at hi).2
  refine ⟨k, rfl, ?_⟩
  rw [jigsawref10_Exact.l2, ino_, List.drop_eq_nil_of_le (by omega), wsu_]
  cases b with
  | true => rw [if_pos rfl, ipo_, if_pos (nlt hi), ipo_, rdL_at, if_pos (nlt hj), ipo_, rd_at]; rfl
  | false => rw [ind_]; rfl
 | m + 1, t, k + 1, b, e, hk => by
  have h8 := hls.1
  have ht : t < rows.length := by omega
  have hrow := hw (rows.getD t []) (by rw [getD_lt _ _ ht]; exact List.getElem_mem _)
  have hd : rows.drop t = rows.getD t [] :: rows.drop (t + 1) := by rw [getD_lt rows [] ht]; exact List.drop_eq_getElem_cons ht
  rw [jigsawref10_Exact.l2, if_pos (nlt ht), wrap_succ' (by omega)]
  cases b with
  | true =>
   obtain ⟨k', h1, h2⟩ := ex_l2 ls rows hls hr hw out i hi acc ha j hj m (t + 1) k true (by omega) (by omega)
   refine ⟨k', by omega, ?_⟩
   rw [if_pos rfl, h2]; rfl
  | false =>
   obtain ⟨k', h1, h2⟩ := ex_l2 ls rows hls hr hw out i hi acc ha j hj m (t + 1) k ((rows.getD t []).getD i 0 == (ls.getD i []).getD j 0) (by omega) (by omega)
   refine ⟨k', by omega, ?_⟩
   rw [ind_, ipo_, ipo_, rdL_at, ipo_, if_pos (nlt hi), ipo_, rdL_at, if_pos (nlt hj), rd_at, rd_at, h2, hd]
   rfl
theorem ex_l1 (ls rows : List (List Int)) (hls : Lists ls) (hr : rows.length ≤ 4000) (hw : ∀ r ∈ rows, r.length = ls.length) (out : List (List Int)) (ho : out.length ≤ 100) (i : Nat) (hi : i < ls.length) : ∀ (m j k : Nat) (acc : List Int), (ls.getD i []).length = j + m → 4010 * m + 10 < k → acc.length ≤ j →
  ∃ k', k ≤ k' + 4010 * m + 1 ∧ jigsawref10_Exact.l1 k ls rows out (i : Int) acc (j : Int) = jigsawref10_Exact.l0 k' ls rows (out ++ [acc ++ ((ls.getD i []).drop j).filter (hasAt rows i)]) (((i + 1 : Nat)) : Int)
 | 0, j, k + 1, acc, e, hk, ha => by
  have h8 := hls.1
  refine ⟨k, by omega, ?_⟩
  rw [jigsawref10_Exact.l1, ipo_, if_pos (nlt hi), rdL_at, ino_, ipo_, List.drop_eq_nil_of_le (by omega), wsu_]
  simp
 | m + 1, j, k + 1, acc, e, hk, ha => by
  have h8 := hls.1
  have hlen := (hls.at hi).2
  have hj : j < (ls.getD i []).length := by omega
  have hd : (ls.getD i []).drop j = (ls.getD i []).getD j 0 :: (ls.getD i []).drop (j + 1) := by rw [getD_lt (ls.getD i []) 0 hj]; exact List.drop_eq_getElem_cons hj
  obtain ⟨k1, h1, h2⟩ := ex_l2 ls rows hls hr hw out i hi acc (by omega) j hj rows.length 0 k false (by omega) (by omega)
  have h3 : jigsawref10_Exact.l2 k ls rows out (i : Int) acc (j : Int) false 0 = _ := h2
  rw [Bool.false_or, List.drop_zero] at h3
  rw [jigsawref10_Exact.l1, ipo_, if_pos (nlt hi), rdL_at, if_pos (nlt hj), h3, hd]
  by_cases h : hasAt rows i ((ls.getD i []).getD j 0) = true
  ·
   obtain ⟨k', h4, h5⟩ := ex_l1 ls rows hls hr hw out ho i hi m (j + 1) k1 (acc ++ [(ls.getD i []).getD j 0]) (by omega) (by omega) (by simp; omega)
   refine ⟨k', by omega, ?_⟩
   rw [if_pos h, h5, List.filter_cons_of_pos h, List.append_assoc, List.singleton_append]
  ·
   obtain ⟨k', h4, h5⟩ := ex_l1 ls rows hls hr hw out ho i hi m (j + 1) k1 acc (by omega) (by omega) (by omega)
   refine ⟨k', by omega, ?_⟩
   rw [if_neg h, h5, List.filter_cons_of_neg h]
def kept (ls rows : List (List Int)) (i : Nat) : List Int := (ls.getD i []).filter (hasAt rows i)
theorem ex_l0 (ls rows : List (List Int)) (hls : Lists ls) (hr : rows.length ≤ 4000) (hw : ∀ r ∈ rows, r.length = ls.length) : ∀ (m j k : Nat) (out : List (List Int)), ls.length = j + m → 50000 * m + 10 < k → out = (List.range j).map (kept ls rows) →
  jigsawref10_Exact.l0 k ls rows out (j : Int) = some (if rows.length = 0 then ([], false) else ((List.range ls.length).map (kept ls rows), true))
 | 0, j, k + 1, out, e, hk, ho => by
  obtain rfl : ls.length = j := by omega
  rw [jigsawref10_Exact.l0, ino_, ho]
  by_cases h : rows.length = 0
  ·
   rw [ipo_, if_pos h]
  ·
   rw [ino_, if_neg h]
 | m + 1, j, k + 1, out, e, hk, ho => by
  have hj : j < ls.length := by omega
  have h8 := hls.1
  have hlen := (hls.at hj).2
  have hol : out.length = j := by rw [ho]; simp
  obtain ⟨k', h1, h2⟩ := ex_l1 ls rows hls hr hw out (by omega) j hj (ls.getD j []).length 0 k [] (by omega) (by omega) (by simp)
  have h3 : jigsawref10_Exact.l1 k ls rows out (j : Int) [] 0 = _ := h2
  rw [List.nil_append, List.drop_zero] at h3
  rw [jigsawref10_Exact.l0, if_pos (nlt hj), h3]
  exact ex_l0 ls rows hls hr hw m (j + 1) k' (out ++ [kept ls rows j]) (by omega) (by omega) (by rw [ho, List.range_succ, List.map_append]; rfl)
theorem dig_mod {r a d : Nat} (h : d < a) : (r * a + d) % a = d := by rw [Nat.add_comm, Nat.add_mul_mod_self_right, Nat.mod_eq_of_lt h]
theorem dig_div {r a d : Nat} (h : d < a) : (r * a + d) / a = r := by rw [Nat.add_comm, Nat.add_mul_div_right _ _ (by omega), Nat.div_eq_of_lt h, Nat.zero_add]
def rowOf (ls : List (List Int)) : Nat → Nat → List Int → List Int
 | 0, _, row => row
 | m + 1, r, row => rowOf ls m (r / (ls.getD m []).length) (row.set m ((ls.getD m []).getD (r % (ls.getD m []).length) 0))
def size (ls : List (List Int)) : Nat → Nat
 | 0 => 1
 | m + 1 => size ls m * (ls.getD m []).length
theorem row_of (ls : List (List Int)) (hls : Lists ls) (x : List Int) (hx : Row ls x) : ∀ (m : Nat) (row : List Int), m ≤ ls.length → row.length = ls.length → (∀ i, m ≤ i → i < ls.length → row.getD i 0 = x.getD i 0) → ∃ r, r < size ls m ∧ rowOf ls m r row = x
 | 0, row, _, hl, he => by
  refine ⟨0, Nat.one_pos, ?_⟩
  show row = x
  apply List.ext_getElem (by rw [hl, hx.1])
  intro i h1 h2
  have h := he i (Nat.zero_le _) (by omega)
  rwa [getD_lt _ _ h1, getD_lt _ _ h2] at h
 | m + 1, row, hm, hl, he => by
  have hi : m < ls.length := by omega
  have hlen := hls.at hi
  obtain ⟨d, hd, hxd⟩ := mem_getD (0 : Int) (hx.2 m hi)
  obtain ⟨r, hr, hrow⟩ := row_of ls hls x hx m (row.set m ((ls.getD m []).getD d 0)) (by omega) (by rw [List.length_set]; exact hl) (fun i h1 h2 => by
   rw [getD_set _ _ _ _ _ (by omega)]
   by_cases hmi : m = i
   ·
    rw [if_pos hmi, hxd, hmi]
   ·
    rw [if_neg hmi]; exact he i (by omega) h2)
  refine ⟨r * (ls.getD m []).length + d, ?_, ?_⟩
  ·
   show _ < size ls m * (ls.getD m []).length
   have h1 : (r + 1) * (ls.getD m []).length ≤ size ls m * (ls.getD m []).length := Nat.mul_le_mul_right _ hr
   rw [Nat.add_mul, Nat.one_mul] at h1
   omega
  ·
   show rowOf ls m ((r * (ls.getD m []).length + d) / (ls.getD m []).length) (row.set m ((ls.getD m []).getD ((r * (ls.getD m []).length + d) % (ls.getD m []).length) 0)) = x
   rw [dig_mod hd, dig_div hd]
   exact hrow
theorem prod_row (ls : List (List Int)) (hls : Lists ls) (N : Int) (out : List (List Int)) (ho : out.length ≤ 5000) (a : Int) : ∀ (m k : Nat) (row : List Int) (r : Nat), m ≤ ls.length → m < k → row.length = ls.length → r ≤ 5000 →
  ∃ (k' : Nat), k' + m + 1 = k ∧ jigsawref09_Product.l2 k ls N out a row (r : Int) ((m : Int) - 1) = jigsawref09_Product.l1 k' ls N (out ++ [rowOf ls m r row]) (wrap64 (a + 1))
 | 0, k + 1, row, r, hm, hk, hl, h1 => by
  refine ⟨k, rfl, ?_⟩
  rw [jigsawref09_Product.l2, ind_, ipo_]
  rfl
 | m + 1, k + 1, row, r, hm, hk, hl, h1 => by
  have hi : m < ls.length := by omega
  have hlen := hls.at hi
  have h8 := hls.1
  have e1 : (((m + 1 : Nat) : Int) - 1) = (m : Int) := by omega
  have hne : ¬ ((ls.getD m []).length : Int) = 0 := by omega
  obtain ⟨t, ht⟩ : ∃ t, r % (ls.getD m []).length = t := ⟨_, rfl⟩
  obtain ⟨d, hd⟩ : ∃ d, r / (ls.getD m []).length = d := ⟨_, rfl⟩
  have e2 : Int.tmod (r : Int) ((ls.getD m []).length : Int) = (t : Int) := by rw [Int.tmod_eq_emod_of_nonneg (by omega), ← ht]; rfl
  have e3 : Int.tdiv (r : Int) ((ls.getD m []).length : Int) = (d : Int) := by rw [Int.tdiv_eq_ediv_of_nonneg (by omega), ← hd]; rfl
  have m1 : t < (ls.getD m []).length := by rw [← ht]; exact Nat.mod_lt r hlen.1
  have d1 : d ≤ r := by rw [← hd]; exact Nat.div_le_self r _
  have e4 : wrap64 (d : Int) = (d : Int) := wrap_id (by omega) (by omega)
  have e5 : wrap64 ((m : Int) - 1) = (m : Int) - 1 := wrap_id (by omega) (by omega)
  rw [jigsawref09_Product.l2, e1, ipo_, ipo_, if_pos (nlt hi), rdL_at, if_neg hne, e2, ipo_, if_pos (nlt m1), hl, if_pos (nlt hi), e3, e4, e5, Int.toNat_natCast, rd_at]
  obtain ⟨k', hk', h'⟩ := prod_row ls hls N out ho a m k (row.set m ((ls.getD m []).getD t 0)) d (Nat.le_of_succ_le hm) (Nat.lt_of_succ_lt_succ hk) (by rw [List.length_set]; exact hl) (Nat.le_trans d1 h1)
  refine ⟨k', by omega, ?_⟩
  rw [h', rowOf, ht, hd]
def rowN (ls : List (List Int)) (r : Nat) : List Int := rowOf ls ls.length r (List.replicate ls.length 0)
theorem rowOf_row (ls : List (List Int)) (hls : Lists ls) : ∀ (m r : Nat) (row : List Int), m ≤ ls.length → row.length = ls.length → (∀ i, m ≤ i → i < ls.length → row.getD i 0 ∈ ls.getD i []) → Row ls (rowOf ls m r row)
 | 0, r, row, _, hl, h => ⟨hl, fun i hi => h i (Nat.zero_le _) hi⟩
 | m + 1, r, row, hm, hl, h => by
  have hi : m < ls.length := by omega
  have hlen := hls.at hi
  refine rowOf_row ls hls m _ _ (by omega) (by rw [List.length_set]; exact hl) (fun i h1 h2 => ?_)
  rw [getD_set _ _ _ _ _ (by omega)]
  by_cases hmi : m = i
  ·
   rw [if_pos hmi]; subst hmi
   have ht := Nat.mod_lt r hlen.1
   rw [getD_lt (ls.getD m []) 0 ht]; exact List.getElem_mem _
  ·
   rw [if_neg hmi]; exact h i (by omega) h2
theorem rowN_row (ls : List (List Int)) (hls : Lists ls) (r : Nat) : Row ls (rowN ls r) := rowOf_row ls hls _ _ _ (Nat.le_refl _) (by simp) (fun i h1 h2 => by omega)
theorem size_step (ls : List (List Int)) (hls : Lists ls) {j : Nat} (hj : j < ls.length) : size ls j ≤ size ls (j + 1) := Nat.le_mul_of_pos_right _ (hls.at hj).1
theorem size_mono (ls : List (List Int)) (hls : Lists ls) : ∀ (m j : Nat), ls.length = j + m → size ls j ≤ size ls ls.length
 | 0, j, e => by rw [e]; exact Nat.le_refl _
 | m + 1, j, e => Nat.le_trans (size_step ls hls (by omega)) (size_mono ls hls m (j + 1) (by omega))
theorem prodW_l1 (ls : List (List Int)) (hls : Lists ls) (N : Nat) (hN : N ≤ 4000) : ∀ (m j k : Nat), N = j + m → 12 * m + 20 < k →
  jigsawref09_Product.l1 k ls (N : Int) ((List.range j).map (rowN ls)) (j : Int) = some ((List.range N).map (rowN ls))
 | 0, j, k + 1, e, hk => by
  obtain rfl : N = j := by omega
  rw [jigsawref09_Product.l1, ino_]
 | m + 1, j, k + 1, e, hk => by
  have h8 := hls.1
  have ew : wrap64 ((ls.length : Int) - 1) = (ls.length : Int) - 1 := wrap_id (by omega) (by omega)
  rw [jigsawref09_Product.l1, ipo_, ipo_, ipo_, ew, Int.toNat_natCast]
  obtain ⟨k', hk', h'⟩ := prod_row ls hls (N : Int) ((List.range j).map (rowN ls)) (by simp; omega) (j : Int) ls.length k (List.replicate ls.length 0) j (by omega) (by omega) (by simp) (by omega)
  have e2 : (List.range j).map (rowN ls) ++ [rowOf ls ls.length j (List.replicate ls.length 0)] = (List.range (j + 1)).map (rowN ls) := by rw [List.range_succ, List.map_append]; rfl
  rw [h', wrap_succ' (by omega), e2]
  exact prodW_l1 ls hls N hN m (j + 1) k' (by omega) (by omega)
theorem prodW_l0 (ls : List (List Int)) (hls : Lists ls) (hS : size ls ls.length ≤ 4000) : ∀ (m j k : Nat), ls.length = j + m → m + 50000 < k →
  jigsawref09_Product.l0 k ls 4000 (size ls j : Int) (j : Int) = some ((List.range (size ls ls.length)).map (rowN ls))
 | 0, j, k + 1, e, hk => by
  obtain rfl : ls.length = j := by omega
  have h := prodW_l1 ls hls (size ls ls.length) hS (size ls ls.length) 0 k (by omega) (by omega)
  rw [jigsawref09_Product.l0, ino_]
  exact h
 | m + 1, j, k + 1, e, hk => by
  have hi : j < ls.length := by omega
  have h8 := hls.1
  have hle : size ls (j + 1) ≤ 4000 := Nat.le_trans (size_mono ls hls m (j + 1) (by omega)) hS
  have ew : wrap64 ((size ls j : Int) * ((ls.getD j []).length : Int)) = (size ls (j + 1) : Int) := by
   rw [show (size ls j : Int) * ((ls.getD j []).length : Int) = (size ls (j + 1) : Int) from (Int.natCast_mul _ _).symm]
   exact wrap_id (by omega) (by omega)
  rw [jigsawref09_Product.l0, if_pos (nlt hi), ipo_, rdL_at, ew, ino_, wsu_]
  exact prodW_l0 ls hls hS m (j + 1) k (by omega) (by omega)
theorem idx_fits (ds : List S57) (hd : ∀ d ∈ ds, d.f4 ≠ 0) (hl : ds.length ≤ 100) : ∀ (m j k : Nat), ds.length = j + m → m < k → dom_Dom_73_at_prop_Fits_1.l0 k ds (ds.length : Int) (j : Int) = some (-1)
 | 0, j, k + 1, e, _ => by rw [dom_Dom_73_at_prop_Fits_1.l0, ino_]
 | m + 1, j, k + 1, e, hk => by
  have hj : j < ds.length := by omega
  have hv := hd (ds.getD j z57) (by rw [getD_lt _ _ hj]; exact List.getElem_mem _)
  rw [dom_Dom_73_at_prop_Fits_1.l0, if_pos (nlt hj), ipo_, if_pos (nlt hj), rdD_at]
  have hf : prop_Fits_1.f (ds.getD j z57).f0 (ds.getD j z57).f1 (ds.getD j z57).f2 (ds.getD j z57).f3 (ds.getD j z57).f4 = some false := by
   unfold prop_Fits_1.f dom_Dom_Size.f
   rw [obs_]
   congr 1
   exact beq_eq_false_iff_ne.2 hv
  rw [hf, obs_, ind_, wsu_]
  exact idx_fits ds hd hl m (j + 1) k (by omega) (by omega)
theorem idx_right (l : List Int) (hp : ∀ x ∈ l, 0 ≤ x ∧ x ≤ 4) (hl : l.length ≤ 100) : ∀ (m j k : Nat), l.length = j + m → m < k → slices_IndexFunc_int_int_83_at_model_Right_1.l0 k l (l.length : Int) (j : Int) 256 = some (-1)
 | 0, j, k + 1, e, _ => by rw [slices_IndexFunc_int_int_83_at_model_Right_1.l0, ino_]
 | m + 1, j, k + 1, e, hk => by
  have hj : j < l.length := by omega
  have hv := hp (l.getD j 0) (by rw [getD_lt _ _ hj]; exact List.getElem_mem _)
  rw [slices_IndexFunc_int_int_83_at_model_Right_1.l0, if_pos (nlt hj), ipo_, if_pos (nlt hj), rd_at]
  have hf : model_Right_1.f (l.getD j 0) 256 = some false := by
   unfold model_Right_1.f
   rw [ino_, decide_eq_false (by omega)]
  rw [hf, obs_, ind_, wsu_]
  exact idx_right l hp hl m (j + 1) k (by omega) (by omega)
theorem doms_l0 (ms : List (Fin 2048)) (hs : ∀ c ∈ ms, c.val ≠ 0) (hl : ms.length ≤ 100) : ∀ (m j k : Nat), ms.length = j + m → m + 50 < k →
  jigsawlaw16_doms.l0 k ((ms.take j).map D) (ms.map LL) (ms.length : Int) (j : Int) = some (ms.map D)
 | 0, j, k + 1, e, _ => by
  rw [jigsawlaw16_doms.l0, ino_, List.take_of_length_le (by omega)]
 | m + 1, j, k + 1, e, hk => by
  have hj : j < ms.length := by omega
  have hv := hs (ms.getD j 0) (by rw [getD_lt _ _ hj]; exact List.getElem_mem _)
  rw [jigsawlaw16_doms.l0, if_pos (nlt hj), ipo_, if_pos (by rw [List.length_map]; exact nlt hj), rdL_at, getD_map LL ms 0 [] hj, of_one hv (by omega), obs_, if_pos (by simp; omega), wsu_]
  have h := doms_l0 ms hs hl m (j + 1) k (by omega) (by omega)
  rw [← take_step ms 0 hj, List.map_append] at h
  exact h
theorem doms_f (ms : List (Fin 2048)) (hs : ∀ c ∈ ms, c.val ≠ 0) (hl : ms.length ≤ 100) {k : Nat} (hk : 200 ≤ k) : jigsawlaw16_doms.f k (ms.map LL) = some (ms.map D) := by
 have h := doms_l0 ms hs hl ms.length 0 k (by omega) (by omega)
 unfold jigsawlaw16_doms.f
 rw [List.length_map]
 exact h
def Listed (ds : List S57) (ls : List (List Int)) : Prop := ds.length = ls.length ∧ ∀ i, i < ds.length → ∀ k, 40 ≤ k → dom_Dom_List.f k (ds.getD i z57).f0 (ds.getD i z57).f1 (ds.getD i z57).f2 (ds.getD i z57).f3 (ds.getD i z57).f4 = some (ls.getD i [])
theorem lists_l0 (ds : List S57) (ls : List (List Int)) (hL : Listed ds ls) (hl : ds.length ≤ 100) : ∀ (m j k : Nat), ds.length = j + m → m + 50 < k →
  jigsawlaw16_lists.l0 k (ls.take j) ds (ds.length : Int) (j : Int) = some ls
 | 0, j, k + 1, e, _ => by
  have := hL.1
  rw [jigsawlaw16_lists.l0, ino_, List.take_of_length_le (by omega)]
 | m + 1, j, k + 1, e, hk => by
  have hj : j < ds.length := by omega
  have hl2 := hL.1
  rw [jigsawlaw16_lists.l0, if_pos (nlt hj), ipo_, if_pos (nlt hj), rdD_at, hL.2 j hj k (by omega), obs_, if_pos (by simp; omega), wsu_, take_step ls [] (by omega)]
  exact lists_l0 ds ls hL hl m (j + 1) k (by omega) (by omega)
theorem lists_f (ds : List S57) (ls : List (List Int)) (hL : Listed ds ls) (hl : ds.length ≤ 100) {k : Nat} (hk : 200 ≤ k) : jigsawlaw16_lists.f k ds = some ls :=
 lists_l0 ds ls hL hl ds.length 0 k (by omega) (by omega)
theorem same_l1 (ls : List (List Int)) (hl : ls.length ≤ 100) (i : Nat) (hi : i < ls.length) (hb : (ls.getD i []).length ≤ 11) : ∀ (m j k : Nat), (ls.getD i []).length = j + m → m < k →
  ∃ k', k' + m + 1 = k ∧ jigsawref10_Same.l1 k ls ls (i : Int) (j : Int) = jigsawref10_Same.l0 k' ls ls (((i + 1 : Nat)) : Int)
 | 0, j, k + 1, e, hk => by
  refine ⟨k, rfl, ?_⟩
  rw [jigsawref10_Same.l1, ipo_, if_pos (nlt hi), rdL_at, ino_, wsu_]
 | m + 1, j, k + 1, e, hk => by
  obtain ⟨k', h1, h2⟩ := same_l1 ls hl i hi hb m (j + 1) k (by omega) (by omega)
  refine ⟨k', by omega, ?_⟩
  rw [jigsawref10_Same.l1, ipo_, if_pos (nlt hi), rdL_at, ipo_, ipo_, if_pos (nlt hi), ipo_, if_pos rfl, wsu_]
  exact h2
theorem same_l0 (ls : List (List Int)) (hl : ls.length ≤ 100) (hb : ∀ i, i < ls.length → (ls.getD i []).length ≤ 11) : ∀ (m j k : Nat), ls.length = j + m → 14 * m < k →
  jigsawref10_Same.l0 k ls ls (j : Int) = some true
 | 0, j, k + 1, e, _ => by
  rw [jigsawref10_Same.l0, ino_]
 | m + 1, j, k + 1, e, hk => by
  have hj : j < ls.length := by omega
  have hb' := hb j hj
  obtain ⟨k', h1, h2⟩ := same_l1 ls hl j hj hb' (ls.getD j []).length 0 k (by omega) (by omega)
  have h3 : jigsawref10_Same.l1 k ls ls (j : Int) 0 = _ := h2
  rw [jigsawref10_Same.l0, if_pos (nlt hj), ipo_, if_pos (nlt hj), if_pos rfl, h3]
  exact same_l0 ls hl hb m (j + 1) k' (by omega) (by omega)
theorem same_f (ls : List (List Int)) (hl : ls.length ≤ 100) (hb : ∀ i, i < ls.length → (ls.getD i []).length ≤ 11) {k : Nat} (hk : 2000 ≤ k) : jigsawref10_Same.f k ls ls = some true := by
 unfold jigsawref10_Same.f
 rw [if_pos rfl]
 exact same_l0 ls hl hb ls.length 0 k (by omega) (by omega)
theorem wf_u8 {x : Int} (h : (Lit.int .u8 x).wf = true) : 0 ≤ x ∧ x ≤ 255 := by
 simp only [Lit.wf, IntKind.min, IntKind.max, IntKind.signed, IntKind.bits, Bool.and_eq_true] at h
 simp at h
 omega
theorem make_f (l1 l2 l3 : List Int) (a4 a5 : Int) (h1 : ∀ x ∈ l1, 0 ≤ x ∧ x ≤ 255) {k : Nat} (hk : 20 ≤ k) :
  ∃ (n : Nat) (p : List Int), 1 ≤ n ∧ n ≤ 4 ∧ Places n p ∧ jigsawref06_Make.f k 16 l1 l2 l3 a4 a5 5 = some (17, p, [], [], [], [], 0, []) := by
 have hw : wrap64 (1 + Int.tmod (wrap64 16) 23) = 17 := by decide +kernel
 have hs : jigsawref06_Shapes.f = some ((jigsawref06_Shapes.f).getD []) := by rfl
 have hlen : ((jigsawref06_Shapes.f).getD []).length = 24 := by decide +kernel
 have hvw : rdOf ByteArray.empty ((jigsawref06_Shapes.f).getD []) 17 = (⟨#[86]⟩ : ByteArray) := by rfl
 have key : ∀ n : Nat, n ≤ 4 → ∀ k, 10 ≤ k → ∃ p, Places n p ∧ jigsawref06_Make.j1 k 5 (⟨#[86]⟩ : ByteArray) (n : Int) 16 l1 l2 l3 a4 a5 17 0 = some (17, p, [], [], [], [], 0, []) := by
  intro n hn k hk
  obtain ⟨k, rfl⟩ : ∃ k', k = k' + 1 := ⟨k - 1, by omega⟩
  obtain ⟨p, hp, hpp⟩ := places_f l1 h1 n hn (k := k) (by omega)
  refine ⟨p, hpp, ?_⟩
  rw [jigsawref06_Make.j1, has_f (r := 0) (by decide +kernel) (by omega), obs_, ind_, hp, obs_, has_f (r := 0) (by decide +kernel) (by omega), obs_, ind_, has_f (r := 0) (by decide +kernel) (by omega), obs_, ind_, has_f (r := 0) (by decide +kernel) (by omega), obs_, ind_, ind_, has_f (r := 0) (by decide +kernel) (by omega), obs_, ind_, ind_, ind_, ind_]
 have key0 : ∀ n : Nat, 1 ≤ n → ∃ (m : Nat) (p : List Int), 1 ≤ m ∧ m ≤ 4 ∧ Places m p ∧ jigsawref06_Make.j0 k 5 (⟨#[86]⟩ : ByteArray) (n : Int) 16 l1 l2 l3 a4 a5 17 0 = some (17, p, [], [], [], [], 0, []) := by
  intro n hn
  obtain ⟨k, rfl⟩ : ∃ k', k = k' + 1 := ⟨k - 1, by omega⟩
  by_cases h4 : n ≤ 4
  ·
   obtain ⟨p, hp, e⟩ := key n h4 k (by omega)
   exact ⟨n, p, hn, h4, hp, by rw [jigsawref06_Make.j0, ino_]; exact e⟩
  ·
   obtain ⟨p, hp, e⟩ := key 4 (by decide) k (by omega)
   exact ⟨4, p, by decide, by decide, hp, by rw [jigsawref06_Make.j0, ipo_]; exact e⟩
 unfold jigsawref06_Make.f
 rw [hs, obs_, hw, hlen, if_pos (by decide), if_pos (by decide), hvw]
 by_cases h0 : l1.length < 1
 ·
  rw [ipo_]
  exact key0 1 (by decide)
 ·
  rw [ino_]
  exact key0 l1.length (by omega)
theorem case_l0 (kd : Int) (p : List Int) (n : Nat) (hp : p.length = n) (hn : n ≤ 4) (a0 a4 a5 : Int) (l1 l2 l3 : List Int) (l6 : List (List Int)) : ∀ (m j k : Nat) (ms : List (Fin 2048)), n = j + m → m + 4300 < k → ms.length = j → (∀ c ∈ ms, c.val ≠ 0 ∧ (LL c).length ≤ 6) →
  ∃ ms' : List (Fin 2048), ms'.length = n ∧ (∀ c ∈ ms', c.val ≠ 0 ∧ (LL c).length ≤ 6) ∧ jigsawref10_Make.l0 k 6 (ms.map LL) (j : Int) a0 l1 l2 l3 a4 a5 l6 kd p [] [] [] [] 0 [] = some (kd, p, [], [], [], [], 0, [], ms'.map LL)
 | 0, j, k + 1, ms, e, hk, hl, hs => by
  have hw : wrap64 ((n : Int) + (([] : List Int).length : Int)) = (n : Int) := by rw [wrap_id (by simp <;> omega) (by simp <;> omega)]; simp
  refine ⟨ms, by omega, hs, ?_⟩
  rw [jigsawref10_Make.l0, hp, hw, ino_]
 | m + 1, j, k + 1, ms, e, hk, hl, hs => by
  have hw : wrap64 ((n : Int) + (([] : List Int).length : Int)) = (n : Int) := by rw [wrap_id (by simp <;> omega) (by simp <;> omega)]; simp
  have step : ∀ c : Fin 2048, (c.val ≠ 0 ∧ (LL c).length ≤ 6) → ∃ ms' : List (Fin 2048), ms'.length = n ∧ (∀ c ∈ ms', c.val ≠ 0 ∧ (LL c).length ≤ 6) ∧ jigsawref10_Make.l0 k 6 ((ms.map LL) ++ [LL c]) (wrap64 ((j : Int) + 1)) a0 l1 l2 l3 a4 a5 l6 kd p [] [] [] [] 0 [] = some (kd, p, [], [], [], [], 0, [], ms'.map LL) := by
   intro c hc
   have h := case_l0 kd p n hp hn a0 a4 a5 l1 l2 l3 l6 m (j + 1) k (ms ++ [c]) (by omega) (by omega) (by simp [hl]) (fun x hx => by
    rcases List.mem_append.1 hx with h | h
    ·
     exact hs x h
    ·
     rw [List.mem_singleton] at h; rw [h]; exact hc)
   rw [wsu_]
   rwa [List.map_append] at h
  have hlm : (ms.map LL).length < 5864062014805 := by simp; omega
  rw [jigsawref10_Make.l0, hp, hw, ipo_, obs_]
  have dflt : ∃ c : Fin 2048, (c.val ≠ 0 ∧ (LL c).length ≤ 6) ∧ jigsawref02_Small.f k [Int.tmod (j : Int) 3, 1] 6 6 = some (LL c) := small_f _ (by simp) (by omega)
  by_cases hx : j < l6.length
  ·
   rw [if_pos (nlt hx), ipo_, rdL_at]
   by_cases hz : ((l6.getD j []).length : Int) > 0
   ·
    obtain ⟨c, hc, h⟩ := small_f (l6.getD j []) (by omega) (k := k) (by omega)
    rw [if_pos hz, h, obs_, if_pos hlm]
    exact step c hc
   ·
    obtain ⟨c, hc, h⟩ := dflt
    rw [if_neg hz, h, obs_, if_pos hlm]
    exact step c hc
  ·
   obtain ⟨c, hc, h⟩ := dflt
   rw [if_neg (nge hx), h, obs_, if_pos hlm]
   exact step c hc
theorem case_f (a0 a4 a5 : Int) (l1 l2 l3 : List Int) (l6 : List (List Int)) (h1 : ∀ x ∈ l1, 0 ≤ x ∧ x ≤ 255) {k : Nat} (hk : 4400 ≤ k) :
  ∃ (n : Nat) (p : List Int) (ms : List (Fin 2048)), 1 ≤ n ∧ n ≤ 4 ∧ Places n p ∧ ms.length = n ∧ (∀ c ∈ ms, c.val ≠ 0 ∧ (LL c).length ≤ 6) ∧ jigsawref10_Make.f k a0 l1 l2 l3 a4 a5 l6 17 6 = some (17, p, [], [], [], [], 0, [], ms.map LL) := by
 obtain ⟨n, p, g1, g2, e3, e5⟩ := make_f l1 l2 l3 a4 a5 h1 (k := k) (by omega)
 obtain ⟨ms, f1, f2, f3⟩ := case_l0 17 p n e3.1 g2 16 a4 a5 l1 l2 l3 l6 n 0 k [] (by omega) (by omega) rfl (fun c hc => by simp at hc)
 refine ⟨n, p, ms, g1, g2, e3, f1, f2, ?_⟩
 have hw : (wrap64 (17 - 1)) % 256 = 16 := by decide +kernel
 unfold jigsawref10_Make.f
 rw [hw, e5, obs_]
 exact f3
def iota (a n : Nat) : List Int := (List.range n).map fun i => ((a + i : Nat) : Int)
theorem iota_len (a n : Nat) : (iota a n).length = n := by simp [iota]
theorem iota_at (a n j : Nat) (h : j < n) : (iota a n).getD j 0 = ((a + j : Nat) : Int) := by
 rw [getD_lt _ _ (by rw [iota_len]; exact h)]; simp [iota]
theorem iota_succ (a n : Nat) : iota a n ++ [((a + n : Nat) : Int)] = iota a (n + 1) := by simp [iota, List.range_succ]
theorem local_l0 (p : List Int) (n : Nat) (hp : p.length = n) (hn : n ≤ 4) : ∀ (m j k : Nat), n = j + m → m + 6 < k →
  jigsawref10_Local.l0 k (j : Int) 17 p [] [] [] [] 0 [] 17 (iota 0 j) [] [] [] 0 [] = some (17, iota 0 n, [], [], [], [], 0, [])
 | 0, j, k + 1, e, _ => by
  obtain rfl : n = j := by omega
  obtain ⟨k, rfl⟩ : ∃ k', k = k' + 1 := ⟨k - 1, by omega⟩
  rw [jigsawref10_Local.l0, hp, ino_, jigsawref10_Local.l1, if_neg (by simp)]
 | m + 1, j, k + 1, e, hk => by
  have h := iota_succ 0 j
  rw [Nat.zero_add] at h
  rw [jigsawref10_Local.l0, hp, ipo_, if_pos (by rw [iota_len]; omega), wsu_, h]
  exact local_l0 p n hp hn m (j + 1) k (by omega) (by omega)
theorem local_f (p : List Int) (n : Nat) (hp : p.length = n) (hn : n ≤ 4) {k : Nat} (hk : 11 ≤ k) : jigsawref10_Local.f k 17 p [] [] [] [] 0 [] = some (17, iota 0 n, [], [], [], [], 0, []) :=
 local_l0 p n hp hn n 0 k (by omega) (by omega)
def Unlike (vs : List Int) : Prop := ∀ i j : Nat, i < vs.length → j < i → vs.getD i 0 ≠ vs.getD j 0
theorem rd_iota (n j : Nat) (h : j < n) : rd (iota 0 n) (j : Int) = (j : Int) := by rw [rd_at, iota_at 0 n j h, Nat.zero_add]
theorem holds_l1 (vs : List Int) (n : Nat) (hv : vs.length = n) (hn : n ≤ 100) (i : Nat) (hi : i < n) : ∀ (m j k : Nat), i = j + m → m < k → (∀ b, b < j → vs.getD i 0 ≠ vs.getD b 0) →
  (jigsawref09_Holds.l1 k vs (i : Int) (j : Int) 17 (iota 0 n) [] [] [] [] 0 [] = some false ∧ ¬ Unlike vs) ∨
  ∃ k', k' + m + 1 = k ∧ jigsawref09_Holds.l1 k vs (i : Int) (j : Int) 17 (iota 0 n) [] [] [] [] 0 [] = jigsawref09_Holds.l0 k' vs ((i + 1 : Nat) : Int) 17 (iota 0 n) [] [] [] [] 0 [] ∧ ∀ b, b < i → vs.getD i 0 ≠ vs.getD b 0
 | 0, j, k + 1, e, hk, h => by
  obtain rfl : i = j := by omega
  refine .inr ⟨k, rfl, ?_, h⟩
  rw [jigsawref09_Holds.l1, ino_, wsu_]
 | m + 1, j, k + 1, e, hk, h => by
  have hj : j < n := by omega
  rw [jigsawref09_Holds.l1, ipo_, ipo_, iota_len, if_pos (nlt hi), rd_iota n i hi, ipo_, ipo_, ipo_, if_pos (nlt hj), rd_iota n j hj, ipo_, ipo_, rd_at, rd_at, wsu_]
  by_cases c : vs.getD i 0 = vs.getD j 0
  ·
   rw [if_pos c]
   exact .inl ⟨rfl, fun u => u i j (by omega) (by omega) c⟩
  ·
   rw [if_neg c]
   rcases holds_l1 vs n hv hn i hi m (j + 1) k (by omega) (by omega) (fun b hb => by
    by_cases e2 : b = j
    ·
     rw [e2]; exact c
    ·
     exact h b (by omega)) with r | ⟨k', r1, r2, r3⟩
   ·
    exact .inl r
   ·
    exact .inr ⟨k', by omega, r2, r3⟩
theorem holds_l0 (vs : List Int) (n : Nat) (hv : vs.length = n) (hn : n ≤ 4) : ∀ (m i k : Nat), n = i + m → 6 * m + 6 < k → (∀ a b, a < i → b < a → vs.getD a 0 ≠ vs.getD b 0) →
  ∃ b : Bool, (b = true ↔ Unlike vs) ∧ jigsawref09_Holds.l0 k vs (i : Int) 17 (iota 0 n) [] [] [] [] 0 [] = some b
 | 0, i, k + 1, e, hk, h => by
  refine ⟨true, ⟨fun _ a b ha hb => h a b (by omega) hb, fun _ => rfl⟩, ?_⟩
  rw [jigsawref09_Holds.l0, iota_len, ino_]
 | m + 1, i, k + 1, e, hk, h => by
  rw [jigsawref09_Holds.l0, iota_len, ipo_]
  rcases holds_l1 vs n hv (by omega) i (by omega) i 0 k (by omega) (by omega) (fun b hb => absurd hb (Nat.not_lt_zero _)) with ⟨r1, r2⟩ | ⟨k', r1, r2, r3⟩
  ·
   exact ⟨false, ⟨fun h => absurd h (by decide), fun u => absurd u r2⟩, r1⟩
  ·
   have r2' : jigsawref09_Holds.l1 k vs (i : Int) 0 17 (iota 0 n) [] [] [] [] 0 [] = _ := r2
   rw [r2']
   exact holds_l0 vs n hv hn m (i + 1) k' (by omega) (by omega) (fun a b ha hb => by
    by_cases e2 : a = i
    ·
     rw [e2]; exact r3 b (by omega)
    ·
     exact h a b (by omega) hb)
theorem holds_f (vs : List Int) (n : Nat) (hv : vs.length = n) (hn : n ≤ 4) {k : Nat} (hk : 31 ≤ k) : ∃ b : Bool, (b = true ↔ Unlike vs) ∧ jigsawref09_Holds.f k 17 (iota 0 n) [] [] [] [] 0 [] vs = some b := by
 obtain ⟨b, h1, h2⟩ := holds_l0 vs n hv hn n 0 k (by omega) (by omega) (fun a b ha => absurd ha (Nat.not_lt_zero _))
 refine ⟨b, h1, ?_⟩
 unfold jigsawref09_Holds.f
 rw [ind_, ind_, ind_, if_pos rfl]
 exact h2
theorem sol_l1 (n : Nat) (hn : n ≤ 4) (ls : List (List Int)) (hl : ls.length = n) (rows : List (List Int)) (hlen : rows.length ≤ 4000) (hr : ∀ r ∈ rows, Row ls r) : ∀ (m j k : Nat) (out : List (List Int)), rows.length = j + m → m + 40 < k → out.length ≤ j → (∀ x, x ∈ out ↔ x ∈ rows.take j ∧ Unlike x) →
  ∃ out', out'.length ≤ 4000 ∧ (∀ x, x ∈ out' ↔ x ∈ rows ∧ Unlike x) ∧ jigsawref10_Solutions.l1 k rows out (j : Int) 17 (iota 0 n) [] [] [] [] 0 [] = some (out', true)
 | 0, j, k + 1, out, e, hk, ho, hg => by
  refine ⟨out, by omega, fun x => ?_, ?_⟩
  ·
   rw [hg x, List.take_of_length_le (by omega)]
  ·
   rw [jigsawref10_Solutions.l1, ino_]
 | m + 1, j, k + 1, out, e, hk, ho, hg => by
  have hj : j < rows.length := by omega
  have hrow := hr (rows.getD j []) (by rw [getD_lt _ _ hj]; exact List.getElem_mem _)
  obtain ⟨b, hb, h⟩ := holds_f (rows.getD j []) n (by rw [hrow.1]; exact hl) hn (k := k) (by omega)
  rw [jigsawref10_Solutions.l1, if_pos (nlt hj), ipo_, rdL_at, h, obs_]
  cases b with
  | true =>
   rw [if_pos rfl, ipo_, wrap_succ' (by omega)]
   refine sol_l1 n hn ls hl rows hlen hr m (j + 1) k _ (by omega) (by omega) (by simp; omega) (fun x => ?_)
   rw [← take_step rows [] hj, List.mem_append, List.mem_append, List.mem_singleton, hg x]
   constructor
   ·
    rintro (⟨h1, h2⟩ | rfl)
    ·
     exact ⟨Or.inl h1, h2⟩
    ·
     exact ⟨Or.inr rfl, hb.1 rfl⟩
   ·
    rintro ⟨h1 | h1, h2⟩
    ·
     exact Or.inl ⟨h1, h2⟩
    ·
     exact Or.inr h1
  | false =>
   rw [ind_, wrap_succ' (by omega)]
   refine sol_l1 n hn ls hl rows hlen hr m (j + 1) k out (by omega) (by omega) (by omega) (fun x => ?_)
   rw [← take_step rows [] hj, List.mem_append, List.mem_singleton, hg x]
   constructor
   ·
    exact fun ⟨h1, h2⟩ => ⟨Or.inl h1, h2⟩
   ·
    rintro ⟨h1 | rfl, h2⟩
    ·
     exact ⟨h1, h2⟩
    ·
     exact absurd (hb.2 h2) (by decide)
def Whole (ls rows : List (List Int)) : Prop := rows.length ≤ 4000 ∧ ∀ x, x ∈ rows ↔ Row ls x ∧ Unlike x
theorem size_six (ls : List (List Int)) (h6 : ∀ l ∈ ls, l.length ≤ 6) : ∀ j, j ≤ ls.length → size ls j ≤ 6 ^ j
 | 0, _ => by simp [size]
 | j + 1, h => by
  have h1 := size_six ls h6 j (by omega)
  have h2 : (ls.getD j []).length ≤ 6 := by rw [getD_lt _ _ (by omega)]; exact h6 _ (List.getElem_mem _)
  show size ls j * (ls.getD j []).length ≤ 6 ^ j * 6
  exact Nat.mul_le_mul h1 h2
theorem size_few (ls : List (List Int)) (h6 : ∀ l ∈ ls, l.length ≤ 6) (hl : ls.length ≤ 4) {j : Nat} (hj : j ≤ ls.length) : size ls j ≤ 1296 := Nat.le_trans (size_six ls h6 j hj) (Nat.pow_le_pow_right (n := 6) (by decide) (show j ≤ 4 by omega))
theorem sol_l0 (p : List Int) (n : Nat) (hn : n ≤ 4) (hp : p.length = n) (ls : List (List Int)) (hls : Lists ls) (h6 : ∀ l ∈ ls, l.length ≤ 6) (hl : ls.length = n) : ∀ (m j k : Nat), ls.length = j + m → m + 60000 < k →
  ∃ rows : List (List Int), Whole ls rows ∧ jigsawref10_Solutions.l0 k ls 4000 (size ls j : Int) (j : Int) 17 p [] [] [] [] 0 [] = some (rows, true)
 | 0, j, k + 1, e, hk => by
  obtain rfl : ls.length = j := by omega
  have hN := size_few ls h6 (by omega) (Nat.le_refl ls.length)
  have c := prodW_l0 ls hls (by omega) ls.length 0 k (by omega) (by omega)
  obtain ⟨out, f, g, h⟩ := sol_l1 n hn ls hl ((List.range (size ls ls.length)).map (rowN ls)) (by simp; omega) (fun x hx => by obtain ⟨r, _, rfl⟩ := List.mem_map.1 hx; exact rowN_row ls hls r) _ 0 k [] (Nat.zero_add _).symm (by simp; omega) (by simp) (fun x => by simp)
  refine ⟨out, ⟨f, fun x => ?_⟩, ?_⟩
  ·
   rw [g x]
   constructor
   ·
    rintro ⟨h1, h2⟩
    obtain ⟨r, _, rfl⟩ := List.mem_map.1 h1
    exact ⟨rowN_row ls hls r, h2⟩
   ·
    rintro ⟨h1, h2⟩
    obtain ⟨r, hr, hrow⟩ := row_of ls hls x h1 ls.length (List.replicate ls.length 0) (Nat.le_refl _) (by simp) (fun i h3 h4 => by omega)
    exact ⟨List.mem_map.2 ⟨r, List.mem_range.2 hr, hrow⟩, h2⟩
  ·
   have c' : jigsawref09_Product.f k ls 4000 = some ((List.range (size ls ls.length)).map (rowN ls)) := c
   rw [jigsawref10_Solutions.l0, ino_, local_f p n hp hn (by omega), obs_, c', obs_]
   exact h
 | m + 1, j, k + 1, e, hk => by
  have hi : j < ls.length := by omega
  have hlen := hls.at hi
  have hm := size_few ls h6 (by omega) (show j + 1 ≤ ls.length by omega)
  have ew : wrap64 ((size ls j : Int) * ((ls.getD j []).length : Int)) = (size ls (j + 1) : Int) := by
   rw [show (size ls j : Int) * ((ls.getD j []).length : Int) = (size ls (j + 1) : Int) from (Int.natCast_mul _ _).symm]
   exact wrap_id (by omega) (by omega)
  rw [jigsawref10_Solutions.l0, if_pos (nlt hi), ipo_, rdL_at, ew, ino_, wsu_]
  exact sol_l0 p n hn hp ls hls h6 hl m (j + 1) k (by omega) (by omega)
theorem sol_f (p : List Int) (n : Nat) (hn : n ≤ 4) (hp : p.length = n) (ls : List (List Int)) (hls : Lists ls) (h6 : ∀ l ∈ ls, l.length ≤ 6) (hl : ls.length = n) {k : Nat} (hk : 70000 ≤ k) : ∃ rows, Whole ls rows ∧ jigsawref10_Solutions.f k 17 p [] [] [] [] 0 [] ls 4000 = some (rows, true) :=
 sol_l0 p n hn hp ls hls h6 hl ls.length 0 k (by omega) (by omega)
theorem vars_f (p : List Int) (n : Nat) (hp : p.length = n) (hn : n ≤ 100) {k : Nat} (hk : 20 ≤ k) : model_Vars.f k 17 p [] [] [] [] 0 [] = some p := by
 obtain ⟨k, rfl⟩ : ∃ k', k = k' + 6 := ⟨k - 6, by omega⟩
 have r0 : rd_L3 [p, []] 0 = p := rfl
 have r1 : rd_L3 [p, []] 1 = [] := rfl
 have e1 : wrap64 (0 + (n : Int)) = (n : Int) := by rw [wrap_id (by omega) (by omega)]; omega
 have e2 : wrap64 ((n : Int) + (([] : List Int).length : Int)) = (n : Int) := by rw [wrap_id (by simp <;> omega) (by simp <;> omega)]; simp
 have w1 : wrap64 (0 + 1) = 1 := by decide +kernel
 have w2 : wrap64 (1 + 1) = 2 := by decide +kernel
 have hlen : (([p, []] : List (List Int)).length : Int) = 2 := rfl
 unfold model_Vars.f slices_Concat_int_int.f
 rw [hlen, slices_Concat_int_int.l0, if_pos (by decide), if_pos (by decide), hlen, if_pos (by decide), r0, hp, e1, ino_, w1, slices_Concat_int_int.l0, if_pos (by decide), if_pos (by decide), hlen, if_pos (by decide), r1, e2, ino_, w2, slices_Concat_int_int.l0, ind_]
 have hg : slices_GrowNil.f (n : Int) = some [] := by unfold slices_GrowNil.f; rw [if_pos ⟨by omega, by omega⟩]
 rw [hg, obs_, hlen, slices_Concat_int_int.l1, if_pos (by decide), if_pos (by decide), hlen, if_pos (by decide), r0, if_pos (by simp [hp]; omega), w1, slices_Concat_int_int.l1, if_pos (by decide), if_pos (by decide), hlen, if_pos (by decide), r1, if_pos (by simp [hp]; omega), w2, slices_Concat_int_int.l1, ind_, obs_]
 simp
theorem bounded_f {a : Int} {k : Nat} (hk : 5 ≤ k) : model_bounded.f k [] a = some true := by
 obtain ⟨k, rfl⟩ : ∃ k', k = k' + 1 := ⟨k - 1, by omega⟩
 unfold model_bounded.f slices_ContainsFunc_int_int_60_at_model_bounded_1.f slices_IndexFunc_int_int_83_at_model_bounded_1.f
 rw [slices_IndexFunc_int_int_83_at_model_bounded_1.l0, ind_, obs_, obs_]
 rfl
theorem right_f (p : List Int) (n : Nat) (h1 : 1 ≤ n) (hn : n ≤ 4) (hp : Places n p) {k : Nat} (hk : 30 ≤ k) : model_Right.f k 17 p [] [] [] [] 0 [] 256 = some 0 := by
 have hs : model_Shape.f 17 = some (⟨#[86]⟩ : ByteArray) := by decide +kernel
 have hc : model_counted.f 17 p [] [] [] [] 0 [] (⟨#[86]⟩ : ByteArray) = some true := by
  have e0 : strings_Contains.f (⟨#[86]⟩ : ByteArray) (⟨#[114]⟩ : ByteArray) = some false := by decide +kernel
  have e1 : strings_Contains.f (⟨#[86]⟩ : ByteArray) (⟨#[86]⟩ : ByteArray) = some true := by decide +kernel
  have e2 : model_named.f ((p.length : Nat) : Int) (⟨#[86]⟩ : ByteArray) (⟨#[118]⟩ : ByteArray) (⟨#[86]⟩ : ByteArray) = some true := by
   unfold model_named.f model_within.f
   rw [e1, obs_, if_pos rfl, hp.1, ipo_, obs_, decide_eq_true (by omega)]
  have e3 : model_named.f ((([] : List Int).length : Nat) : Int) (⟨#[86]⟩ : ByteArray) (⟨#[119]⟩ : ByteArray) (⟨#[87]⟩ : ByteArray) = some true := by decide +kernel
  have e4 : model_named.f ((([] : List Int).length : Nat) : Int) (⟨#[86]⟩ : ByteArray) (⟨#[45]⟩ : ByteArray) (⟨#[99]⟩ : ByteArray) = some true := by decide +kernel
  have e5 : model_named.f ((([] : List Int).length : Nat) : Int) (⟨#[86]⟩ : ByteArray) (⟨#[45]⟩ : ByteArray) (⟨#[100]⟩ : ByteArray) = some true := by decide +kernel
  have e6 : model_named.f ((([] : List Int).length : Nat) : Int) (⟨#[86]⟩ : ByteArray) (⟨#[45]⟩ : ByteArray) (⟨#[101]⟩ : ByteArray) = some true := by decide +kernel
  unfold model_counted.f
  rw [ind_, e0, obs_, ind_, if_pos (by decide), e2, obs_, if_pos rfl, e3, obs_, if_pos rfl, e4, obs_, if_pos rfl, e5, obs_, if_pos rfl, e6, obs_]
 have ha : model_alike.f 17 p [] [] [] [] 0 [] = some true := by
  unfold model_alike.f
  rw [ind_, ind_, ind_, ind_, ind_, ind_, ind_, ind_, ind_]
 have hi : slices_ContainsFunc_int_int_60_at_model_Right_1.f k p 256 = some false := by
  unfold slices_ContainsFunc_int_int_60_at_model_Right_1.f slices_IndexFunc_int_int_83_at_model_Right_1.f
  have h := idx_right p hp.2 (by rw [hp.1]; omega) p.length 0 k (by omega) (by rw [hp.1]; omega)
  have h' : slices_IndexFunc_int_int_83_at_model_Right_1.l0 k p (p.length : Int) 0 256 = some (-1) := h
  rw [h', obs_]
  rfl
 have hb : model_numbers.f k 17 p [] [] [] [] 0 [] = some true := by
  obtain ⟨k, rfl⟩ : ∃ k', k = k' + 1 := ⟨k - 1, by omega⟩
  unfold model_numbers.f
  rw [ind_, ind_, model_numbers.l0, ind_, bounded_f (by omega), obs_, if_pos rfl, obs_, if_pos rfl, obs_, if_pos rfl, if_pos (by decide)]
  rfl
 have hn' : model_counts.f 17 p [] [] [] [] 0 [] = some true := by unfold model_counts.f; rw [ind_]
 unfold model_Right.f
 rw [hs, obs_, if_neg (by decide +kernel), hc, obs_, if_pos rfl, ha, obs_, if_pos rfl, if_pos rfl, vars_f p n hp.1 (by omega) (by omega), obs_, hi, obs_, ind_, hb, obs_, if_pos rfl, hn', obs_, if_pos rfl]
theorem fits_f (p : List Int) (ds : List S57) (n : Nat) (h1 : 1 ≤ n) (hn : n ≤ 4) (hp : Places n p) (hv : ds.length = n) (hd : ∀ d ∈ ds, d.f4 ≠ 0) {k : Nat} (hk : 30 ≤ k) : prop_Fits.f k 17 p [] [] [] [] 0 [] ds 17 17 = some true := by
 have hi : dom_Dom_55_at_prop_Fits_1.f k ds = some false := by
  unfold dom_Dom_55_at_prop_Fits_1.f dom_Dom_73_at_prop_Fits_1.f
  have h' : dom_Dom_73_at_prop_Fits_1.l0 k ds ((ds.length : Nat) : Int) 0 = some (-1) := idx_fits ds hd (by omega) ds.length 0 k (by omega) (by omega)
  rw [h', obs_]
  rfl
 have hw : wrap64 ((n : Int) + (([] : List Int).length : Int)) = (n : Int) := by rw [wrap_id (by simp <;> omega) (by simp <;> omega)]; simp
 unfold prop_Fits.f
 rw [hi, obs_, if_pos (by decide), if_pos (by decide), right_f p n h1 hn hp hk, obs_, if_pos rfl, hp.1, hw, ipo_]
 rfl
theorem near_filter (m : Fin 2048) (p : Int → Bool) : Near ((LL m).filter p) := fun v hv => near_LL m v (List.mem_filter.1 hv).1
theorem LL_mk_filter (m : Fin 2048) (p : Int → Bool) : LL (mk ((LL m).filter p)) = (LL m).filter p := by
 conv => rhs; unfold LL
 refine L_filter fun v h1 h2 => ?_
 rw [show L (mk ((LL m).filter p)).val = LL (mk ((LL m).filter p)) from rfl, mem_mk (near_filter m p), List.mem_filter]
 rfl
theorem vals_one {m : Fin 2048} (hm : m.val ≠ 0) {k : Nat} (hk : 40 ≤ k) : valsF k (D m) = some (LL m) := by
 have h := up (f := fun k => eachF k (D m) k (D m).f2) (fun k r h => eachF_mono k _ _ h) (each_all m hm) hk
 unfold valsF
 rw [list_one m hk, obs_, if_pos ⟨h, List.all_eq_true.2 fun x hx => decide_eq_true (by have := near_LL m x hx; omega)⟩]
theorem all_vals {k : Nat} (hk : 40 ≤ k) : ∀ (ms : List (Fin 2048)), (∀ c ∈ ms, c.val ≠ 0) → allVals k (ms.map D) = some (ms.map LL)
 | [], _ => rfl
 | m :: ms, h => by
  rw [List.map_cons, allVals, vals_one (h m (List.mem_cons_self ..)) hk, obs_, all_vals hk ms (fun c hc => h c (List.mem_cons_of_mem _ hc)), obs_]
  rfl
theorem val_at (ms : List (Fin 2048)) (i : Nat) (hi : i < ms.length) : valAt (ms.map LL) (i : Int) = LL (ms.getD i 0) := by
 unfold valAt
 rw [Int.toNat_natCast, getD_map LL ms 0 [] hi]
theorem mem_left {Df : Int → List Int} {n : Nat} {i v : Int} : v ∈ left Df n i ↔ v ∈ Df i ∧ ∃ a, Sol Df n a ∧ a i = v := by
 unfold left
 rw [List.mem_filter]
 simp only [decide_eq_true_eq]
theorem left_at (ms : List (Fin 2048)) (n : Nat) (hl : ms.length = n) (i : Nat) (hi : i < n) : ∃ p : Int → Bool, left (valAt (ms.map LL)) n (i : Int) = (LL (ms.getD i 0)).filter p := by
 unfold left
 rw [val_at ms i (by omega)]
 exact ⟨_, rfl⟩
theorem filter_f (p : List Int) (n : Nat) (h1 : 1 ≤ n) (hn : n ≤ 4) (hp : Places n p) (ms : List (Fin 2048)) (hl : ms.length = n) (hs : ∀ c ∈ ms, c.val ≠ 0) {k : Nat} (hk : 2000 ≤ k) :
  ∃ r, alldiff_Filter.f k 17 p [] [] [] [] 0 [] (ms.map D) = some r ∧ ((∃ a, Sol (valAt (ms.map LL)) n a) → r = ((List.range n).map fun i : Nat => D (mk (left (valAt (ms.map LL)) n (i : Int))), true)) ∧ ((¬ ∃ a, Sol (valAt (ms.map LL)) n a) → r = ([], false)) := by
 obtain ⟨s, t, b, w1, w2, w3⟩ := whole (D := valAt (ms.map LL)) (n := n) (c := 11) (k := n + 1) (by omega) (fun i h0 h1 => by
  obtain ⟨j, rfl⟩ := Int.eq_ofNat_of_zero_le h0
  have hj : j < ms.length := by omega
  show (valAt (ms.map LL) ((j : Nat) : Int)).length ≤ 11
  rw [val_at ms j hj]; exact (len_all _).1) (by omega)
 have hlen : (ms.map D).length = n := by simp [hl]
 have hall : (ms.map LL).all (fun L => decide (L.length ≤ 1048576)) = true := List.all_eq_true.2 fun L hL => by
  obtain ⟨m, _, rfl⟩ := List.mem_map.1 hL
  exact decide_eq_true (Nat.le_trans (len_all m).1 (by decide))
 unfold alldiff_Filter.f
 rw [fits_f p (ms.map D) n h1 hn hp hlen (fun d hd => by obtain ⟨m, hm, rfl⟩ := List.mem_map.1 hd; exact size_all m (hs m hm)) (by omega), obs_, if_pos rfl]
 unfold alldiff_Filter.g
 rw [hlen, if_pos ⟨by omega, by omega⟩, all_vals (by omega) ms hs, obs_, if_pos hall, w1, obs_]
 cases b with
 | false =>
  rw [if_neg (fun h => Bool.noConfusion h)]
  exact ⟨_, rfl, fun ⟨a, ha⟩ => absurd ha (w2 rfl a), fun _ => rfl⟩
 | true =>
  obtain ⟨⟨a, ha⟩, h2⟩ := w3 rfl
  have h2' : filtL (valAt (ms.map LL)) (n + 1) n 0 [] s t = some ((List.range n).map fun j : Nat => left (valAt (ms.map LL)) n (j : Int)) := h2
  have hm := made_l0 ((List.range n).map fun j : Nat => left (valAt (ms.map LL)) n (j : Int)) (fun l hl' => by
   obtain ⟨j, hj, rfl⟩ := List.mem_map.1 hl'
   have hj' : j < n := List.mem_range.1 hj
   obtain ⟨q, e⟩ := left_at ms n hl j hj'
   refine ⟨fun e0 => ?_, by rw [e]; exact Nat.le_trans (List.length_filter_le _ _) (Nat.le_trans (len_all _).1 (by decide)), by rw [e]; exact near_filter _ _⟩
   have : a (j : Int) ∈ left (valAt (ms.map LL)) n (j : Int) := mem_left.2 ⟨ha.1 j (by omega) (by omega), a, ha, rfl⟩
   rw [e0] at this
   cases this) (by simp; omega) _ 0 k (Nat.zero_add _).symm (by simp; omega)
  have hm' : prop_Made.f k ((List.range n).map fun j : Nat => left (valAt (ms.map LL)) n (j : Int)) = _ := hm
  rw [if_pos rfl, h2', obs_, hm']
  refine ⟨_, rfl, fun _ => ?_, fun h => absurd ⟨a, ha⟩ h⟩
  rw [List.map_map]
  rfl
theorem hasAt_iff (rows : List (List Int)) (i : Nat) (v : Int) : hasAt rows i v = true ↔ ∃ x, x ∈ rows ∧ x.getD i 0 = v := by
 unfold hasAt
 rw [List.any_eq_true]
 constructor
 ·
  exact fun ⟨x, h1, h2⟩ => ⟨x, h1, beq_iff_eq.1 h2⟩
 ·
  exact fun ⟨x, h1, h2⟩ => ⟨x, h1, beq_iff_eq.2 h2⟩
theorem sol_row {ls : List (List Int)} {x : List Int} (h : Row ls x) (u : Unlike x) : Sol (valAt ls) ls.length (fun q => x.getD q.toNat 0) := by
 refine ⟨fun i h0 h1 => h.2 i.toNat (by omega), fun i j i0 i1 j0 j1 e => ?_⟩
 have e' : x.getD i.toNat 0 = x.getD j.toNat 0 := e
 rcases Int.lt_trichotomy i j with c | c | c
 ·
  exact absurd e'.symm (u j.toNat i.toNat (by rw [h.1]; omega) (by omega))
 ·
  exact c
 ·
  exact absurd e' (u i.toNat j.toNat (by rw [h.1]; omega) (by omega))
theorem row_sol {ls : List (List Int)} {a : Int → Int} (h : Sol (valAt ls) ls.length a) : ∃ x, Row ls x ∧ Unlike x ∧ ∀ i : Nat, i < ls.length → x.getD i 0 = a i := by
 have hat : ∀ i : Nat, i < ls.length → ((List.range ls.length).map fun i : Nat => a i).getD i 0 = a i := fun i hi => by
  rw [getD_map (fun i : Nat => a i) (List.range ls.length) 0 0 (by simpa using hi), getD_lt _ _ (by simpa using hi)]; simp
 refine ⟨(List.range ls.length).map fun i : Nat => a i, ⟨by simp, fun i hi => ?_⟩, fun i j hi hj e => ?_, hat⟩
 ·
  rw [hat i hi]
  exact h.1 (i : Int) (by omega) (by omega)
 ·
  have hi' : i < ls.length := by simpa using hi
  rw [hat i hi', hat j (by omega)] at e
  have := h.2 (i : Int) (j : Int) (by omega) (by omega) (by omega) (by omega) e
  omega
theorem at_left {ls rows : List (List Int)} (hw : Whole ls rows) (i : Nat) (hi : i < ls.length) : kept ls rows i = left (valAt ls) ls.length (i : Int) := by
 unfold kept left
 have e : valAt ls (i : Int) = ls.getD i [] := by unfold valAt; rw [Int.toNat_natCast]
 rw [e]
 refine List.filter_congr fun v hv => ?_
 rw [Bool.eq_iff_iff, hasAt_iff]
 simp only [decide_eq_true_eq]
 constructor
 ·
  rintro ⟨x, h1, h2⟩
  obtain ⟨h3, h4⟩ := (hw.2 x).1 h1
  exact ⟨_, sol_row h3 h4, by show x.getD ((i : Int)).toNat 0 = v; rw [Int.toNat_natCast]; exact h2⟩
 ·
  rintro ⟨a, h1, h2⟩
  obtain ⟨x, h3, h4, h5⟩ := row_sol h1
  exact ⟨x, (hw.2 x).2 ⟨h3, h4⟩, (h5 i hi).trans h2⟩
theorem some_sol {ls rows : List (List Int)} (hw : Whole ls rows) : rows.length = 0 ↔ ¬ ∃ a, Sol (valAt ls) ls.length a := by
 constructor
 ·
  rintro h ⟨a, ha⟩
  obtain ⟨x, h3, h4, _⟩ := row_sol ha
  have := (hw.2 x).2 ⟨h3, h4⟩
  rw [List.eq_nil_of_length_eq_zero h] at this
  cases this
 ·
  intro h
  by_cases c : rows.length = 0
  ·
   exact c
  ·
   obtain ⟨x, hx⟩ := List.exists_mem_of_length_pos (Nat.pos_of_ne_zero c)
   obtain ⟨h3, h4⟩ := (hw.2 x).1 hx
   exact absurd ⟨_, sol_row h3 h4⟩ h
theorem wakes_true {k : Nat} (hk : 60 ≤ k) : jigsawlaw16_wakes.f k = some true := up (f := fun k => jigsawlaw16_wakes.f k) jigsawlaw16_wakes.mono (by decide +kernel : jigsawlaw16_wakes.f 60 = some true) hk
noncomputable def leftL (ms : List (Fin 2048)) (n : Nat) : List (List Int) := (List.range n).map fun i : Nat => left (valAt (ms.map LL)) n (i : Int)
theorem leftL_len (ms : List (Fin 2048)) (n : Nat) : (leftL ms n).length = n := by simp [leftL]
theorem leftL_at (ms : List (Fin 2048)) (n : Nat) {i : Nat} (hi : i < n) : (leftL ms n).getD i [] = left (valAt (ms.map LL)) n (i : Int) := by
 unfold leftL
 rw [getD_map (fun i : Nat => left (valAt (ms.map LL)) n (i : Int)) (List.range n) 0 [] (by simpa using hi), getD_lt _ _ (by simpa using hi)]; simp
theorem leftL_listed (ms : List (Fin 2048)) (n : Nat) (hl : ms.length = n) : Listed ((List.range n).map fun i : Nat => D (mk (left (valAt (ms.map LL)) n (i : Int)))) (leftL ms n) := by
 refine ⟨by simp [leftL], fun i hi k hk => ?_⟩
 have hi' : i < n := by simpa using hi
 obtain ⟨p, e⟩ := left_at ms n hl i hi'
 have e4 : ((List.range n).map fun i : Nat => D (mk (left (valAt (ms.map LL)) n (i : Int)))).getD i z57 = D (mk (left (valAt (ms.map LL)) n (i : Int))) := by
  rw [getD_map (fun i : Nat => D (mk (left (valAt (ms.map LL)) n (i : Int)))) (List.range n) 0 z57 (by simpa using hi'), getD_lt _ _ (by simpa using hi')]; simp
 rw [e4, leftL_at ms n hi', list_one _ hk, e, LL_mk_filter]
theorem leftL_short (ms : List (Fin 2048)) (n : Nat) (hl : ms.length = n) : ∀ i, i < (leftL ms n).length → ((leftL ms n).getD i []).length ≤ 11 := fun i hi => by
 have hi' : i < n := by simpa [leftL] using hi
 obtain ⟨p, e⟩ := left_at ms n hl i hi'
 rw [leftL_at ms n hi', e]
 exact Nat.le_trans (List.length_filter_le _ _) (len_all _).1
theorem allDiffFilters (a0 : Int) (l1 l3 l4 : List Int) (a4 a5 : Int) (l6 : List (List Int)) (a1 : Int) (_ : (Lit.int .u8 a0).wf = true) (hw1 : ∀ x ∈ l1, (Lit.int .u8 x).wf = true) (_ : ∀ x ∈ l3, (Lit.int .u8 x).wf = true) (_ : ∀ x ∈ l4, (Lit.int .i8 x).wf = true) (_ : (Lit.int .i16 a4).wf = true) (_ : (Lit.int .u8 a5).wf = true) (_ : (Lit.int .u8 a1).wf = true) :
  ∃ k, jigsawlaw16_AllDiffFilters.f k a0 l1 l3 l4 a4 a5 l6 a1 = some true := by
 refine ⟨1000000, ?_⟩
 obtain ⟨n, p, ms, h1, hn, hp, hl, hs, hm⟩ := case_f a0 a4 a5 l1 l3 l4 l6 (fun x hx => wf_u8 (hw1 x hx)) (k := 1000000) (by decide)
 have hs0 : ∀ c ∈ ms, c.val ≠ 0 := fun c hc => (hs c hc).1
 have hlenL : (ms.map LL).length = n := by simp [hl]
 have h6 : ∀ l ∈ ms.map LL, l.length ≤ 6 := fun l h => by obtain ⟨m, hm', rfl⟩ := List.mem_map.1 h; exact (hs m hm').2
 have hls : Lists (ms.map LL) := ⟨by omega, fun l h => by obtain ⟨m, hm', rfl⟩ := List.mem_map.1 h; exact ⟨Nat.pos_of_ne_zero (ne_all m (hs0 m hm')), (len_all m).1⟩⟩
 obtain ⟨rows, hw, e1⟩ := sol_f p n hn hp.1 (ms.map LL) hls h6 hlenL (k := 1000000) (by decide)
 obtain ⟨r, e2, r1, r2⟩ := filter_f p n h1 hn hp ms hl hs0 (k := 1000000) (by decide)
 have hx := ex_l0 (ms.map LL) rows hls hw.1 (fun x hx => ((hw.2 x).1 hx).1.1) (ms.map LL).length 0 1000000 [] (by omega) (by omega) (by simp)
 have hx' : jigsawref10_Exact.f 1000000 17 p [] [] [] [] 0 [] (ms.map LL) 4000 = some (if rows.length = 0 then ([], false) else (leftL ms n, true)) := by
  unfold jigsawref10_Exact.f
  rw [e1, obs_]
  refine Eq.trans hx ?_
  congr 2
  unfold leftL
  rw [hlenL]
  refine Prod.ext (List.map_congr_left fun i hi => ?_) rfl
  have hi' : i < n := List.mem_range.1 hi
  have h := at_left hw i (by omega)
  rw [hlenL] at h
  exact h
 have hsol := some_sol hw
 rw [hlenL] at hsol
 unfold jigsawlaw16_AllDiffFilters.f
 rw [show jigsawlaw16_kind.f a1 = some 17 from rfl, obs_, hm, obs_]
 show (jigsawref10_Solutions.f 1000000 17 p [] [] [] [] 0 [] (ms.map LL) 4000).bind _ = _
 rw [e1, obs_, if_pos rfl]
 show (jigsawlaw16_doms.f 1000000 (ms.map LL)).bind _ = _
 rw [doms_f ms hs0 (by omega) (by decide), obs_]
 show (alldiff_Filter.f 1000000 17 p [] [] [] [] 0 [] (ms.map D)).bind _ = _
 rw [e2, obs_]
 show (jigsawref10_Exact.f 1000000 17 p [] [] [] [] 0 [] (ms.map LL) 4000).bind _ = _
 rw [hx', obs_, wakes_true (by decide), obs_, if_pos rfl]
 by_cases c : rows.length = 0
 ·
  rw [if_pos c, r2 (hsol.1 c)]
  dsimp only
  rw [if_pos (show (false == false) = true by decide), lists_f [] [] ⟨rfl, fun i hi => absurd hi (Nat.not_lt_zero _)⟩ (by decide) (by decide), obs_, same_f [] (by decide) (fun i hi => absurd hi (Nat.not_lt_zero _)) (by decide), obs_]
 ·
  rw [if_neg c, r1 (Classical.byContradiction fun h => c (hsol.2 h))]
  dsimp only
  rw [if_pos (show (true == true) = true by decide), lists_f _ _ (leftL_listed ms n hl) (by simp; omega) (by decide), obs_, same_f _ (by rw [leftL_len]; omega) (leftL_short ms n hl) (by decide), obs_]
end Go.Proofs.YtckfbfdnlpnllaaGreatDoor.Pure
