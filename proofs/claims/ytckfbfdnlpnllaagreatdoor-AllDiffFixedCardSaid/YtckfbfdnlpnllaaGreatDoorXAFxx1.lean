-- by xprint.py, a program of this session, over the kit's print
import Derived.Test.YtckfbfdnlpnllaaGreatDoorXAFxx0
import Derived.Test.YtckfbfdnlpnllaaGreatDoorSq
namespace Go.Proofs.YtckfbfdnlpnllaaGreatDoor.XAllDiffFixed
open Go.RowKit Go.Proofs.YtckfbfdnlpnllaaGreatDoor.Sq Go.Proofs.YtckfbfdnlpnllaaGreatDoorW.PrintWords Go.Proofs.YtckfbfdnlpnllaaGreatDoorW.PrintLast Go.Proofs.YtckfbfdnlpnllaaGreatDoorW.PrintMore
attribute [local go_sem] max2_int min2_int max_two min_two max_three min_three max_four min_four   -- for this text's walks alone
set_option linter.unusedVariables false
set_option linter.unusedSimpArgs false

theorem fold_step {op : Int → Int → Int} {l : List Int} {z : Int} {k : Nat} (h : k < l.length) : (l.take (k + 1)).foldl op z = op ((l.take k).foldl op z) (rd l k) := by
 rw [List.take_succ_eq_append_getElem h, List.foldl_append]
 have e : rd l k = l[k] := by unfold rd; rw [Int.toNat_natCast, List.getD_eq_getElem?_getD, List.getElem?_eq_getElem h]; rfl
 rw [e]; rfl
theorem mx_self (a : Int) : mx a a = a := by unfold mx; split <;> rfl
theorem mn_self (a : Int) : mn a a = a := by unfold mn; split <;> rfl

def IdxPost (l0 : List Int) (p : Int → Bool) (w : World) (e : Ending) (w' : World) : Prop := ∃ i : Int, e = .returned (.int .i64 i) ∧ (0 ≤ i ↔ l0.any p = true) ∧ Drawn0 w w'
/-- slices.IndexFunc at numbers and whatever function that captures nothing and makes nothing. -/
theorem indexInt (g : Nat) (lb : Array Value) (p : Int → Bool) (eg : ∀ args w, (callFunc g args).run Tryz.prog w = .ok (.enter g args) w)
  (A0 : Option Addr) (c0 : Nat) (l0 : List Int) (w : World)
  (hp : ∀ v m, Calls Tryz.prog g (#[.int .i64 v] ++ lb) (w.drewN m) fun e w' => e = .returned (.bool (p v)) ∧ Drawn0 (w.drewN m) w') (hr0 : Kd.C (Kd.int .i64) w A0 l0.length l0) :
  Calls Tryz.prog 83 #[.slice A0 l0.length c0, .func (.func g) #[] lb] w (IdxPost l0 p w) := by
 have hbig : l0.length ≤ 9223372036854775807 := hr0.2.1
 have HR := Aside0.mk hr0
 have HP := Aside0.mk hp
 clear hr0 hp
 go_enter Tryz.func83, Tryz.ntmps83
 go_wp2
 go_loopg [8] l0.length (fun gg s8 wr => ∃ kk : Nat, kk ≤ l0.length ∧ l0.length - kk ≤ gg ∧ s8 = .int .i64 kk ∧ Aside0 (Drawn0 w wr) ∧ Aside0 (∀ j, j < kk → p (rd l0 (j : Nat)) = false))
 case atStart => exact ⟨0, Nat.zero_le _, by omega, rfl, ⟨Drawn0.refl _⟩, ⟨fun j hj => absurd hj (Nat.not_lt_zero _)⟩⟩
 obtain ⟨kk, hkk, hg, rfl, BW, AF⟩ := hrel
 obtain ⟨⟨m, rfl⟩⟩ := BW
 by_cases hlt : kk < l0.length
 rotate_left
 ·
  have hltz : ¬ (kk : Int) < (l0.length : Int) := by omega
  have : kk = l0.length := by omega
  subst this
  go_wp2
  go_ret
  refine ⟨-1, rfl, ⟨fun h => absurd h (by decide), fun h => ?_⟩, ⟨_, rfl⟩⟩
  rw [List.any_eq_true] at h
  obtain ⟨x, hx, hp⟩ := h
  obtain ⟨j, hj, rfl⟩ := List.getElem_of_mem hx
  have := AF.out j hj
  unfold rd at this
  rw [Int.toNat_natCast, List.getD_eq_getElem?_getD, List.getElem?_eq_getElem hj] at this
  simp only [Option.getD_some] at this
  rw [this] at hp; cases hp
 have hltz : (kk : Int) < (l0.length : Int) := by omega
 obtain ⟨ad, rfl, hcell⟩ := Kd.at_int HR.out (kk : Int) (by omega) hltz
 rw [Int.toNat_natCast] at hcell
 have hcell' : (w.drewN m).cell? (ad.add kk) = some (.int .i64 (rd l0 kk)) := by rw [World.cell?_drewN]; exact hcell
 clear hcell
 have hcall := HP.out (rd l0 kk) m
 cases hq : p (rd l0 kk) with
 | true =>
  rw [hq] at hcall
  have HQ := Aside0.mk hq
  have HC := Aside0.mk hcall
  clear hq hcall
  go_wp2_with (go_at_fn g; refine HC.out.mono ?_; rintro e w' ⟨rfl, ⟨nd, rfl⟩⟩)
  go_ret
  refine ⟨kk, rfl, ⟨fun _ => ?_, fun _ => by omega⟩, ⟨_, rfl⟩⟩
  rw [List.any_eq_true]
  exact ⟨rd l0 kk, by unfold rd; rw [Int.toNat_natCast, List.getD_eq_getElem?_getD, List.getElem?_eq_getElem hlt]; exact List.getElem_mem hlt, HQ.out⟩
 | false =>
  rw [hq] at hcall
  have HQ := Aside0.mk hq
  have HC := Aside0.mk hcall
  clear hq hcall
  go_wp2_with (go_at_fn g; refine HC.out.mono ?_; rintro e w' ⟨rfl, ⟨nd, rfl⟩⟩)
  go_roundg (l0.length - (kk + 1))
  case measure => omega
  refine ⟨kk + 1, by omega, by omega, by go_num, ⟨⟨_, rfl⟩⟩, ⟨fun j hj => ?_⟩⟩
  by_cases e : j = kk
  · subst e; exact HQ.out
  exact AF.out j (by omega)
/-- slices.ContainsFunc at numbers and whatever function that captures nothing and makes nothing. -/
theorem containsInt (g : Nat) (lb : Array Value) (p : Int → Bool) (eg : ∀ args w, (callFunc g args).run Tryz.prog w = .ok (.enter g args) w)
  (A0 : Option Addr) (c0 : Nat) (l0 : List Int) (w : World)
  (hp : ∀ v m, Calls Tryz.prog g (#[.int .i64 v] ++ lb) (w.drewN m) fun e w' => e = .returned (.bool (p v)) ∧ Drawn0 (w.drewN m) w') (hr0 : Kd.C (Kd.int .i64) w A0 l0.length l0) (hc0 : l0.length ≤ c0) :
  Calls Tryz.prog 60 #[.slice A0 l0.length c0, .func (.func g) #[] lb] w fun e w' => e = .returned (.bool (l0.any p)) ∧ Drawn0 w w' := by
 have HC := Aside0.mk (indexInt g lb p eg A0 c0 l0 w hp hr0)
 clear hr0
 go_enter Tryz.func60, Tryz.ntmps60
 go_wp2_with (go_at_call 83; refine HC.out.mono ?_; rintro e w' ⟨i, rfl, hi, hd⟩; have HI := Aside0.mk hi; clear hi)
 go_ret
 refine ⟨?_, hd⟩
 have := HI.out
 by_cases h : 0 ≤ i
 · rw [this.mp h]; simp [h]
 have : l0.any p = false := by rw [Bool.eq_false_iff]; exact fun e => h (this.mpr e)
 rw [this]; simp [h]

/-! ### jigsawlaw16_kind: function 8 -/
def jigsawlaw16_kind.f (_a0 : Int) : Option Int := some 17
theorem jigsawlaw16_kind.calls (a : Int) (r : Int) (w : World) (h : jigsawlaw16_kind.f a = some r) :
  Calls Tryz.prog 8 #[.int .u8 a] w fun e w' => e = .returned (.int .i64 r) ∧ Drawn0 w w' := by
 unfold jigsawlaw16_kind.f at h
 obtain rfl := si_ h
 clear h
 go_enter Tryz.func8, Tryz.ntmps8
 go_wp2
 go_ret
 exact ⟨by first | rfl | (simp; done) | (simp [*]; done), by repeat (first | exact d0_ _ | apply Drawn0.step)⟩

/-! ### bits_TrailingZeros64: function 47 -/
def tabL : List Int := [0, 1, 56, 2, 57, 49, 28, 3, 61, 58, 42, 50, 38, 29, 17, 4, 62, 47, 59, 36, 45, 43, 51, 22, 53, 39, 33, 30, 24, 18, 12, 5, 63, 55, 48, 27, 60, 41, 37, 16, 46, 35, 44, 21, 52, 32, 23, 11, 54, 26, 40, 15, 34, 20, 31, 10, 25, 14, 19, 9, 13, 8, 7, 6]
def bits_TrailingZeros64.f (a : Int) : Option Int := if 0 ≤ a ∧ a < 18446744073709551616 then some (Lib.ctz 64 a.toNat : Nat) else none
theorem tz64_key (x a : Nat) (hx : x < 18446744073709551616) (hx0 : x ≠ 0) (hlow : x &&& (18446744073709551616 - x) = a) :
  IntKind.u64.wrap (Go.bits .and .u64 (x : Int) (IntKind.u64.wrap (-(x : Int))) * 285870213051353865) / 288230376151711744 = ((a * 285870213051353865 % 18446744073709551616 / 288230376151711744 : Nat) : Int) := by
 have e1 : IntKind.u64.wrap (-(x : Int)) = ((18446744073709551616 - x : Nat) : Int) := by rw [IntKind.wrap_u64]; omega
 rw [e1, bits_and_u64_nat x _ hx (by omega), hlow, IntKind.wrap_u64]
 omega
set_option maxHeartbeats 1000000 in
theorem tz64_core (x k idx : Nat) (w : World) (hx0 : ((x : Int) == 0) = false)
  (key : IntKind.u64.wrap (Go.bits .and .u64 (x : Int) (IntKind.u64.wrap (-(x : Int))) * 285870213051353865) / 288230376151711744 = (idx : Int))
  (hi : idx < 64) (hk : k < 64) (hcell : w.cell? ⟨0, idx, none⟩ = some (.int .u8 k)) :
  Calls Tryz.prog 47 #[.int .u64 x] w fun e w' => e = .returned (.int .i64 k) ∧ w = w' := by
 go_enter Tryz.func47, Tryz.ntmps47
 go_wp2_with (simp only [key])
 go_ret
 exact ⟨rfl, rfl⟩
theorem tz64_zero (w : World) : Calls Tryz.prog 47 #[.int .u64 0] w fun e w' => e = .returned (.int .i64 64) ∧ w = w' := by
 go_enter Tryz.func47, Tryz.ntmps47
 go_wp2
 go_ret
 exact ⟨rfl, rfl⟩
theorem tabL_at (i : Nat) (h : i < 64) : tabL.getD i 0 = ((Lib.deBruijn64tab.getD i 0 : Nat) : Int) := by
 revert i; decide +kernel
theorem bits_TrailingZeros64.calls (b : Int) (r : Int) (w : World) (hrtab : Kd.C (Kd.int .u8) w (some ⟨0, 0, none⟩) tabL.length tabL) (h : bits_TrailingZeros64.f b = some r) :
  Calls Tryz.prog 47 #[.int .u64 b] w fun e w' => e = .returned (.int .i64 r) ∧ Drawn0 w w' := by
 unfold bits_TrailingZeros64.f at h
 by_cases hb : 0 ≤ b ∧ b < 18446744073709551616
 rotate_left
 ·
  rw [if_neg hb] at h
  cases h
 rw [if_pos hb] at h
 obtain rfl := Option.some.inj h
 obtain ⟨x, rfl⟩ := Int.eq_ofNat_of_zero_le hb.1
 rw [Int.toNat_natCast]
 by_cases a : x = 0
 ·
  subst a
  exact (tz64_zero w).mono (fun e w' ⟨he, hw⟩ => ⟨he, by subst hw; exact Drawn0.refl _⟩)
 have hx : x < 18446744073709551616 := by omega
 obtain ⟨hlow, hk⟩ := Lib.lowest_bit 64 x a hx
 obtain ⟨hi, htab⟩ := Lib.deBruijn64_at _ hk
 obtain ⟨ad, had, hcell⟩ := Kd.at_int hrtab ((2 ^ Lib.ctz 64 x * 285870213051353865 % 18446744073709551616 / 288230376151711744 : Nat) : Int) (by omega) (by show _ < ((64 : Nat) : Int); omega)
 obtain rfl := Option.some.inj had
 rw [Int.toNat_natCast] at hcell
 have c : rd tabL ((2 ^ Lib.ctz 64 x * 285870213051353865 % 18446744073709551616 / 288230376151711744 : Nat) : Int) = ((Lib.ctz 64 x : Nat) : Int) := by
  unfold rd
  rw [Int.toNat_natCast, tabL_at _ hi, htab]
 rw [c, add_plain] at hcell
 exact (tz64_core x _ _ w (by simp; omega) (tz64_key x _ hx a hlow) hi hk hcell).mono (fun e w' ⟨he, hw⟩ => ⟨he, by subst hw; exact Drawn0.refl _⟩)

/-! ### dom_Dom_List: function 21 -/
mutual
def dom_Dom_List.l0 : Nat → List Int → List Int → Int → Int → Int → List Int → Int → Int → Int → Option (List Int)
 | 0, _, _, _, _, _, _, _, _, _ => none
 | k + 1, l, g, m, a, b, c, d, e, f => if a < m then (if 0 ≤ a then (if a < (g.length : Int) then (dom_Dom_List.l1 k l a (rd g a) g m a b c d e f) else (none)) else (none)) else (some l)
def dom_Dom_List.l1 : Nat → List Int → Int → Int → List Int → Int → Int → Int → List Int → Int → Int → Int → Option (List Int)
 | 0, _, _, _, _, _, _, _, _, _, _, _ => none
 | k + 1, l, n, g, o, p, q, a, b, c, d, e => if g = 0 then (dom_Dom_List.l0 k l o p (wrap64 (q + 1)) a b c d e) else ((bits_TrailingZeros64.f g).bind fun m => (if l.length < 17592186044416 then (dom_Dom_List.l1 k (l ++ [wrap64 ((wrap64 (a + (wrap64 (64 * n)))) + m)]) n (Go.bits .and .u64 g (IntKind.u64.wrap (g - 1))) o p q a b c d e) else (none)))
end
def dom_Dom_List.f (k : Nat) (b : Int) (a : List Int) (c : Int) (d : Int) (e : Int) : Option (List Int) := dom_Dom_List.l0 k ([] : List Int) a (a.length : Int) 0 b a c d e
theorem dom_Dom_List.mono_l : ∀ k, (∀ a b c d e f g l m, LeO (dom_Dom_List.l0 k a b c d e f g l m) (dom_Dom_List.l0 (k + 1) a b c d e f g l m)) ∧ (∀ a b c d e f g l m o n, LeO (dom_Dom_List.l1 k a b c d e f g l m o n) (dom_Dom_List.l1 (k + 1) a b c d e f g l m o n))
 | 0 => by refine ⟨?_, ?_⟩ <;> (intros; exact LeO.none _)
 | k + 1 => by
  obtain ⟨ih0, ih1⟩ := dom_Dom_List.mono_l k
  refine ⟨?_, ?_⟩ <;> intros
  all_goals first | unfold dom_Dom_List.l0 | unfold dom_Dom_List.l1
  all_goals exact leo_
theorem dom_Dom_List.mono : ∀ a b c d e k, LeO (dom_Dom_List.f k a b c d e) (dom_Dom_List.f (k + 1) a b c d e) := by
 intro a b c d e k
 obtain ⟨ih0, ih1⟩ := dom_Dom_List.mono_l k
 unfold dom_Dom_List.f
 exact leo_
def dom_Dom_List.T7 : Bool × List (List Nat × List Nat) := (true, [([], []), ([], []), ([1], [1]), ([], []), ([3], [3]), ([2, 4], [2, 4]), ([], []), ([6], [6]), ([5, 7], [5, 7]), ([8], [8]), ([0, 9, 7], [0, 9]), ([10, 10, 0, 1, 2, 3, 4, 5, 6, 7, 8, 9, 10], [0, 10])])
def dom_Dom_List.B7 : List Nat := [0, 0, 2, 0, 8, 30, 0, 64, 254, 510, 1023, 2047]
theorem dom_Dom_List.tab7 : rtab .any (opsOf Tryz.f21 7) = dom_Dom_List.T7 := by kernel_rfl
theorem dom_Dom_List.bits7 : waitsOk dom_Dom_List.T7.2 dom_Dom_List.B7 = true := by kernel_rfl
set_option maxHeartbeats 8000000 in
set_option maxRecDepth 100000 in
theorem dom_Dom_List.calls (k : Nat) (g : Int) (x : Option Addr) (c0_1 : Nat) (b : List Int) (m : Int) (o : Int) (p : Int) (r : List Int) (w : World) (B : Kd.C (Kd.int .u64) w x b.length b) (E : b.length ≤ c0_1) (hrtab : Kd.C (Kd.int .u8) w (some ⟨0, 0, none⟩) tabL.length tabL) (h : dom_Dom_List.f k g b m o p = some r) :
  Calls Tryz.prog 21 #[.agg #[.int .i64 g, .slice x b.length c0_1, .int .i64 m, .int .i64 o, .int .i64 p]] w fun e w' => ∃ U : Value, e = .returned (U) ∧ Kd.R (Kd.int .i64) 3 w' w.heap.size (fun _ => True) U r ∧ Below w.heap.size w w' := by
 have hu57 := Tryz.underlying57
 have M := a_ B
 have X := a_ E
 clear B E
 have HRtab := a_ hrtab
 clear hrtab
 have HB := a_ (Below.refl w.heap.size w)
 unfold dom_Dom_List.f at h
 have H := h
 clear h
 have H' := a_ H
 clear H
 go_enter Tryz.func21, Tryz.ntmps21
 go_wp2_with (first | ((with_reducible refine gate_dst (N := 1) rfl ?_); refine bxe_ (N := 1) (cs := #[.int .i64 g, .slice x b.length c0_1, .int .i64 m, .int .i64 o, .int .i64 p]) (t := 57) ?_; intro l hg w2 hbox hb; have a := a_ (hbox); have O := a_ (by rw [hg]; exact (bz_ bel_) : w.heap.size ≤ l); have Y := O; replace HB := hq_ hb; clear hb hbox hg; obtain ⟨_, _, _, _, _, _, _, _, _, _⟩ := cel5_ a.out))
 go_loopg [3, 9] k (fun kq V Z w' => ∃ (y : List Int) (c : Int), Z = .int .i64 c ∧ Aside0 (dom_Dom_List.l0 kq y b (b.length : Int) c g b m o p = some r) ∧ Aside0 (kq ≤ k) ∧ Aside0 (Kd.R (Kd.int .i64) 3 w' w.heap.size (fun _ => True) V y) ∧ Aside0 (w'.heap[l]? = some (.cells #[.int .i64 g, (.slice x b.length c0_1), .int .i64 m, .int .i64 o, .int .i64 p] 57 (0, 0))) ∧ Aside0 (Below w.heap.size w w'))
 case atStart => exact ⟨(([] : List Int)), (0), eq_, H', ⟨lr_ _⟩, ⟨nil_⟩, ⟨bk_ a.out⟩, ⟨bel_⟩⟩
 clear H'
 try clear c2
 try clear p2
 obtain ⟨y, c, rfl, HA, F, HO_3, a, HB⟩ := hrel
 cases gk with
 | zero => exact absurd HA.out (by simp [dom_Dom_List.l0])
 | succ k1 =>
  have H := HA.out
  clear HA
  simp only [dom_Dom_List.l0] at H
  by_cases c4 : c < (b.length : Int)
  rotate_left
  ·
   rw [ig_ c4] at H
   have c4b0 : decide (c < (b.length : Int)) = false := df_ c4
   clear c4
   obtain rfl := si_ H
   go_wp2
   go_ret
   exact ⟨_, er_, vR_ HO_3.out, bel_⟩
  rw [ip_ c4] at H
  have c4b0 : decide (c < (b.length : Int)) = true := dt_ c4
  clear c4
  by_cases c5 : 0 ≤ c
  rotate_left
  ·
   rw [ig_ c5] at H
   exact ab_ H
  rw [ip_ c5] at H
  have c5b0 : decide (0 ≤ c) = true := dt_ c5
  clear c5
  by_cases c6 : c < (b.length : Int)
  rotate_left
  ·
   rw [ig_ c6] at H
   exact ab_ H
  rw [ip_ c6] at H
  have c6b0 : decide (c < (b.length : Int)) = true := dt_ c6
  clear c6
  have H' := a_ H
  clear H
  have p102 : 0 ≤ (c : Int) := dq_
  have z : c < (b.length : Int) := dq_
  obtain ⟨G, W, q⟩ := ai_ M.out c p102 z
  cases W
  replace q := hx_ HB q
  replace p102 := et_ p102
  replace z := et_ z
  go_wp2
  go_loopg [3, 5] k1 (fun kq V v5 w' => ∃ (s : List Int) (d : Int), v5 = .int .u64 d ∧ Aside0 (dom_Dom_List.l1 kq s c d b (b.length : Int) c g b m o p = some r) ∧ Aside0 (kq ≤ k1) ∧ Aside0 (Kd.R (Kd.int .i64) 3 w' w.heap.size (fun _ => True) V s) ∧ Aside0 (w'.heap[l]? = some (.cells #[.int .i64 g, (.slice (some G) b.length c0_1), .int .i64 m, .int .i64 o, .int .i64 p] 57 (0, 0))) ∧ Aside0 (Below w.heap.size w w'))
  case atStart => exact ⟨(y), (rd b c), eq_, H', ⟨lr_ _⟩, ⟨vR_ HO_3.out⟩, ⟨bk_ a.out⟩, ⟨bel_⟩⟩
  clear H'
  try clear p1
  try clear q1
  try clear ad
  try clear c2
  try clear p2
  try clear c4
  try clear c4b0
  try clear c5
  try clear c5b0
  try clear c6
  try clear c6b0
  try clear q
  try clear p102
  try clear p2
  try clear z
  obtain ⟨s, d, rfl, HA, I, HO_3, a, HB⟩ := hrel
  cases gk with
  | zero => exact absurd HA.out (by simp [dom_Dom_List.l1])
  | succ k2 =>
   have H := HA.out
   clear HA
   simp only [dom_Dom_List.l1] at H
   by_cases c7 : d = 0
   ·
    rw [ip_ c7] at H
    have c7b0 : (d == 0) = true := beq_iff_eq.mpr c7
    have c7b1 : (d != 0) = false := bn_.mpr c7
    clear c7
    have H' := a_ H
    clear H
    go_wp2
    go_roundg k2
    case measure => have := F.out; have := I.out; omega
    exact ⟨(s), (wrap64 (c + 1)), eq_, H', ⟨by have := F.out; have := I.out; omega⟩, ⟨vR_ HO_3.out⟩, ⟨bk_ a.out⟩, ⟨bel_⟩⟩
   rw [ig_ c7] at H
   have c7b0 : (d == 0) = false := be_.mpr c7
   have c7b1 : (d != 0) = true := ni_.mpr c7
   replace H := bo_ H
   obtain ⟨A, A8, H⟩ := H
   try dsimp only at H
   by_cases c9 : s.length < 17592186044416
   rotate_left
   ·
    rw [ig_ c9] at H
    exact ab_ H
   rw [ip_ c9] at H
   have LMc9 := a_ c9
   clear c9
   obtain ⟨J, u⟩ : ∃ y_ : List Int, y_ = (s ++ [wrap64 ((wrap64 (g + (wrap64 (64 * c)))) + A)]) := ⟨_, rfl⟩
   replace H : (dom_Dom_List.l1 k2 J c (Go.bits .and .u64 d (IntKind.u64.wrap (d - 1))) b (b.length : Int) c g b m o p) = some r := h2_ H u
   have P := a_ u
   clear u
   have H' := a_ H
   clear H
   try go_wp2
   replace HO_3 := a_ (Kd.R_drew HO_3.out)
   replace a := a_ (blk_drew a.out)
   replace HB := a_ (below_drew1 HB.out)
   refine start_ (n := 12) (S := fun w' => w'.cell? ⟨l, 0, none⟩ = some (.int .i64 g) ∧ w'.cell? ⟨l, 1, none⟩ = some (.slice (some G) b.length c0_1) ∧ w'.cell? ⟨l, 2, none⟩ = some (.int .i64 m) ∧ w'.cell? ⟨l, 3, none⟩ = some (.int .i64 o) ∧ w'.cell? ⟨l, 4, none⟩ = some (.int .i64 p)) (ds := []) #[false, false, false, false, false, false, false, false, false, false, false, false] kr_ rfl rfl (ca5_ a.out) (fun hHeld => ?_); refine with_tabW dom_Dom_List.tab7 dom_Dom_List.bits7 (fun HT_ HW_ => ?_)
   generalize wr.drew = w10 at HO_3 a HB hHeld ⊢
   refine pn_ 0 20 ao_ ?_
   refine pn_ 1 21 ao_ ?_
   refine pn_ 3 23 ao_ ?_
   refine pn_ 4 24 ao_ ?_
   refine pn_ 6 26 ao_ ?_
   refine tn_ 2 22 tw_ hHeld ?_
   refine pn_ 5 25 ao_ ?_
   refine onn_ 7 27 #[true, true, true, true, true, true, true, true, false, false, false, false] rfl rfl on_ (by decide) (fun K hK => ?_)
   refine goes_ Tryz.func47 kr_ rfl #[.int .u64 d] (by rfl) rfl rfl ar_ ?_
   with_reducible refine (bits_TrailingZeros64.calls d A _ ?_ A8.out).mono ?_
   exact ca_ ((cb_ HRtab.out HB.out))
   rintro e w' ⟨rfl, ⟨nd, rfl⟩⟩
   refine ⟨_, rfl, ?_⟩
   refine hK.out _ _ (ca5_ a.out) (fun hHeld => ?_)
   clear hK K
   refine nor_ (N := some 27) ?_
   refine pn_ 8 28 ao_ ?_
   refine onn_ 9 29 #[true, true, true, true, true, true, true, true, true, true, false, false] rfl rfl on_ (by decide) (fun K hK => ?_)
   refine value_ (w1 := ?_) (v := ?_) (by rfl) rfl ?_ ?_
   rotate_left 2
   ·
    go_simp
    constructor
    · rfl
    rfl
   refine hK.out _ _ ⟨(blk_cell (blk_alloc a.out _) 0).trans rfl, (blk_cell (blk_alloc a.out _) 1).trans rfl, (blk_cell (blk_alloc a.out _) 2).trans rfl, (blk_cell (blk_alloc a.out _) 3).trans rfl, (blk_cell (blk_alloc a.out _) 4).trans rfl⟩ (fun hHeld => ?_)
   clear hK K
   refine nor_ (N := some 29) ?_
   refine onn_ 10 30 #[true, true, true, true, true, true, true, true, true, true, true, false] rfl rfl on_ (by decide) (fun K hK => ?_)
   refine Kd.R_append_step (Kd.int .i64) (w0 := w) w.heap.size (by rfl) (.tmp 20) (.tmp 29) 30 3 (.int .i64 0) 8 rfl Tryz.underlying30 info3 rfl (by decide) (by omega) u3 s (wrap64 ((wrap64 (g + (wrap64 (64 * c)))) + A)) [.int .i64 (wrap64 ((wrap64 (g + (wrap64 (64 * c)))) + A))] (fun _ => True) (fun _ => False) rfl rfl ?aP (fun _ hk => hk.elim) ?aF ?aO ?aB ?aS ?aL ?_
   (case aP => exact rfl)
   (case aB => exact bel_)
   (case aF => exact (fun _ _ => trivial))
   (case aO => exact (vR_ HO_3.out))
   (case aS => exact (bz_ bel_))
   (case aL => have := LMc9.out; omega)
   intro ac w11 ho hb hg hat
   rw [← P.out] at ho
   replace a := a_ (blk_grown (bk_ a.out) hg (Kd.R_ne HO_3.out a.out (by decide)))
   replace HB := a_ (hb)
   have Q := a_ (ho)
   clear HO_3
   clear ho hb hg hat
   refine hK.out _ _ (ca5_ a.out) (fun hHeld => ?_)
   clear hK K
   refine nor_ (N := some 30) ?_
   refine pn_ 11 3 ao_ ?_
   refine done_ dn_ ?_
   try go_wp2
   go_roundg k2
   case measure => have := F.out; have := I.out; omega
   exact ⟨(J), (Go.bits .and .u64 d (IntKind.u64.wrap (d - 1))), eq_, H', ⟨by have := F.out; have := I.out; omega⟩, ⟨vR_ Q.out⟩, ⟨bk_ a.out⟩, ⟨bel_⟩⟩

-- NOT PRINTED: function 73 (dom_Dom_73)

-- NOT PRINTED: function 55 (dom_Dom_55)

/-! ### dom_Dom_Size: function 27 -/
def dom_Dom_Size.f (b : Int) (c : List Int) (d : Int) (e : Int) (a : Int) : Option (Int) := some a
set_option maxHeartbeats 8000000 in
set_option maxRecDepth 100000 in
theorem dom_Dom_Size.calls (b : Int) (c : Option Addr) (c0_1 : Nat) (a : List Int) (d : Int) (g : Int) (l : Int) (r : Int) (w : World) (n : Kd.C (Kd.int .u64) w c a.length a) (m : a.length ≤ c0_1) (h : dom_Dom_Size.f b a d g l = some r) :
  Calls Tryz.prog 27 #[.agg #[.int .i64 b, .slice c a.length c0_1, .int .i64 d, .int .i64 g, .int .i64 l]] w fun e w' => e = .returned (.int .i64 r) ∧ Below w.heap.size w w' := by
 have hu57 := Tryz.underlying57
 have s := a_ m
 clear n m
 have HB := a_ (Below.refl w.heap.size w)
 unfold dom_Dom_Size.f at h
 have H := h
 clear h
 obtain rfl := si_ H
 go_enter Tryz.func27, Tryz.ntmps27
 go_wp2_with (first | ((with_reducible refine gate_dst (N := 1) rfl ?_); refine bxe_ (N := 1) (cs := #[.int .i64 b, .slice c a.length c0_1, .int .i64 d, .int .i64 g, .int .i64 l]) (t := 57) ?_; intro o hg w2 hbox hb; have p := a_ (hbox); have q := a_ (by rw [hg]; exact (bz_ bel_) : w.heap.size ≤ o); have u := q; replace HB := hq_ hb; clear hb hbox hg; obtain ⟨_, _, _, _, _, _, _, _, _, _⟩ := cel5_ p.out))
 go_ret
 exact ⟨er_, bel_⟩

/-! ### prop_Fits_1: function 56 -/
def prop_Fits_1.f (a : Int) (b : List Int) (c : Int) (d : Int) (e : Int) : Option (Bool) := (dom_Dom_Size.f a b c d e).bind fun g => (some (g == 0))
set_option maxHeartbeats 8000000 in
set_option maxRecDepth 100000 in
theorem prop_Fits_1.calls (b : Int) (l : Option Addr) (c0_1 : Nat) (a : List Int) (c : Int) (d : Int) (g : Int) (r : Bool) (w : World) (m : Kd.C (Kd.int .u64) w l a.length a) (n : a.length ≤ c0_1) (h : prop_Fits_1.f b a c d g = some r) :
  Calls Tryz.prog 56 #[.agg #[.int .i64 b, .slice l a.length c0_1, .int .i64 c, .int .i64 d, .int .i64 g]] w fun e w' => e = .returned (.bool r) ∧ Below w.heap.size w w' := by
 have hu57 := Tryz.underlying57
 have o := a_ m
 have p := a_ n
 clear m n
 have HB := a_ (Below.refl w.heap.size w)
 unfold prop_Fits_1.f at h
 have H := h
 clear h
 replace H := bo_ H
 obtain ⟨v, y, H⟩ := H
 try dsimp only at H
 obtain rfl := si_ H
 go_enter Tryz.func56, Tryz.ntmps56
 go_wp2_with (first | ((with_reducible refine gate_dst (N := 1) rfl ?_); refine bxe_ (N := 1) (cs := #[.int .i64 b, .slice l a.length c0_1, .int .i64 c, .int .i64 d, .int .i64 g]) (t := 57) ?_; intro q hg w3 hbox hb; have s := a_ (hbox); have u := a_ (by rw [hg]; exact (bz_ bel_) : w.heap.size ≤ q); have x := u; replace HB := hq_ hb; clear hb hbox hg; obtain ⟨_, _, _, _, _, _, _, _, _, _⟩ := cel5_ s.out) | ((with_reducible refine gate_callee (f := 27) rfl ?_); refine goesL_ (some 4) rfl rfl Tryz.func27 kr_ rfl #[.agg #[.int .i64 b, .slice l a.length c0_1, .int .i64 c, .int .i64 d, .int .i64 g]] rfl ar_ ?_; (with_reducible refine (dom_Dom_Size.calls b _ _ a c d g v _ ?_ ?_ y.out).mono ?_); exact ca_ ((cb_ o.out HB.out)); exact p.out; rintro e w5 ⟨rfl, hb⟩; refine ⟨_, rfl, ?_⟩; replace HB := hq_ hb; clear hb))
 go_ret
 exact ⟨er_, bel_⟩

-- NOT PRINTED: function 83 (slices_IndexFunc_int_int_83)

-- NOT PRINTED: function 60 (slices_ContainsFunc_int_int_60)

/-! ### model_forms: function 88 -/
def model_forms.f  : Option ((List (S118))) := some (([(⟨(⟨#[108, 105, 110, 95, 101, 113]⟩ : ByteArray), (⟨#[99, 86, 107]⟩ : ByteArray)⟩ : S118), (⟨(⟨#[108, 105, 110, 95, 108, 101]⟩ : ByteArray), (⟨#[99, 86, 107]⟩ : ByteArray)⟩ : S118), (⟨(⟨#[108, 105, 110, 95, 110, 101]⟩ : ByteArray), (⟨#[99, 86, 107]⟩ : ByteArray)⟩ : S118), (⟨(⟨#[108, 105, 110, 95, 114, 101, 105, 102]⟩ : ByteArray), (⟨#[99, 86, 107, 119]⟩ : ByteArray)⟩ : S118), (⟨(⟨#[116, 105, 109, 101, 115]⟩ : ByteArray), (⟨#[118, 118, 118]⟩ : ByteArray)⟩ : S118), (⟨(⟨#[100, 105, 118]⟩ : ByteArray), (⟨#[118, 118, 118]⟩ : ByteArray)⟩ : S118), (⟨(⟨#[109, 111, 100]⟩ : ByteArray), (⟨#[118, 118, 118]⟩ : ByteArray)⟩ : S118), (⟨(⟨#[97, 98, 115]⟩ : ByteArray), (⟨#[118, 118]⟩ : ByteArray)⟩ : S118), (⟨(⟨#[109, 105, 110]⟩ : ByteArray), (⟨#[118, 118, 118]⟩ : ByteArray)⟩ : S118), (⟨(⟨#[109, 97, 120]⟩ : ByteArray), (⟨#[118, 118, 118]⟩ : ByteArray)⟩ : S118), (⟨(⟨#[101, 108, 101, 109, 101, 110, 116]⟩ : ByteArray), (⟨#[118, 99, 118]⟩ : ByteArray)⟩ : S118), (⟨(⟨#[99, 108, 97, 117, 115, 101]⟩ : ByteArray), (⟨#[86, 87]⟩ : ByteArray)⟩ : S118), (⟨(⟨#[101, 113, 95, 114, 101, 105, 102]⟩ : ByteArray), (⟨#[118, 107, 119]⟩ : ByteArray)⟩ : S118), (⟨(⟨#[108, 101, 95, 114, 101, 105, 102]⟩ : ByteArray), (⟨#[118, 107, 119]⟩ : ByteArray)⟩ : S118), (⟨(⟨#[101, 113, 95, 105, 109, 112]⟩ : ByteArray), (⟨#[118, 107, 119]⟩ : ByteArray)⟩ : S118), (⟨(⟨#[108, 101, 95, 105, 109, 112]⟩ : ByteArray), (⟨#[118, 107, 119]⟩ : ByteArray)⟩ : S118), (⟨(⟨#[97, 108, 108, 95, 100, 105, 102, 102, 101, 114, 101, 110, 116]⟩ : ByteArray), (⟨#[86]⟩ : ByteArray)⟩ : S118), (⟨(⟨#[116, 97, 98, 108, 101]⟩ : ByteArray), (⟨#[86, 114]⟩ : ByteArray)⟩ : S118), (⟨(⟨#[99, 117, 109, 117, 108, 97, 116, 105, 118, 101]⟩ : ByteArray), (⟨#[86, 99, 100, 107]⟩ : ByteArray)⟩ : S118), (⟨(⟨#[99, 105, 114, 99, 117, 105, 116]⟩ : ByteArray), (⟨#[86]⟩ : ByteArray)⟩ : S118), (⟨(⟨#[103, 99, 99]⟩ : ByteArray), (⟨#[86, 99, 100, 101]⟩ : ByteArray)⟩ : S118), (⟨(⟨#[108, 101, 120, 95, 108, 101]⟩ : ByteArray), (⟨#[86, 87]⟩ : ByteArray)⟩ : S118), (⟨(⟨#[105, 110, 118, 101, 114, 115, 101]⟩ : ByteArray), (⟨#[86, 87]⟩ : ByteArray)⟩ : S118)] : List (S118)))
set_option maxHeartbeats 8000000 in
set_option maxRecDepth 100000 in
theorem model_forms.calls  (r : List (S118)) (w : World) (h : model_forms.f  = some r) :
  Calls Tryz.prog 88 #[] w fun e w' => ∃ g : Value, e = .returned (g) ∧ Kd.R k118 118 w' w.heap.size (fun _ => True) g r ∧ Below w.heap.size w w' := by
 have hu118 := Tryz.underlying118
 have HB := a_ (Below.refl w.heap.size w)
 unfold model_forms.f at h
 have H := h
 clear h
 obtain ⟨l, a⟩ : ∃ y_ : List (S118), y_ = (([(⟨(⟨#[108, 105, 110, 95, 101, 113]⟩ : ByteArray), (⟨#[99, 86, 107]⟩ : ByteArray)⟩ : S118), (⟨(⟨#[108, 105, 110, 95, 108, 101]⟩ : ByteArray), (⟨#[99, 86, 107]⟩ : ByteArray)⟩ : S118), (⟨(⟨#[108, 105, 110, 95, 110, 101]⟩ : ByteArray), (⟨#[99, 86, 107]⟩ : ByteArray)⟩ : S118), (⟨(⟨#[108, 105, 110, 95, 114, 101, 105, 102]⟩ : ByteArray), (⟨#[99, 86, 107, 119]⟩ : ByteArray)⟩ : S118), (⟨(⟨#[116, 105, 109, 101, 115]⟩ : ByteArray), (⟨#[118, 118, 118]⟩ : ByteArray)⟩ : S118), (⟨(⟨#[100, 105, 118]⟩ : ByteArray), (⟨#[118, 118, 118]⟩ : ByteArray)⟩ : S118), (⟨(⟨#[109, 111, 100]⟩ : ByteArray), (⟨#[118, 118, 118]⟩ : ByteArray)⟩ : S118), (⟨(⟨#[97, 98, 115]⟩ : ByteArray), (⟨#[118, 118]⟩ : ByteArray)⟩ : S118), (⟨(⟨#[109, 105, 110]⟩ : ByteArray), (⟨#[118, 118, 118]⟩ : ByteArray)⟩ : S118), (⟨(⟨#[109, 97, 120]⟩ : ByteArray), (⟨#[118, 118, 118]⟩ : ByteArray)⟩ : S118), (⟨(⟨#[101, 108, 101, 109, 101, 110, 116]⟩ : ByteArray), (⟨#[118, 99, 118]⟩ : ByteArray)⟩ : S118), (⟨(⟨#[99, 108, 97, 117, 115, 101]⟩ : ByteArray), (⟨#[86, 87]⟩ : ByteArray)⟩ : S118), (⟨(⟨#[101, 113, 95, 114, 101, 105, 102]⟩ : ByteArray), (⟨#[118, 107, 119]⟩ : ByteArray)⟩ : S118), (⟨(⟨#[108, 101, 95, 114, 101, 105, 102]⟩ : ByteArray), (⟨#[118, 107, 119]⟩ : ByteArray)⟩ : S118), (⟨(⟨#[101, 113, 95, 105, 109, 112]⟩ : ByteArray), (⟨#[118, 107, 119]⟩ : ByteArray)⟩ : S118), (⟨(⟨#[108, 101, 95, 105, 109, 112]⟩ : ByteArray), (⟨#[118, 107, 119]⟩ : ByteArray)⟩ : S118), (⟨(⟨#[97, 108, 108, 95, 100, 105, 102, 102, 101, 114, 101, 110, 116]⟩ : ByteArray), (⟨#[86]⟩ : ByteArray)⟩ : S118), (⟨(⟨#[116, 97, 98, 108, 101]⟩ : ByteArray), (⟨#[86, 114]⟩ : ByteArray)⟩ : S118), (⟨(⟨#[99, 117, 109, 117, 108, 97, 116, 105, 118, 101]⟩ : ByteArray), (⟨#[86, 99, 100, 107]⟩ : ByteArray)⟩ : S118), (⟨(⟨#[99, 105, 114, 99, 117, 105, 116]⟩ : ByteArray), (⟨#[86]⟩ : ByteArray)⟩ : S118), (⟨(⟨#[103, 99, 99]⟩ : ByteArray), (⟨#[86, 99, 100, 101]⟩ : ByteArray)⟩ : S118), (⟨(⟨#[108, 101, 120, 95, 108, 101]⟩ : ByteArray), (⟨#[86, 87]⟩ : ByteArray)⟩ : S118), (⟨(⟨#[105, 110, 118, 101, 114, 115, 101]⟩ : ByteArray), (⟨#[86, 87]⟩ : ByteArray)⟩ : S118)] : List (S118))) := ⟨_, rfl⟩
 replace H : (some l) = some r := h2_ H a
 have c := a_ a
 clear a
 obtain rfl := si_ H
 go_enter Tryz.func88, Tryz.ntmps88
 go_wp2_with (first | ((with_reducible refine gate_dst (N := 24) rfl ?_); refine Kd.R_lit k118 _ 118 ?hg (N := 24) ?hd (xs := ([(⟨(⟨#[108, 105, 110, 95, 101, 113]⟩ : ByteArray), (⟨#[99, 86, 107]⟩ : ByteArray)⟩ : S118), (⟨(⟨#[108, 105, 110, 95, 108, 101]⟩ : ByteArray), (⟨#[99, 86, 107]⟩ : ByteArray)⟩ : S118), (⟨(⟨#[108, 105, 110, 95, 110, 101]⟩ : ByteArray), (⟨#[99, 86, 107]⟩ : ByteArray)⟩ : S118), (⟨(⟨#[108, 105, 110, 95, 114, 101, 105, 102]⟩ : ByteArray), (⟨#[99, 86, 107, 119]⟩ : ByteArray)⟩ : S118), (⟨(⟨#[116, 105, 109, 101, 115]⟩ : ByteArray), (⟨#[118, 118, 118]⟩ : ByteArray)⟩ : S118), (⟨(⟨#[100, 105, 118]⟩ : ByteArray), (⟨#[118, 118, 118]⟩ : ByteArray)⟩ : S118), (⟨(⟨#[109, 111, 100]⟩ : ByteArray), (⟨#[118, 118, 118]⟩ : ByteArray)⟩ : S118), (⟨(⟨#[97, 98, 115]⟩ : ByteArray), (⟨#[118, 118]⟩ : ByteArray)⟩ : S118), (⟨(⟨#[109, 105, 110]⟩ : ByteArray), (⟨#[118, 118, 118]⟩ : ByteArray)⟩ : S118), (⟨(⟨#[109, 97, 120]⟩ : ByteArray), (⟨#[118, 118, 118]⟩ : ByteArray)⟩ : S118), (⟨(⟨#[101, 108, 101, 109, 101, 110, 116]⟩ : ByteArray), (⟨#[118, 99, 118]⟩ : ByteArray)⟩ : S118), (⟨(⟨#[99, 108, 97, 117, 115, 101]⟩ : ByteArray), (⟨#[86, 87]⟩ : ByteArray)⟩ : S118), (⟨(⟨#[101, 113, 95, 114, 101, 105, 102]⟩ : ByteArray), (⟨#[118, 107, 119]⟩ : ByteArray)⟩ : S118), (⟨(⟨#[108, 101, 95, 114, 101, 105, 102]⟩ : ByteArray), (⟨#[118, 107, 119]⟩ : ByteArray)⟩ : S118), (⟨(⟨#[101, 113, 95, 105, 109, 112]⟩ : ByteArray), (⟨#[118, 107, 119]⟩ : ByteArray)⟩ : S118), (⟨(⟨#[108, 101, 95, 105, 109, 112]⟩ : ByteArray), (⟨#[118, 107, 119]⟩ : ByteArray)⟩ : S118), (⟨(⟨#[97, 108, 108, 95, 100, 105, 102, 102, 101, 114, 101, 110, 116]⟩ : ByteArray), (⟨#[86]⟩ : ByteArray)⟩ : S118), (⟨(⟨#[116, 97, 98, 108, 101]⟩ : ByteArray), (⟨#[86, 114]⟩ : ByteArray)⟩ : S118), (⟨(⟨#[99, 117, 109, 117, 108, 97, 116, 105, 118, 101]⟩ : ByteArray), (⟨#[86, 99, 100, 107]⟩ : ByteArray)⟩ : S118), (⟨(⟨#[99, 105, 114, 99, 117, 105, 116]⟩ : ByteArray), (⟨#[86]⟩ : ByteArray)⟩ : S118), (⟨(⟨#[103, 99, 99]⟩ : ByteArray), (⟨#[86, 99, 100, 101]⟩ : ByteArray)⟩ : S118), (⟨(⟨#[108, 101, 120, 95, 108, 101]⟩ : ByteArray), (⟨#[86, 87]⟩ : ByteArray)⟩ : S118), (⟨(⟨#[105, 110, 118, 101, 114, 115, 101]⟩ : ByteArray), (⟨#[86, 87]⟩ : ByteArray)⟩ : S118)] : List (S118))) (inner := [.string (⟨#[108, 105, 110, 95, 101, 113]⟩ : ByteArray), .string (⟨#[99, 86, 107]⟩ : ByteArray), .string (⟨#[108, 105, 110, 95, 108, 101]⟩ : ByteArray), .string (⟨#[99, 86, 107]⟩ : ByteArray), .string (⟨#[108, 105, 110, 95, 110, 101]⟩ : ByteArray), .string (⟨#[99, 86, 107]⟩ : ByteArray), .string (⟨#[108, 105, 110, 95, 114, 101, 105, 102]⟩ : ByteArray), .string (⟨#[99, 86, 107, 119]⟩ : ByteArray), .string (⟨#[116, 105, 109, 101, 115]⟩ : ByteArray), .string (⟨#[118, 118, 118]⟩ : ByteArray), .string (⟨#[100, 105, 118]⟩ : ByteArray), .string (⟨#[118, 118, 118]⟩ : ByteArray), .string (⟨#[109, 111, 100]⟩ : ByteArray), .string (⟨#[118, 118, 118]⟩ : ByteArray), .string (⟨#[97, 98, 115]⟩ : ByteArray), .string (⟨#[118, 118]⟩ : ByteArray), .string (⟨#[109, 105, 110]⟩ : ByteArray), .string (⟨#[118, 118, 118]⟩ : ByteArray), .string (⟨#[109, 97, 120]⟩ : ByteArray), .string (⟨#[118, 118, 118]⟩ : ByteArray), .string (⟨#[101, 108, 101, 109, 101, 110, 116]⟩ : ByteArray), .string (⟨#[118, 99, 118]⟩ : ByteArray), .string (⟨#[99, 108, 97, 117, 115, 101]⟩ : ByteArray), .string (⟨#[86, 87]⟩ : ByteArray), .string (⟨#[101, 113, 95, 114, 101, 105, 102]⟩ : ByteArray), .string (⟨#[118, 107, 119]⟩ : ByteArray), .string (⟨#[108, 101, 95, 114, 101, 105, 102]⟩ : ByteArray), .string (⟨#[118, 107, 119]⟩ : ByteArray), .string (⟨#[101, 113, 95, 105, 109, 112]⟩ : ByteArray), .string (⟨#[118, 107, 119]⟩ : ByteArray), .string (⟨#[108, 101, 95, 105, 109, 112]⟩ : ByteArray), .string (⟨#[118, 107, 119]⟩ : ByteArray), .string (⟨#[97, 108, 108, 95, 100, 105, 102, 102, 101, 114, 101, 110, 116]⟩ : ByteArray), .string (⟨#[86]⟩ : ByteArray), .string (⟨#[116, 97, 98, 108, 101]⟩ : ByteArray), .string (⟨#[86, 114]⟩ : ByteArray), .string (⟨#[99, 117, 109, 117, 108, 97, 116, 105, 118, 101]⟩ : ByteArray), .string (⟨#[86, 99, 100, 107]⟩ : ByteArray), .string (⟨#[99, 105, 114, 99, 117, 105, 116]⟩ : ByteArray), .string (⟨#[86]⟩ : ByteArray), .string (⟨#[103, 99, 99]⟩ : ByteArray), .string (⟨#[86, 99, 100, 101]⟩ : ByteArray), .string (⟨#[108, 101, 120, 95, 108, 101]⟩ : ByteArray), .string (⟨#[86, 87]⟩ : ByteArray), .string (⟨#[105, 110, 118, 101, 114, 115, 101]⟩ : ByteArray), .string (⟨#[86, 87]⟩ : ByteArray)]) (ok := fun _ => True) (okp := fun _ => True) ?hr ?hp (fun _ hk => hk) trivial (Below.refl _ _) (lr_ _) (by simp) ?_; (case hd => rfl); (case hg => rfl); (case hr => first | (go_simp; done) | (go_simp; rfl)); (case hp => exact (Reps.c2 (show Kd.M k118 _ _ _ (⟨(⟨#[108, 105, 110, 95, 101, 113]⟩ : ByteArray), (⟨#[99, 86, 107]⟩ : ByteArray)⟩ : S118) [.string (⟨#[108, 105, 110, 95, 101, 113]⟩ : ByteArray), .string (⟨#[99, 86, 107]⟩ : ByteArray)] from (k118_mkM _ _ _ (⟨(⟨#[108, 105, 110, 95, 101, 113]⟩ : ByteArray), (⟨#[99, 86, 107]⟩ : ByteArray)⟩ : S118) )) (Reps.c2 (show Kd.M k118 _ _ _ (⟨(⟨#[108, 105, 110, 95, 108, 101]⟩ : ByteArray), (⟨#[99, 86, 107]⟩ : ByteArray)⟩ : S118) [.string (⟨#[108, 105, 110, 95, 108, 101]⟩ : ByteArray), .string (⟨#[99, 86, 107]⟩ : ByteArray)] from (k118_mkM _ _ _ (⟨(⟨#[108, 105, 110, 95, 108, 101]⟩ : ByteArray), (⟨#[99, 86, 107]⟩ : ByteArray)⟩ : S118) )) (Reps.c2 (show Kd.M k118 _ _ _ (⟨(⟨#[108, 105, 110, 95, 110, 101]⟩ : ByteArray), (⟨#[99, 86, 107]⟩ : ByteArray)⟩ : S118) [.string (⟨#[108, 105, 110, 95, 110, 101]⟩ : ByteArray), .string (⟨#[99, 86, 107]⟩ : ByteArray)] from (k118_mkM _ _ _ (⟨(⟨#[108, 105, 110, 95, 110, 101]⟩ : ByteArray), (⟨#[99, 86, 107]⟩ : ByteArray)⟩ : S118) )) (Reps.c2 (show Kd.M k118 _ _ _ (⟨(⟨#[108, 105, 110, 95, 114, 101, 105, 102]⟩ : ByteArray), (⟨#[99, 86, 107, 119]⟩ : ByteArray)⟩ : S118) [.string (⟨#[108, 105, 110, 95, 114, 101, 105, 102]⟩ : ByteArray), .string (⟨#[99, 86, 107, 119]⟩ : ByteArray)] from (k118_mkM _ _ _ (⟨(⟨#[108, 105, 110, 95, 114, 101, 105, 102]⟩ : ByteArray), (⟨#[99, 86, 107, 119]⟩ : ByteArray)⟩ : S118) )) (Reps.c2 (show Kd.M k118 _ _ _ (⟨(⟨#[116, 105, 109, 101, 115]⟩ : ByteArray), (⟨#[118, 118, 118]⟩ : ByteArray)⟩ : S118) [.string (⟨#[116, 105, 109, 101, 115]⟩ : ByteArray), .string (⟨#[118, 118, 118]⟩ : ByteArray)] from (k118_mkM _ _ _ (⟨(⟨#[116, 105, 109, 101, 115]⟩ : ByteArray), (⟨#[118, 118, 118]⟩ : ByteArray)⟩ : S118) )) (Reps.c2 (show Kd.M k118 _ _ _ (⟨(⟨#[100, 105, 118]⟩ : ByteArray), (⟨#[118, 118, 118]⟩ : ByteArray)⟩ : S118) [.string (⟨#[100, 105, 118]⟩ : ByteArray), .string (⟨#[118, 118, 118]⟩ : ByteArray)] from (k118_mkM _ _ _ (⟨(⟨#[100, 105, 118]⟩ : ByteArray), (⟨#[118, 118, 118]⟩ : ByteArray)⟩ : S118) )) (Reps.c2 (show Kd.M k118 _ _ _ (⟨(⟨#[109, 111, 100]⟩ : ByteArray), (⟨#[118, 118, 118]⟩ : ByteArray)⟩ : S118) [.string (⟨#[109, 111, 100]⟩ : ByteArray), .string (⟨#[118, 118, 118]⟩ : ByteArray)] from (k118_mkM _ _ _ (⟨(⟨#[109, 111, 100]⟩ : ByteArray), (⟨#[118, 118, 118]⟩ : ByteArray)⟩ : S118) )) (Reps.c2 (show Kd.M k118 _ _ _ (⟨(⟨#[97, 98, 115]⟩ : ByteArray), (⟨#[118, 118]⟩ : ByteArray)⟩ : S118) [.string (⟨#[97, 98, 115]⟩ : ByteArray), .string (⟨#[118, 118]⟩ : ByteArray)] from (k118_mkM _ _ _ (⟨(⟨#[97, 98, 115]⟩ : ByteArray), (⟨#[118, 118]⟩ : ByteArray)⟩ : S118) )) (Reps.c2 (show Kd.M k118 _ _ _ (⟨(⟨#[109, 105, 110]⟩ : ByteArray), (⟨#[118, 118, 118]⟩ : ByteArray)⟩ : S118) [.string (⟨#[109, 105, 110]⟩ : ByteArray), .string (⟨#[118, 118, 118]⟩ : ByteArray)] from (k118_mkM _ _ _ (⟨(⟨#[109, 105, 110]⟩ : ByteArray), (⟨#[118, 118, 118]⟩ : ByteArray)⟩ : S118) )) (Reps.c2 (show Kd.M k118 _ _ _ (⟨(⟨#[109, 97, 120]⟩ : ByteArray), (⟨#[118, 118, 118]⟩ : ByteArray)⟩ : S118) [.string (⟨#[109, 97, 120]⟩ : ByteArray), .string (⟨#[118, 118, 118]⟩ : ByteArray)] from (k118_mkM _ _ _ (⟨(⟨#[109, 97, 120]⟩ : ByteArray), (⟨#[118, 118, 118]⟩ : ByteArray)⟩ : S118) )) (Reps.c2 (show Kd.M k118 _ _ _ (⟨(⟨#[101, 108, 101, 109, 101, 110, 116]⟩ : ByteArray), (⟨#[118, 99, 118]⟩ : ByteArray)⟩ : S118) [.string (⟨#[101, 108, 101, 109, 101, 110, 116]⟩ : ByteArray), .string (⟨#[118, 99, 118]⟩ : ByteArray)] from (k118_mkM _ _ _ (⟨(⟨#[101, 108, 101, 109, 101, 110, 116]⟩ : ByteArray), (⟨#[118, 99, 118]⟩ : ByteArray)⟩ : S118) )) (Reps.c2 (show Kd.M k118 _ _ _ (⟨(⟨#[99, 108, 97, 117, 115, 101]⟩ : ByteArray), (⟨#[86, 87]⟩ : ByteArray)⟩ : S118) [.string (⟨#[99, 108, 97, 117, 115, 101]⟩ : ByteArray), .string (⟨#[86, 87]⟩ : ByteArray)] from (k118_mkM _ _ _ (⟨(⟨#[99, 108, 97, 117, 115, 101]⟩ : ByteArray), (⟨#[86, 87]⟩ : ByteArray)⟩ : S118) )) (Reps.c2 (show Kd.M k118 _ _ _ (⟨(⟨#[101, 113, 95, 114, 101, 105, 102]⟩ : ByteArray), (⟨#[118, 107, 119]⟩ : ByteArray)⟩ : S118) [.string (⟨#[101, 113, 95, 114, 101, 105, 102]⟩ : ByteArray), .string (⟨#[118, 107, 119]⟩ : ByteArray)] from (k118_mkM _ _ _ (⟨(⟨#[101, 113, 95, 114, 101, 105, 102]⟩ : ByteArray), (⟨#[118, 107, 119]⟩ : ByteArray)⟩ : S118) )) (Reps.c2 (show Kd.M k118 _ _ _ (⟨(⟨#[108, 101, 95, 114, 101, 105, 102]⟩ : ByteArray), (⟨#[118, 107, 119]⟩ : ByteArray)⟩ : S118) [.string (⟨#[108, 101, 95, 114, 101, 105, 102]⟩ : ByteArray), .string (⟨#[118, 107, 119]⟩ : ByteArray)] from (k118_mkM _ _ _ (⟨(⟨#[108, 101, 95, 114, 101, 105, 102]⟩ : ByteArray), (⟨#[118, 107, 119]⟩ : ByteArray)⟩ : S118) )) (Reps.c2 (show Kd.M k118 _ _ _ (⟨(⟨#[101, 113, 95, 105, 109, 112]⟩ : ByteArray), (⟨#[118, 107, 119]⟩ : ByteArray)⟩ : S118) [.string (⟨#[101, 113, 95, 105, 109, 112]⟩ : ByteArray), .string (⟨#[118, 107, 119]⟩ : ByteArray)] from (k118_mkM _ _ _ (⟨(⟨#[101, 113, 95, 105, 109, 112]⟩ : ByteArray), (⟨#[118, 107, 119]⟩ : ByteArray)⟩ : S118) )) (Reps.c2 (show Kd.M k118 _ _ _ (⟨(⟨#[108, 101, 95, 105, 109, 112]⟩ : ByteArray), (⟨#[118, 107, 119]⟩ : ByteArray)⟩ : S118) [.string (⟨#[108, 101, 95, 105, 109, 112]⟩ : ByteArray), .string (⟨#[118, 107, 119]⟩ : ByteArray)] from (k118_mkM _ _ _ (⟨(⟨#[108, 101, 95, 105, 109, 112]⟩ : ByteArray), (⟨#[118, 107, 119]⟩ : ByteArray)⟩ : S118) )) (Reps.c2 (show Kd.M k118 _ _ _ (⟨(⟨#[97, 108, 108, 95, 100, 105, 102, 102, 101, 114, 101, 110, 116]⟩ : ByteArray), (⟨#[86]⟩ : ByteArray)⟩ : S118) [.string (⟨#[97, 108, 108, 95, 100, 105, 102, 102, 101, 114, 101, 110, 116]⟩ : ByteArray), .string (⟨#[86]⟩ : ByteArray)] from (k118_mkM _ _ _ (⟨(⟨#[97, 108, 108, 95, 100, 105, 102, 102, 101, 114, 101, 110, 116]⟩ : ByteArray), (⟨#[86]⟩ : ByteArray)⟩ : S118) )) (Reps.c2 (show Kd.M k118 _ _ _ (⟨(⟨#[116, 97, 98, 108, 101]⟩ : ByteArray), (⟨#[86, 114]⟩ : ByteArray)⟩ : S118) [.string (⟨#[116, 97, 98, 108, 101]⟩ : ByteArray), .string (⟨#[86, 114]⟩ : ByteArray)] from (k118_mkM _ _ _ (⟨(⟨#[116, 97, 98, 108, 101]⟩ : ByteArray), (⟨#[86, 114]⟩ : ByteArray)⟩ : S118) )) (Reps.c2 (show Kd.M k118 _ _ _ (⟨(⟨#[99, 117, 109, 117, 108, 97, 116, 105, 118, 101]⟩ : ByteArray), (⟨#[86, 99, 100, 107]⟩ : ByteArray)⟩ : S118) [.string (⟨#[99, 117, 109, 117, 108, 97, 116, 105, 118, 101]⟩ : ByteArray), .string (⟨#[86, 99, 100, 107]⟩ : ByteArray)] from (k118_mkM _ _ _ (⟨(⟨#[99, 117, 109, 117, 108, 97, 116, 105, 118, 101]⟩ : ByteArray), (⟨#[86, 99, 100, 107]⟩ : ByteArray)⟩ : S118) )) (Reps.c2 (show Kd.M k118 _ _ _ (⟨(⟨#[99, 105, 114, 99, 117, 105, 116]⟩ : ByteArray), (⟨#[86]⟩ : ByteArray)⟩ : S118) [.string (⟨#[99, 105, 114, 99, 117, 105, 116]⟩ : ByteArray), .string (⟨#[86]⟩ : ByteArray)] from (k118_mkM _ _ _ (⟨(⟨#[99, 105, 114, 99, 117, 105, 116]⟩ : ByteArray), (⟨#[86]⟩ : ByteArray)⟩ : S118) )) (Reps.c2 (show Kd.M k118 _ _ _ (⟨(⟨#[103, 99, 99]⟩ : ByteArray), (⟨#[86, 99, 100, 101]⟩ : ByteArray)⟩ : S118) [.string (⟨#[103, 99, 99]⟩ : ByteArray), .string (⟨#[86, 99, 100, 101]⟩ : ByteArray)] from (k118_mkM _ _ _ (⟨(⟨#[103, 99, 99]⟩ : ByteArray), (⟨#[86, 99, 100, 101]⟩ : ByteArray)⟩ : S118) )) (Reps.c2 (show Kd.M k118 _ _ _ (⟨(⟨#[108, 101, 120, 95, 108, 101]⟩ : ByteArray), (⟨#[86, 87]⟩ : ByteArray)⟩ : S118) [.string (⟨#[108, 101, 120, 95, 108, 101]⟩ : ByteArray), .string (⟨#[86, 87]⟩ : ByteArray)] from (k118_mkM _ _ _ (⟨(⟨#[108, 101, 120, 95, 108, 101]⟩ : ByteArray), (⟨#[86, 87]⟩ : ByteArray)⟩ : S118) )) (Reps.c2 (show Kd.M k118 _ _ _ (⟨(⟨#[105, 110, 118, 101, 114, 115, 101]⟩ : ByteArray), (⟨#[86, 87]⟩ : ByteArray)⟩ : S118) [.string (⟨#[105, 110, 118, 101, 114, 115, 101]⟩ : ByteArray), .string (⟨#[86, 87]⟩ : ByteArray)] from (k118_mkM _ _ _ (⟨(⟨#[105, 110, 118, 101, 114, 115, 101]⟩ : ByteArray), (⟨#[86, 87]⟩ : ByteArray)⟩ : S118) )) (Reps.none _ _))))))))))))))))))))))))); intro m w1 b hb hg_ hnew_; clear hg_ hnew_; (first | rw [← c.out] at b | (simp only [Int.reduceToNat] at b; rw [← c.out] at b)); have d := a_ (Kd.R_lower b (bz_ bel_)); replace HB := hq_ hb; clear hb b))
 go_ret
 exact ⟨_, er_, vR_ d.out, bel_⟩

/-! ### model_Word: function 87 -/
def model_Word.f (a : Int) : Option (ByteArray × Bool) := if a < 1 then (none) else ((model_forms.f).bind fun c => (if a > (c.length : Int) then (none) else ((model_forms.f).bind fun b => (if 0 ≤ (wrap64 (a - 1)) then (if (wrap64 (a - 1)) < (b.length : Int) then (some ((rd_T118 b (wrap64 (a - 1))).f0, true)) else (none)) else (none)))))
set_option maxHeartbeats 8000000 in
set_option maxRecDepth 100000 in
theorem model_Word.calls (d : Int) (p : ByteArray) (q : Bool) (w : World) (h : model_Word.f d = some (p, q)) :
  Calls Tryz.prog 87 #[.int .i64 d] w fun e w' => e = .returned (.tuple #[.string p, .bool q]) ∧ Below w.heap.size w w' := by
 have HB := a_ (Below.refl w.heap.size w)
 unfold model_Word.f at h
 have H := h
 clear h
 by_cases c2 : d < 1
 ·
  rw [ip_ c2] at H
  exact ab_ H
 rw [ig_ c2] at H
 have c2b0 : decide (d < 1) = false := df_ c2
 clear c2
 replace H := bo_ H
 obtain ⟨l, x, H⟩ := H
 try dsimp only at H
 by_cases c4 : d > (l.length : Int)
 ·
  rw [ip_ c4] at H
  exact ab_ H
 rw [ig_ c4] at H
 have c4b0 : decide ((l.length : Int) < d) = false := df_ c4
 clear c4
 replace H := bo_ H
 obtain ⟨b, y, H⟩ := H
 try dsimp only at H
 obtain ⟨a, c⟩ : ∃ j_ : Int, (wrap64 (d - 1)) = j_ := ⟨_, rfl⟩
 replace H : (if 0 ≤ (a) then (if (a) < (b.length : Int) then (some ((rd_T118 b (a)).f0, true)) else (none)) else (none)) = some (p, q) := by first | (rw [c] at H; exact H) | (simp only [c] at H ⊢; exact H)
 (try rw [c] at x)
 (try rw [c] at y)
 have hji6w : (IntKind.i64.wrap (d - 1)) = a := (i64_w _).trans c
 by_cases c7 : 0 ≤ (a)
 rotate_left
 ·
  rw [ig_ c7] at H
  exact ab_ H
 rw [ip_ c7] at H
 have c7b0 : decide (0 ≤ (a)) = true := dt_ c7
 clear c7
 by_cases c8 : (a) < (b.length : Int)
 rotate_left
 ·
  rw [ig_ c8] at H
  exact ab_ H
 rw [ip_ c8] at H
 have c8b0 : decide ((a) < (b.length : Int)) = true := dt_ c8
 clear c8
 simp only [Option.some.injEq, Prod.mk.injEq] at H
 obtain ⟨rfl, rfl⟩ := H
 go_enter Tryz.func87, Tryz.ntmps87
 go_wp2_with (first | (go_at_call 88; (with_reducible refine (model_forms.calls l _ x.out).mono ?_); rintro e w9 ⟨A, rfl, g, hb⟩; have n := a_ (Kd.R_lower g (bz_ bel_)); replace HB := hq_ hb; clear hb g; obtain ⟨B, C, r⟩ := Kd.R_slice n.out; subst r) | ((with_reducible refine gate_callee (f := 88) rfl ?_); refine goesL_ (some 12) rfl rfl Tryz.func88 kr_ rfl #[] rfl ar_ ?_; (with_reducible refine (model_forms.calls b _ y.out).mono ?_); rintro e w11 ⟨E, rfl, g, hb⟩; refine ⟨_, rfl, ?_⟩; have o := a_ (Kd.R_lower (Kd.R_new' g (rl_ (vR_ n.out))) (bz_ bel_)); replace HB := hq_ hb; clear hb g; obtain ⟨F, G, s⟩ := Kd.R_slice o.out; subst s; have p119 : 0 ≤ ((a) : Int) := dq_; have m : (a) < (b.length : Int) := dq_; obtain ⟨z, t, u, v⟩ := at_T118 (rr_ o.out).2.2 (a) p119 m; cases t; replace p119 := et_ p119; replace m := et_ m))
 go_ret2
 exact ⟨by first | rfl | (simp [errW_none, errW_some] <;> rfl) | (simp only [← c]; first | rfl | (simp [errW_none, errW_some] <;> rfl)) | (simp [*, errW_none, errW_some] <;> rfl), bel_⟩

/-! ### model_Shape: function 74 -/
def model_Shape.f (b : Int) : Option (ByteArray) := (model_Word.f b).bind fun c => (if c.2 = true then ((model_forms.f).bind fun a => (if 0 ≤ (wrap64 (b - 1)) then (if (wrap64 (b - 1)) < (a.length : Int) then (some ((rd_T118 a (wrap64 (b - 1))).f1)) else (none)) else (none))) else (none))
set_option maxHeartbeats 8000000 in
set_option maxRecDepth 100000 in
theorem model_Shape.calls (l : Int) (r : ByteArray) (w : World) (h : model_Shape.f l = some r) :
  Calls Tryz.prog 74 #[.int .i64 l] w fun e w' => e = .returned (.string r) ∧ Below w.heap.size w w' := by
 have HB := a_ (Below.refl w.heap.size w)
 unfold model_Shape.f at h
 have H := h
 clear h
 replace H := bs_.mp H
 obtain ⟨⟨o, p⟩, m, H⟩ := H
 try dsimp only at H
 have v := a_ m
 clear m
 by_cases c3 : p = true
 rotate_left
 ·
  replace c3 := bf_.mpr c3
  subst c3
  have H1 : (none) = some r := by rw [ig_ (show ¬ (false = true) by decide)] at H; exact H
  clear H
  have H := H1
  clear H1
  exact ab_ H
 subst c3
 rw [ip_ rfl] at H
 replace H := bo_ H
 obtain ⟨b, x, H⟩ := H
 try dsimp only at H
 obtain ⟨a, c⟩ : ∃ j_ : Int, (wrap64 (l - 1)) = j_ := ⟨_, rfl⟩
 replace H : (if 0 ≤ (a) then (if (a) < (b.length : Int) then (some ((rd_T118 b (a)).f1)) else (none)) else (none)) = some r := by first | (rw [c] at H; exact H) | (simp only [c] at H ⊢; exact H)
 (try rw [c] at v)
 (try rw [c] at x)
 have hji5w : (IntKind.i64.wrap (l - 1)) = a := (i64_w _).trans c
 by_cases c6 : 0 ≤ (a)
 rotate_left
 ·
  rw [ig_ c6] at H
  exact ab_ H
 rw [ip_ c6] at H
 have c6b0 : decide (0 ≤ (a)) = true := dt_ c6
 clear c6
 by_cases c7 : (a) < (b.length : Int)
 rotate_left
 ·
  rw [ig_ c7] at H
  exact ab_ H
 rw [ip_ c7] at H
 have c7b0 : decide ((a) < (b.length : Int)) = true := dt_ c7
 clear c7
 obtain rfl := si_ H
 go_enter Tryz.func74, Tryz.ntmps74
 go_wp2_with (first | ((with_reducible refine gate_callee (f := 87) rfl ?_); refine goesL_ (some 7) rfl rfl Tryz.func87 kr_ rfl #[.int .i64 l] rfl ar_ ?_; (with_reducible refine (model_Word.calls l o true _ v.out).mono ?_); rintro e w8 ⟨rfl, hb⟩; refine ⟨_, rfl, ?_⟩; replace HB := hq_ hb; clear hb) | ((with_reducible refine gate_callee (f := 88) rfl ?_); refine goesL_ (some 12) rfl rfl Tryz.func88 kr_ rfl #[] rfl ar_ ?_; (with_reducible refine (model_forms.calls  b _ x.out).mono ?_); rintro e w9 ⟨z, rfl, n, hb⟩; refine ⟨_, rfl, ?_⟩; have g := a_ (Kd.R_lower n (bz_ bel_)); replace HB := hq_ hb; clear hb n; obtain ⟨A, B, q⟩ := Kd.R_slice g.out; subst q; have p125 : 0 ≤ ((a) : Int) := dq_; have d : (a) < (b.length : Int) := dq_; obtain ⟨y, s, t, u⟩ := at_T118 (rr_ g.out).2.2 (a) p125 d; cases s; replace p125 := et_ p125; replace d := et_ d))
 go_ret
 exact ⟨by first | rfl | (simp [errW_none, errW_some] <;> rfl) | (simp only [← c]; first | rfl | (simp [errW_none, errW_some] <;> rfl)) | (simp [*, errW_none, errW_some] <;> rfl), bel_⟩

/-! ### strings_Contains: function 77 -/
def strings_Contains.f (a : ByteArray) (b : ByteArray) : Option Bool := match b.data.toList with
 | [c] => some (decide (0 ≤ Lib.indexByte a.data.toList c))
 | _ => none
theorem one_byte (s : ByteArray) (c : UInt8) (h : s.data.toList = [c]) : s = ⟨#[c]⟩ := by
 obtain ⟨⟨l⟩⟩ := s
 simp only at h
 subst h; rfl
theorem strings_Contains.calls (a : ByteArray) (b : ByteArray) (r : Bool) (w : World) (h : strings_Contains.f a b = some r) :
  Calls Tryz.prog 77 #[.string a, .string b] w fun e w' => e = .returned (.bool r) ∧ Drawn0 w w' := by
 unfold strings_Contains.f at h
 split at h
 ·
  rename_i c hc
  obtain rfl := Option.some.inj h
  rw [one_byte b c hc]
  exact (Tryz.strings_Contains_one a c w).mono (fun e w' ⟨he, hw⟩ => ⟨he, by subst hw; exact Drawn0.refl _⟩)
 cases h

/-! ### model_within: function 89 -/
def model_within.f (a : Int) (b : Int) (c : Int) : Option (Bool) := if a ≥ b then (some (decide (a ≤ c))) else (some false)
set_option maxHeartbeats 8000000 in
set_option maxRecDepth 100000 in
theorem model_within.calls (a : Int) (b : Int) (c : Int) (r : Bool) (w : World) (h : model_within.f a b c = some r) :
  Calls Tryz.prog 89 #[.int .i64 a, .int .i64 b, .int .i64 c] w fun e w' => e = .returned (.bool r) ∧ Drawn0 w w' := by
 unfold model_within.f at h
 have H := h
 clear h
 by_cases c4 : a ≥ b
 ·
  rw [ip_ c4] at H
  have c4b0 : decide (b ≤ a) = true := dt_ c4
  clear c4
  obtain rfl := si_ H
  go_enter Tryz.func89, Tryz.ntmps89
  go_wp2
  go_ret
  exact ⟨by first | rfl | (simp; done) | (simp [*]; done), by repeat (first | exact d0_ _ | apply Drawn0.step)⟩
 rw [ig_ c4] at H
 have c4b0 : decide (b ≤ a) = false := df_ c4
 clear c4
 obtain rfl := si_ H
 go_enter Tryz.func89, Tryz.ntmps89
 go_wp2
 go_ret
 exact ⟨by first | rfl | (simp; done) | (simp [*]; done), by repeat (first | exact d0_ _ | apply Drawn0.step)⟩

/-! ### strings_Count: function 101 -/
def strings_Count.f (a : ByteArray) (b : ByteArray) : Option Int := match b.data.toList with
 | [c] => some (Lib.countByte a.data.toList c : Nat)
 | _ => none
theorem strings_Count.calls (a : ByteArray) (b : ByteArray) (r : Int) (w : World) (h : strings_Count.f a b = some r) :
  Calls Tryz.prog 101 #[.string a, .string b] w fun e w' => e = .returned (.int .i64 r) ∧ Drawn0 w w' := by
 unfold strings_Count.f at h
 split at h
 ·
  rename_i c hc
  obtain rfl := Option.some.inj h
  rw [one_byte b c hc]
  exact (Tryz.strings_Count_one a c w).mono (fun e w' ⟨he, hw⟩ => ⟨he, by subst hw; exact Drawn0.refl _⟩)
 cases h

/-! ### model_named: function 90 -/
def model_named.f (d : Int) (e : ByteArray) (g : ByteArray) (l : ByteArray) : Option (Bool) := (strings_Contains.f e l).bind fun a => (if a = true then ((model_within.f d 1 64).bind fun b => (some b)) else ((strings_Count.f e g).bind fun c => (some (d == c))))
set_option maxHeartbeats 8000000 in
set_option maxRecDepth 100000 in
theorem model_named.calls (d : Int) (a : ByteArray) (g : ByteArray) (c : ByteArray) (r : Bool) (w : World) (h : model_named.f d a g c = some r) :
  Calls Tryz.prog 90 #[.int .i64 d, .string a, .string g, .string c] w fun e w' => e = .returned (.bool r) ∧ Drawn0 w w' := by
 unfold model_named.f at h
 have H := h
 clear h
 replace H := bo_ H
 obtain ⟨l, n, H⟩ := H
 try dsimp only at H
 by_cases c6 : l = true
 ·
  subst c6
  rw [ip_ rfl] at H
  replace H := bo_ H
  obtain ⟨m, o, H⟩ := H
  try dsimp only at H
  obtain rfl := si_ H
  go_enter Tryz.func90, Tryz.ntmps90
  go_wp2_with (first | ((with_reducible refine gate_callee (f := 77) rfl ?_); refine goesL_ (some 11) rfl rfl Tryz.func77 kr_ rfl #[.string a, .string c] rfl ar_ ?_; (with_reducible refine (strings_Contains.calls a c true _ n.out).mono ?_); rintro e w' ⟨rfl, ⟨nd, rfl⟩⟩; refine ⟨_, rfl, ?_⟩) | ((with_reducible refine gate_callee (f := 89) rfl ?_); refine goesL_ (some 13) rfl rfl Tryz.func89 kr_ rfl #[.int .i64 d, .int .i64 1, .int .i64 64] rfl ar_ ?_; (with_reducible refine (model_within.calls d 1 64 m _ o.out).mono ?_); rintro e w' ⟨rfl, ⟨nd, rfl⟩⟩; refine ⟨_, rfl, ?_⟩))
  go_ret
  exact ⟨by first | rfl | (simp; done) | (simp [*]; done), by repeat (first | exact d0_ _ | apply Drawn0.step)⟩
 replace c6 := bf_.mpr c6
 subst c6
 have H1 : ((strings_Count.f a g).bind fun b => (some (d == b))) = some r := by rw [ig_ (show ¬ (false = true) by decide)] at H; exact H
 clear H
 have H := H1
 clear H1
 replace H := bo_ H
 obtain ⟨b, p, H⟩ := H
 try dsimp only at H
 obtain rfl := si_ H
 go_enter Tryz.func90, Tryz.ntmps90
 go_wp2_with (first | ((with_reducible refine gate_callee (f := 77) rfl ?_); refine goesL_ (some 11) rfl rfl Tryz.func77 kr_ rfl #[.string a, .string c] rfl ar_ ?_; (with_reducible refine (strings_Contains.calls a c false _ n.out).mono ?_); rintro e w' ⟨rfl, ⟨nd, rfl⟩⟩; refine ⟨_, rfl, ?_⟩) | ((with_reducible refine gate_callee (f := 101) rfl ?_); refine goesL_ (some 17) rfl rfl Tryz.func101 kr_ rfl #[.string a, .string g] rfl ar_ ?_; (with_reducible refine (strings_Count.calls a g b _ p.out).mono ?_); rintro e w' ⟨rfl, ⟨nd, rfl⟩⟩; refine ⟨_, rfl, ?_⟩))
 go_ret
 exact ⟨by first | rfl | (simp; done) | (simp [*]; done), by repeat (first | exact d0_ _ | apply Drawn0.step)⟩

end Go.Proofs.YtckfbfdnlpnllaaGreatDoor.XAllDiffFixed
