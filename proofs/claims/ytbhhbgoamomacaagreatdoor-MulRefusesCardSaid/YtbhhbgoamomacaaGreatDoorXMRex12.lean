-- by xprint.py, a program of this session, over the kit's print
import Derived.Test.YtbhhbgoamomacaaGreatDoorXMRex0
import Derived.Test.YtbhhbgoamomacaaGreatDoorXMRex10
import Derived.Test.YtbhhbgoamomacaaGreatDoorXMRex11
import Derived.Test.YtbhhbgoamomacaaGreatDoorSq
namespace Go.Proofs.YtbhhbgoamomacaaGreatDoor.XMulRefuses
open Go.RowKit Go.Proofs.YtbhhbgoamomacaaGreatDoor.Sq Go.Proofs.YtbhhbgoamomacaaGreatDoorW.PrintWords Go.Proofs.YtbhhbgoamomacaaGreatDoorW.PrintLast Go.Proofs.YtbhhbgoamomacaaGreatDoorW.PrintMore
attribute [local go_sem] max2_int min2_int max_two min_two max_three min_three max_four min_four   -- for this text's walks alone
set_option linter.unusedVariables false
set_option linter.unusedSimpArgs false

/-! ### dom_Dom_List: function 23 -/
mutual
def dom_Dom_List.l0 : Nat → List Int → List Int → Int → Int → Int → List Int → Int → Int → Int → Option (List Int)
 | 0, _, _, _, _, _, _, _, _, _ => none
 | k + 1, l, g, m, a, b, c, d, e, f => if a < m then (if 0 ≤ a then (if a < (g.length : Int) then (dom_Dom_List.l1 k l a (rd g a) g m a b c d e f) else (none)) else (none)) else (some l)
def dom_Dom_List.l1 : Nat → List Int → Int → Int → List Int → Int → Int → Int → List Int → Int → Int → Int → Option (List Int)
 | 0, _, _, _, _, _, _, _, _, _, _, _ => none
 | k + 1, l, n, g, o, p, q, a, b, c, d, e => if g = 0 then (dom_Dom_List.l0 k l o p (wrap64 (q + 1)) a b c d e) else ((bits_TrailingZeros64.f g).bind fun m => (if l.length < 17592186044416 then (dom_Dom_List.l1 k (l ++ [wrap64 ((wrap64 (a + (wrap64 (64 * n)))) + m)]) n (Go.bits .and .u64 g (IntKind.u64.wrap (g - 1))) o p q a b c d e) else (none)))
end
def dom_Dom_List.f (k : Nat) (b : Int) (a : List Int) (c : Int) (d : Int) (e : Int) : Option (List Int) := dom_Dom_List.l0 k ([] : List Int) a (a.length : Int) 0 b a c d e
theorem dom_Dom_List.mono_l : ∀ k, (∀ a b c d e f g l m, LeO (dom_Dom_List.l0 k a b c d e f g l m) (dom_Dom_List.l0 (k + 1) a b c d e f g l m)) ∧ (∀ a b c d e f g l m o n, LeO (dom_Dom_List.l1 k a b c d e f g l m o n) (dom_Dom_List.l1 (k + 1) a b c d e f g l m o n))
 | 0 => by refine ⟨?_, ?_⟩ <;> (intros; exact LeO.none _)
 | k + 1 => by
  obtain ⟨ih0, ih1⟩ := dom_Dom_List.mono_l k
  refine ⟨?_, ?_⟩ <;> intros
  all_goals first | unfold dom_Dom_List.l0 | unfold dom_Dom_List.l1
  all_goals exact leo_
theorem dom_Dom_List.mono : ∀ a b c d e k, LeO (dom_Dom_List.f k a b c d e) (dom_Dom_List.f (k + 1) a b c d e) := by
 intro a b c d e k
 obtain ⟨ih0, ih1⟩ := dom_Dom_List.mono_l k
 unfold dom_Dom_List.f
 exact leo_
def dom_Dom_List.T7 : Bool × List (List Nat × List Nat) := (true, [([], []), ([], []), ([1], [1]), ([], []), ([3], [3]), ([2, 4], [2, 4]), ([], []), ([6], [6]), ([5, 7], [5, 7]), ([8], [8]), ([0, 9, 7], [0, 9]), ([10, 10, 0, 1, 2, 3, 4, 5, 6, 7, 8, 9, 10], [0, 10])])
def dom_Dom_List.B7 : List Nat := [0, 0, 2, 0, 8, 30, 0, 64, 254, 510, 1023, 2047]
theorem dom_Dom_List.tab7 : rtab .any (opsOf Tryz.f23 7) = dom_Dom_List.T7 := by kernel_rfl
theorem dom_Dom_List.bits7 : waitsOk dom_Dom_List.T7.2 dom_Dom_List.B7 = true := by kernel_rfl
set_option maxHeartbeats 8000000 in
set_option maxRecDepth 100000 in
theorem dom_Dom_List.calls (k : Nat) (g : Int) (x : Option Addr) (c0_1 : Nat) (b : List Int) (m : Int) (o : Int) (p : Int) (r : List Int) (w : World) (B : Kd.C (Kd.int .u64) w x b.length b) (E : b.length ≤ c0_1) (hrtab : Kd.C (Kd.int .u8) w (some ⟨0, 0, none⟩) tabL.length tabL) (h : dom_Dom_List.f k g b m o p = some r) :
  Calls Tryz.prog 23 #[.agg #[.int .i64 g, .slice x b.length c0_1, .int .i64 m, .int .i64 o, .int .i64 p]] w fun e w' => ∃ U : Value, e = .returned (U) ∧ Kd.R (Kd.int .i64) 3 w' w.heap.size (fun _ => True) U r ∧ Below w.heap.size w w' := by
 have hu61 := Tryz.underlying61
 have M := a_ B
 have X := a_ E
 clear B E
 have HRtab := a_ hrtab
 clear hrtab
 have HB := a_ (Below.refl w.heap.size w)
 unfold dom_Dom_List.f at h
 have H := h
 clear h
 have H' := a_ H
 clear H
 go_enter Tryz.func23, Tryz.ntmps23
 go_wp2_with (first | ((with_reducible refine gate_dst (N := 1) rfl ?_); refine bxe_ (N := 1) (cs := #[.int .i64 g, .slice x b.length c0_1, .int .i64 m, .int .i64 o, .int .i64 p]) (t := 61) ?_; intro l hg w2 hbox hb; have a := a_ (hbox); have O := a_ (by rw [hg]; exact (bz_ bel_) : w.heap.size ≤ l); have Y := O; replace HB := hq_ hb; clear hb hbox hg; obtain ⟨_, _, _, _, _, _, _, _, _, _⟩ := cel5_ a.out))
 go_loopg [3, 9] k (fun kq V Z w' => ∃ (y : List Int) (c : Int), Z = .int .i64 c ∧ Aside0 (dom_Dom_List.l0 kq y b (b.length : Int) c g b m o p = some r) ∧ Aside0 (kq ≤ k) ∧ Aside0 (Kd.R (Kd.int .i64) 3 w' w.heap.size (fun _ => True) V y) ∧ Aside0 (w'.heap[l]? = some (.cells #[.int .i64 g, (.slice x b.length c0_1), .int .i64 m, .int .i64 o, .int .i64 p] 61 (0, 0))) ∧ Aside0 (Below w.heap.size w w'))
 case atStart => exact ⟨(([] : List Int)), (0), eq_, H', ⟨lr_ _⟩, ⟨nil_⟩, ⟨bk_ a.out⟩, ⟨bel_⟩⟩
 clear H'
 try clear c2
 try clear p2
 obtain ⟨y, c, rfl, HA, F, HO_3, a, HB⟩ := hrel
 cases gk with
 | zero => exact absurd HA.out (by simp [dom_Dom_List.l0])
 | succ k1 =>
  have H := HA.out
  clear HA
  simp only [dom_Dom_List.l0] at H
  by_cases c4 : c < (b.length : Int)
  rotate_left
  ·
   rw [ig_ c4] at H
   have c4b0 : decide (c < (b.length : Int)) = false := df_ c4
   clear c4
   obtain rfl := si_ H
   go_wp2
   go_ret
   exact ⟨_, er_, vR_ HO_3.out, bel_⟩
  rw [ip_ c4] at H
  have c4b0 : decide (c < (b.length : Int)) = true := dt_ c4
  clear c4
  by_cases c5 : 0 ≤ c
  rotate_left
  ·
   rw [ig_ c5] at H
   exact ab_ H
  rw [ip_ c5] at H
  have c5b0 : decide (0 ≤ c) = true := dt_ c5
  clear c5
  by_cases c6 : c < (b.length : Int)
  rotate_left
  ·
   rw [ig_ c6] at H
   exact ab_ H
  rw [ip_ c6] at H
  have c6b0 : decide (c < (b.length : Int)) = true := dt_ c6
  clear c6
  have H' := a_ H
  clear H
  have p361 : 0 ≤ (c : Int) := dq_
  have z : c < (b.length : Int) := dq_
  obtain ⟨G, W, q⟩ := ai_ M.out c p361 z
  cases W
  replace q := hx_ HB q
  replace p361 := et_ p361
  replace z := et_ z
  go_wp2
  go_loopg [3, 5] k1 (fun kq V v5 w' => ∃ (s : List Int) (d : Int), v5 = .int .u64 d ∧ Aside0 (dom_Dom_List.l1 kq s c d b (b.length : Int) c g b m o p = some r) ∧ Aside0 (kq ≤ k1) ∧ Aside0 (Kd.R (Kd.int .i64) 3 w' w.heap.size (fun _ => True) V s) ∧ Aside0 (w'.heap[l]? = some (.cells #[.int .i64 g, (.slice (some G) b.length c0_1), .int .i64 m, .int .i64 o, .int .i64 p] 61 (0, 0))) ∧ Aside0 (Below w.heap.size w w'))
  case atStart => exact ⟨(y), (rd b c), eq_, H', ⟨lr_ _⟩, ⟨vR_ HO_3.out⟩, ⟨bk_ a.out⟩, ⟨bel_⟩⟩
  clear H'
  try clear c2
  try clear p2
  try clear p3
  try clear q3
  try clear ad
  try clear c4
  try clear c4b0
  try clear c5
  try clear c5b0
  try clear c6
  try clear c6b0
  try clear q
  try clear p2
  try clear p361
  try clear z
  obtain ⟨s, d, rfl, HA, I, HO_3, a, HB⟩ := hrel
  cases gk with
  | zero => exact absurd HA.out (by simp [dom_Dom_List.l1])
  | succ k2 =>
   have H := HA.out
   clear HA
   simp only [dom_Dom_List.l1] at H
   by_cases c7 : d = 0
   ·
    rw [ip_ c7] at H
    have c7b0 : (d == 0) = true := beq_iff_eq.mpr c7
    have c7b1 : (d != 0) = false := bn_.mpr c7
    clear c7
    have H' := a_ H
    clear H
    go_wp2
    go_roundg k2
    case measure => have := F.out; have := I.out; omega
    exact ⟨(s), (wrap64 (c + 1)), eq_, H', ⟨by have := F.out; have := I.out; omega⟩, ⟨vR_ HO_3.out⟩, ⟨bk_ a.out⟩, ⟨bel_⟩⟩
   rw [ig_ c7] at H
   have c7b0 : (d == 0) = false := be_.mpr c7
   have c7b1 : (d != 0) = true := ni_.mpr c7
   replace H := bo_ H
   obtain ⟨A, A8, H⟩ := H
   try dsimp only at H
   by_cases c9 : s.length < 17592186044416
   rotate_left
   ·
    rw [ig_ c9] at H
    exact ab_ H
   rw [ip_ c9] at H
   have LMc9 := a_ c9
   clear c9
   obtain ⟨J, u⟩ : ∃ y_ : List Int, y_ = (s ++ [wrap64 ((wrap64 (g + (wrap64 (64 * c)))) + A)]) := ⟨_, rfl⟩
   replace H : (dom_Dom_List.l1 k2 J c (Go.bits .and .u64 d (IntKind.u64.wrap (d - 1))) b (b.length : Int) c g b m o p) = some r := h2_ H u
   have P := a_ u
   clear u
   have H' := a_ H
   clear H
   try go_wp2
   replace HO_3 := a_ (Kd.R_drew HO_3.out)
   replace a := a_ (blk_drew a.out)
   replace HB := a_ (below_drew1 HB.out)
   refine start_ (n := 12) (S := fun w' => w'.cell? ⟨l, 0, none⟩ = some (.int .i64 g) ∧ w'.cell? ⟨l, 1, none⟩ = some (.slice (some G) b.length c0_1) ∧ w'.cell? ⟨l, 2, none⟩ = some (.int .i64 m) ∧ w'.cell? ⟨l, 3, none⟩ = some (.int .i64 o) ∧ w'.cell? ⟨l, 4, none⟩ = some (.int .i64 p)) (ds := []) #[false, false, false, false, false, false, false, false, false, false, false, false] kr_ rfl rfl (ca5_ a.out) (fun hHeld => ?_); refine with_tabW dom_Dom_List.tab7 dom_Dom_List.bits7 (fun HT_ HW_ => ?_)
   generalize wr.drew = w10 at HO_3 a HB hHeld ⊢
   refine pn_ 0 20 ao_ ?_
   refine pn_ 1 21 ao_ ?_
   refine pn_ 3 23 ao_ ?_
   refine pn_ 4 24 ao_ ?_
   refine pn_ 6 26 ao_ ?_
   refine tn_ 2 22 tw_ hHeld ?_
   refine pn_ 5 25 ao_ ?_
   refine onn_ 7 27 #[true, true, true, true, true, true, true, true, false, false, false, false] rfl rfl on_ (by decide) (fun K hK => ?_)
   refine goes_ Tryz.func55 kr_ rfl #[.int .u64 d] (by rfl) rfl rfl ar_ ?_
   with_reducible refine (bits_TrailingZeros64.calls d A _ ?_ A8.out).mono ?_
   exact ca_ ((cb_ HRtab.out HB.out))
   rintro e w' ⟨rfl, ⟨nd, rfl⟩⟩
   refine ⟨_, rfl, ?_⟩
   refine hK.out _ _ (ca5_ a.out) (fun hHeld => ?_)
   clear hK K
   refine nor_ (N := some 27) ?_
   refine pn_ 8 28 ao_ ?_
   refine onn_ 9 29 #[true, true, true, true, true, true, true, true, true, true, false, false] rfl rfl on_ (by decide) (fun K hK => ?_)
   refine value_ (w1 := ?_) (v := ?_) (by rfl) rfl ?_ ?_
   rotate_left 2
   ·
    go_simp
    constructor
    · rfl
    rfl
   refine hK.out _ _ ⟨(blk_cell (blk_alloc a.out _) 0).trans rfl, (blk_cell (blk_alloc a.out _) 1).trans rfl, (blk_cell (blk_alloc a.out _) 2).trans rfl, (blk_cell (blk_alloc a.out _) 3).trans rfl, (blk_cell (blk_alloc a.out _) 4).trans rfl⟩ (fun hHeld => ?_)
   clear hK K
   refine nor_ (N := some 29) ?_
   refine onn_ 10 30 #[true, true, true, true, true, true, true, true, true, true, true, false] rfl rfl on_ (by decide) (fun K hK => ?_)
   refine Kd.R_append_step (Kd.int .i64) (w0 := w) w.heap.size (by rfl) (.tmp 20) (.tmp 29) 30 3 (.int .i64 0) 8 rfl Tryz.underlying30 info3 rfl (by decide) (by omega) u3 s (wrap64 ((wrap64 (g + (wrap64 (64 * c)))) + A)) [.int .i64 (wrap64 ((wrap64 (g + (wrap64 (64 * c)))) + A))] (fun _ => True) (fun _ => False) rfl rfl ?aP (fun _ hk => hk.elim) ?aF ?aO ?aB ?aS ?aL ?_
   (case aP => exact rfl)
   (case aB => exact bel_)
   (case aF => exact (fun _ _ => trivial))
   (case aO => exact (vR_ HO_3.out))
   (case aS => exact (bz_ bel_))
   (case aL => have := LMc9.out; omega)
   intro ac w11 ho hb hg hat
   rw [← P.out] at ho
   replace a := a_ (blk_grown (bk_ a.out) hg (Kd.R_ne HO_3.out a.out (by decide)))
   replace HB := a_ (hb)
   have Q := a_ (ho)
   clear HO_3
   clear ho hb hg hat
   refine hK.out _ _ (ca5_ a.out) (fun hHeld => ?_)
   clear hK K
   refine nor_ (N := some 30) ?_
   refine pn_ 11 3 ao_ ?_
   refine done_ dn_ ?_
   try go_wp2
   go_roundg k2
   case measure => have := F.out; have := I.out; omega
   exact ⟨(J), (Go.bits .and .u64 d (IntKind.u64.wrap (d - 1))), eq_, H', ⟨by have := F.out; have := I.out; omega⟩, ⟨vR_ Q.out⟩, ⟨bk_ a.out⟩, ⟨bel_⟩⟩

/-! ### dom_in: function 57 -/
def dom_in.f (a : Int) : Option (Bool) := if a ≥ (-1000000) then (some (decide (a ≤ 1000000))) else (some false)
set_option maxHeartbeats 8000000 in
set_option maxRecDepth 100000 in
theorem dom_in.calls (a : Int) (r : Bool) (w : World) (h : dom_in.f a = some r) :
  Calls Tryz.prog 57 #[.int .i64 a] w fun e w' => e = .returned (.bool r) ∧ Drawn0 w w' := by
 unfold dom_in.f at h
 have H := h
 clear h
 by_cases c2 : a ≥ (-1000000)
 ·
  rw [ip_ c2] at H
  have c2b0 : decide ((-1000000) ≤ a) = true := dt_ c2
  clear c2
  obtain rfl := si_ H
  go_enter Tryz.func57, Tryz.ntmps57
  go_wp2
  go_ret
  exact ⟨by first | rfl | (simp; done) | (simp [*]; done), by repeat (first | exact d0_ _ | apply Drawn0.step)⟩
 rw [ig_ c2] at H
 have c2b0 : decide ((-1000000) ≤ a) = false := df_ c2
 clear c2
 obtain rfl := si_ H
 go_enter Tryz.func57, Tryz.ntmps57
 go_wp2
 go_ret
 exact ⟨by first | rfl | (simp; done) | (simp [*]; done), by repeat (first | exact d0_ _ | apply Drawn0.step)⟩

/-! ### dom_Dom_word: function 58 -/
def dom_Dom_word.f (a : Int) (b : List Int) (d : Int) (e : Int) (g : Int) (c : Int) : Option (Int) := if c < a then (some 0) else (if (wrap64 (Int.tdiv (wrap64 (c - a)) 64)) ≥ (b.length : Int) then (some 0) else (if 0 ≤ (wrap64 (Int.tdiv (wrap64 (c - a)) 64)) then (if (wrap64 (Int.tdiv (wrap64 (c - a)) 64)) < (b.length : Int) then (some (rd b (wrap64 (Int.tdiv (wrap64 (c - a)) 64)))) else (none)) else (none)))
set_option maxHeartbeats 8000000 in
set_option maxRecDepth 100000 in
theorem dom_Dom_word.calls (b : Int) (n : Option Addr) (c0_1 : Nat) (a : List Int) (o : Int) (p : Int) (q : Int) (u : Int) (r : Int) (w : World) (x : Kd.C (Kd.int .u64) w n a.length a) (y : a.length ≤ c0_1) (h : dom_Dom_word.f b a o p q u = some r) :
  Calls Tryz.prog 58 #[.agg #[.int .i64 b, .slice n a.length c0_1, .int .i64 o, .int .i64 p, .int .i64 q], .int .i64 u] w fun e w' => e = .returned (.int .u64 r) ∧ Below w.heap.size w w' := by
 have hu61 := Tryz.underlying61
 have A := a_ x
 have E := a_ y
 clear x y
 have HB := a_ (Below.refl w.heap.size w)
 unfold dom_Dom_word.f at h
 have H := h
 clear h
 by_cases c3 : u < b
 ·
  rw [ip_ c3] at H
  have c3b0 : decide (u < b) = true := dt_ c3
  clear c3
  obtain rfl := si_ H
  go_enter Tryz.func58, Tryz.ntmps58
  go_wp2_with (first | ((with_reducible refine gate_dst (N := 2) rfl ?_); (try (refine gate_guard (by rfl) ?_; dsimp only)); refine bxe_ (N := 2) (cs := #[.int .i64 b, .slice n a.length c0_1, .int .i64 o, .int .i64 p, .int .i64 q]) (t := 61) ?_; intro d hg w4 hbox hb; have g := a_ (hbox); have l := a_ (by rw [hg]; exact (bz_ bel_) : w.heap.size ≤ d); have z := l; replace HB := hq_ hb; clear hb hbox hg; obtain ⟨_, _, _, _, _, _, _, _, _, _⟩ := cel5_ g.out))
  go_ret
  exact ⟨er_, bel_⟩
 rw [ig_ c3] at H
 have c3b0 : decide (u < b) = false := df_ c3
 clear c3
 by_cases c6 : (wrap64 (Int.tdiv (wrap64 (u - b)) 64)) ≥ (a.length : Int)
 ·
  rw [ip_ c6] at H
  have c6b0 : decide ((a.length : Int) ≤ (wrap64 (Int.tdiv (wrap64 (u - b)) 64))) = true := dt_ c6
  clear c6
  obtain rfl := si_ H
  go_enter Tryz.func58, Tryz.ntmps58
  go_wp2_with (first | ((with_reducible refine gate_dst (N := 2) rfl ?_); (try (refine gate_guard (by rfl) ?_; dsimp only)); refine bxe_ (N := 2) (cs := #[.int .i64 b, .slice n a.length c0_1, .int .i64 o, .int .i64 p, .int .i64 q]) (t := 61) ?_; intro d hg w7 hbox hb; have g := a_ (hbox); have l := a_ (by rw [hg]; exact (bz_ bel_) : w.heap.size ≤ d); have z := l; replace HB := hq_ hb; clear hb hbox hg; obtain ⟨_, _, _, _, _, _, _, _, _, _⟩ := cel5_ g.out))
  go_ret
  exact ⟨er_, bel_⟩
 rw [ig_ c6] at H
 have c6b0 : decide ((a.length : Int) ≤ (wrap64 (Int.tdiv (wrap64 (u - b)) 64))) = false := df_ c6
 clear c6
 obtain ⟨c, s⟩ : ∃ j_ : Int, (wrap64 (Int.tdiv (wrap64 (u - b)) 64)) = j_ := ⟨_, rfl⟩
 replace H : (if 0 ≤ (c) then (if (c) < (a.length : Int) then (some (rd a (c))) else (none)) else (none)) = some r := by first | (rw [s] at H; exact H) | (simp only [s] at H ⊢; exact H)
 (try rw [s] at c6b0)
 have hji9w : (IntKind.i64.wrap (Int.tdiv (wrap64 (u - b)) 64)) = c := (i64_w _).trans s
 by_cases c10 : 0 ≤ (c)
 rotate_left
 ·
  rw [ig_ c10] at H
  exact ab_ H
 rw [ip_ c10] at H
 have c10b0 : decide (0 ≤ (c)) = true := dt_ c10
 clear c10
 by_cases c11 : (c) < (a.length : Int)
 rotate_left
 ·
  rw [ig_ c11] at H
  exact ab_ H
 rw [ip_ c11] at H
 have c11b0 : decide ((c) < (a.length : Int)) = true := dt_ c11
 clear c11
 obtain rfl := si_ H
 go_enter Tryz.func58, Tryz.ntmps58
 go_wp2_with (first | ((with_reducible refine gate_dst (N := 2) rfl ?_); (try (refine gate_guard (by rfl) ?_; dsimp only)); refine bxe_ (N := 2) (cs := #[.int .i64 b, .slice n a.length c0_1, .int .i64 o, .int .i64 p, .int .i64 q]) (t := 61) ?_; intro d hg w12 hbox hb; have g := a_ (hbox); have l := a_ (by rw [hg]; exact (bz_ bel_) : w.heap.size ≤ d); have z := l; replace HB := hq_ hb; clear hb hbox hg; obtain ⟨_, _, _, _, _, _, _, _, _, _⟩ := cel5_ g.out; have p367 : 0 ≤ ((c) : Int) := dq_; have v : (c) < (a.length : Int) := dq_; obtain ⟨F, B, m⟩ := ai_ A.out (c) p367 v; cases B; replace m := hx_ HB m; replace p367 := et_ p367; replace v := et_ v))
 go_ret
 exact ⟨by first | rfl | (simp [errW_none, errW_some] <;> rfl) | (simp only [← s]; first | rfl | (simp [errW_none, errW_some] <;> rfl)) | (simp [*, errW_none, errW_some] <;> rfl), bel_⟩

/-! ### dom_Dom_Has: function 25 -/
def dom_Dom_Has.f (c : Int) (d : List Int) (e : Int) (g : Int) (l : Int) (a : Int) : Option (Bool) := (dom_in.f a).bind fun m => (if m = true then ((dom_place.f a).bind fun n => ((dom_Dom_word.f c d e g l n).bind fun o => ((dom_place.f a).bind fun b => (if 0 ≤ (wrap64 (a - b)) then (some ((Go.bits .and .u64 (shr .u64 o (wrap64 (a - b))) 1) == 1)) else (none))))) else (some false))
def dom_Dom_Has.T1 : Bool × List (List Nat × List Nat) := (true, [([], []), ([0], [0]), ([1, 1], [1]), ([2], [2]), ([2], [2]), ([4, 2, 2], [2, 4]), ([3, 5, 5, 2], [2, 3, 5]), ([2], [2]), ([2], [2]), ([8, 6, 2], [2, 8]), ([7, 9, 2], [2, 7, 9]), ([6, 10, 2], [2, 6, 10]), ([11, 2], [2, 11]), ([12, 2], [2, 12]), ([2, 13], [2, 13]), ([14, 9, 0, 1, 2, 3, 4, 5, 6, 7, 8, 9, 10, 11, 12, 13, 14], [14])])
def dom_Dom_Has.B1 : List Nat := [0, 1, 3, 7, 7, 23, 63, 7, 7, 383, 1023, 2047, 4095, 8191, 16383, 32767]
theorem dom_Dom_Has.tab1 : rtab .any (opsOf Tryz.f25 1) = dom_Dom_Has.T1 := by kernel_rfl
theorem dom_Dom_Has.bits1 : waitsOk dom_Dom_Has.T1.2 dom_Dom_Has.B1 = true := by kernel_rfl
set_option maxHeartbeats 8000000 in
set_option maxRecDepth 100000 in
theorem dom_Dom_Has.calls (l : Int) (s : Option Addr) (c0_1 : Nat) (d : List Int) (m : Int) (o : Int) (p : Int) (u : Int) (r : Bool) (w : World) (B : Kd.C (Kd.int .u64) w s d.length d) (E : d.length ≤ c0_1) (h : dom_Dom_Has.f l d m o p u = some r) :
  Calls Tryz.prog 25 #[.agg #[.int .i64 l, .slice s d.length c0_1, .int .i64 m, .int .i64 o, .int .i64 p], .int .i64 u] w fun e w' => e = .returned (.bool r) ∧ Below w.heap.size w w' := by
 have hu61 := Tryz.underlying61
 have F := a_ B
 have G := a_ E
 clear B E
 have HB := a_ (Below.refl w.heap.size w)
 unfold dom_Dom_Has.f at h
 have H := h
 clear h
 replace H := bo_ H
 obtain ⟨M, I, H⟩ := H
 try dsimp only at H
 by_cases c4 : M = true
 rotate_left
 ·
  replace c4 := bf_.mpr c4
  subst c4
  have H1 : (some false) = some r := by rw [ig_ (show ¬ (false = true) by decide)] at H; exact H
  clear H
  have H := H1
  clear H1
  obtain rfl := si_ H
  go_enter Tryz.func25, Tryz.ntmps25
  try go_wp2_with (first | ((with_reducible refine gate_dst (N := 2) rfl ?_); refine bxe_ (N := 2) (cs := #[.int .i64 l, .slice s d.length c0_1, .int .i64 m, .int .i64 o, .int .i64 p]) (t := 61) ?_; intro c hg w14 hbox hb; have x := a_ (by rw [hg]; exact (bz_ bel_) : w.heap.size ≤ c); have J := x; replace HB := hq_ hb; clear hb hbox hg))
  replace HB := a_ (below_drew1 HB.out)
  refine start_ (n := 16) (S := fun w' => True) (ds := []) #[false, false, false, false, false, false, false, false, false, false, false, false, false, false, false, false] kr_ rfl rfl trivial (fun hHeld => ?_); refine with_tabW dom_Dom_Has.tab1 dom_Dom_Has.bits1 (fun HT_ HW_ => ?_)
  generalize w14.drew = w15 at HB hHeld ⊢
  refine pn_ 0 5 ao_ ?_
  refine onn_ 1 6 #[true, true, false, false, false, false, false, false, false, false, false, false, false, false, false, false] rfl rfl on_ (by decide) (fun K hK => ?_)
  refine goes_ Tryz.func57 kr_ rfl #[.int .i64 u] (by rfl) rfl rfl ar_ ?_
  with_reducible refine (dom_in.calls u false _ I.out).mono ?_
  rintro e w' ⟨rfl, ⟨nd, rfl⟩⟩
  refine ⟨_, rfl, ?_⟩
  refine hK.out _ _ trivial (fun hHeld => ?_)
  clear hK K
  refine nor_ (N := some 6) ?_
  refine pn_ 2 7 ao_ ?_
  refine und_ (i := 3) (N := some 8) ao_ ?_
  refine und_ (i := 4) (N := some 9) ao_ ?_
  refine und_ (i := 5) (N := some 10) ao_ ?_
  refine und_ (i := 6) (N := some 11) ao_ ?_
  refine und_ (i := 7) (N := some 12) ao_ ?_
  refine und_ (i := 8) (N := some 13) ao_ ?_
  refine und_ (i := 9) (N := some 14) ao_ ?_
  refine und_ (i := 10) (N := some 15) ao_ ?_
  refine und_ (i := 11) (N := some 16) ao_ ?_
  refine und_ (i := 12) (N := some 17) ao_ ?_
  refine und_ (i := 13) (N := some 18) ao_ ?_
  refine pn_ 14 19 ao_ ?_
  refine pn_ 15 4 ao_ ?_
  refine done_ dn_ ?_
  try go_wp2
  go_ret
  exact ⟨er_, bel_⟩
 subst c4
 rw [ip_ rfl] at H
 replace H := bo_ H
 obtain ⟨y, O, H⟩ := H
 try dsimp only at H
 replace H := bo_ H
 obtain ⟨v, P, H⟩ := H
 try dsimp only at H
 replace H := bo_ H
 obtain ⟨z, Q, H⟩ := H
 try dsimp only at H
 obtain ⟨q, g⟩ : ∃ j_ : Int, (wrap64 (u - z)) = j_ := ⟨_, rfl⟩
 replace H : (if 0 ≤ (q) then (some ((Go.bits .and .u64 (shr .u64 v (q)) 1) == 1)) else (none)) = some r := by first | (rw [g] at H; exact H) | (simp only [g] at H ⊢; exact H)
 (try rw [g] at I)
 (try rw [g] at O)
 (try rw [g] at P)
 (try rw [g] at Q)
 have hji8w : (IntKind.i64.wrap (u - z)) = q := (i64_w _).trans g
 by_cases c9 : 0 ≤ (q)
 rotate_left
 ·
  rw [ig_ c9] at H
  exact ab_ H
 rw [ip_ c9] at H
 have c9b0 := et_ c9
 have c9b1 : decide (0 ≤ (q)) = true := dt_ c9
 clear c9
 obtain ⟨A, b⟩ : ∃ j_ : Int, (shr .u64 v (q)) = j_ := ⟨_, rfl⟩
 replace H : (some ((Go.bits .and .u64 (A) 1) == 1)) = some r := by first | (rw [b] at H; exact H) | (simp only [b] at H ⊢; exact H)
 (try rw [b] at I)
 (try rw [b] at O)
 (try rw [b] at P)
 (try rw [b] at Q)
 have U : (v / 2 ^ min (q).toNat 64) = A := b
 have hji10z : (q) ≤ 64 → (v / 2 ^ (q).toNat) = A := shr_small b
 obtain rfl := si_ H
 go_enter Tryz.func25, Tryz.ntmps25
 try go_wp2_with (first | ((with_reducible refine gate_dst (N := 2) rfl ?_); refine bxe_ (N := 2) (cs := #[.int .i64 l, .slice s d.length c0_1, .int .i64 m, .int .i64 o, .int .i64 p]) (t := 61) ?_; intro c hg w11 hbox hb; have a := a_ (hbox); have x := a_ (by rw [hg]; exact (bz_ bel_) : w.heap.size ≤ c); have J := x; replace HB := hq_ hb; clear hb hbox hg))
 replace a := a_ (blk_drew a.out)
 replace HB := a_ (below_drew1 HB.out)
 refine start_ (n := 16) (S := fun w' => w'.cell? ⟨c, 0, none⟩ = some (.int .i64 l) ∧ w'.cell? ⟨c, 1, none⟩ = some (.slice s d.length c0_1) ∧ w'.cell? ⟨c, 2, none⟩ = some (.int .i64 m) ∧ w'.cell? ⟨c, 3, none⟩ = some (.int .i64 o) ∧ w'.cell? ⟨c, 4, none⟩ = some (.int .i64 p)) (ds := []) #[false, false, false, false, false, false, false, false, false, false, false, false, false, false, false, false] kr_ rfl rfl (ca5_ a.out) (fun hHeld => ?_); refine with_tabW dom_Dom_Has.tab1 dom_Dom_Has.bits1 (fun HT_ HW_ => ?_)
 generalize w11.drew = w12 at a HB hHeld ⊢
 refine pn_ 0 5 ao_ ?_
 refine onn_ 1 6 #[true, true, false, false, false, false, false, false, false, false, false, false, false, false, false, false] rfl rfl on_ (by decide) (fun K hK => ?_)
 refine goes_ Tryz.func57 kr_ rfl #[.int .i64 u] (by rfl) rfl rfl ar_ ?_
 with_reducible refine (dom_in.calls u true _ I.out).mono ?_
 rintro e w' ⟨rfl, ⟨nd, rfl⟩⟩
 refine ⟨_, rfl, ?_⟩
 refine hK.out _ _ (ca5_ a.out) (fun hHeld => ?_)
 clear hK K
 refine nor_ (N := some 6) ?_
 refine pn_ 2 7 ao_ ?_
 refine pn_ 4 9 ao_ ?_
 refine pn_ 7 12 ao_ ?_
 refine pn_ 8 13 ao_ ?_
 refine tn_ 3 8 tw_ hHeld ?_
 refine onn_ 5 10 #[true, true, true, true, true, true, false, true, true, false, false, false, false, false, false, false] rfl rfl on_ (by decide) (fun K hK => ?_)
 refine goes_ Tryz.func59 kr_ rfl #[.int .i64 u] (by rfl) rfl rfl ar_ ?_
 with_reducible refine (dom_place.calls u y _ O.out).mono ?_
 rintro e w' ⟨rfl, ⟨nd, rfl⟩⟩
 refine ⟨_, rfl, ?_⟩
 refine hK.out _ _ (ca5_ a.out) (fun hHeld => ?_)
 clear hK K
 refine nor_ (N := some 10) ?_
 refine onn_ 6 11 #[true, true, true, true, true, true, true, true, true, false, false, false, false, false, false, false] rfl rfl on_ (by decide) (fun K hK => ?_)
 refine goes_ Tryz.func58 kr_ rfl #[.agg #[.int .i64 l, .slice s d.length c0_1, .int .i64 m, .int .i64 o, .int .i64 p], .int .i64 y] (by rfl) rfl rfl ar_ ?_
 with_reducible refine (dom_Dom_word.calls l _ _ d m o p y v _ ?_ ?_ P.out).mono ?_
 focus repeat (first | exact (cb_ F.out bel_) | (with_reducible refine Kd.C_alloc ?_ _) | (with_reducible refine Kd.C_drewN ?_ _) | (with_reducible refine Kd.C_drew ?_))
 exact G.out
 rintro e w13 ⟨rfl, hb⟩
 refine ⟨_, rfl, ?_⟩
 replace a := a_ (bq_ a.out hb)
 replace HB := hq_ hb
 clear hb
 refine hK.out _ _ (ca5_ a.out) (fun hHeld => ?_)
 clear hK K
 refine nor_ (N := some 11) ?_
 refine onn_ 9 14 #[true, true, true, true, true, true, true, true, true, true, false, false, false, false, false, false] rfl rfl on_ (by decide) (fun K hK => ?_)
 refine goes_ Tryz.func59 kr_ rfl #[.int .i64 u] (by rfl) rfl rfl ar_ ?_
 with_reducible refine (dom_place.calls u z _ Q.out).mono ?_
 rintro e w' ⟨rfl, ⟨nd, rfl⟩⟩
 refine ⟨_, rfl, ?_⟩
 refine hK.out _ _ (ca5_ a.out) (fun hHeld => ?_)
 clear hK K
 refine nor_ (N := some 14) ?_
 refine pn_ 10 15 ao_ ?_
 refine pn_ 11 16 ao_ ?_
 refine pn_ 12 17 ao_ ?_
 refine pn_ 13 18 ao_ ?_
 refine pn_ 14 19 ao_ ?_
 refine pn_ 15 4 ao_ ?_
 refine done_ dn_ ?_
 try go_wp2
 go_ret
 exact ⟨by first | rfl | (simp [errW_none, errW_some] <;> rfl) | (simp only [← g, ← b]; first | rfl | (simp [errW_none, errW_some] <;> rfl)) | (simp [*, errW_none, errW_some] <;> rfl), bel_⟩

/-! ### dom_Of_1: function 71 -/
def dom_Of_1.f (b : Int) : Option (Bool) := (dom_in.f b).bind fun a => (some (!a))
set_option maxHeartbeats 8000000 in
set_option maxRecDepth 100000 in
theorem dom_Of_1.calls (a : Int) (r : Bool) (w : World) (h : dom_Of_1.f a = some r) :
  Calls Tryz.prog 71 #[.int .i64 a] w fun e w' => e = .returned (.bool r) ∧ Drawn0 w w' := by
 unfold dom_Of_1.f at h
 have H := h
 clear h
 replace H := bo_ H
 obtain ⟨b, c, H⟩ := H
 try dsimp only at H
 obtain rfl := si_ H
 go_enter Tryz.func71, Tryz.ntmps71
 go_wp2_with (first | ((with_reducible refine gate_callee (f := 57) rfl ?_); refine goesL_ (some 4) rfl rfl Tryz.func57 kr_ rfl #[.int .i64 a] rfl ar_ ?_; (with_reducible refine (dom_in.calls a b _ c.out).mono ?_); rintro e w' ⟨rfl, ⟨nd, rfl⟩⟩; refine ⟨_, rfl, ?_⟩))
 go_ret
 exact ⟨by first | rfl | (simp; done) | (simp [*]; done), by repeat (first | exact d0_ _ | apply Drawn0.step)⟩

/-! ### dom_room: function 74 -/
def dom_room.f (d : Int) (e : Int) : Option (Int × List Int × Int × Int × Int) := (dom_place.f d).bind fun c => ((dom_place.f e).bind fun a => ((dom_place.f d).bind fun b => (if 0 ≤ (wrap64 ((wrap64 (Int.tdiv (wrap64 (a - b)) 64)) + 1)) then (if (wrap64 ((wrap64 (Int.tdiv (wrap64 (a - b)) 64)) + 1) : Int).toNat ≤ 35184372088832 then (some (c, (List.replicate (wrap64 ((wrap64 (Int.tdiv (wrap64 (a - b)) 64)) + 1) : Int).toNat 0), 0, 0, 0)) else (none)) else (none))))
set_option maxHeartbeats 8000000 in
set_option maxRecDepth 100000 in
theorem dom_room.calls (v : Int) (x : Int) (y : Int) (z : List Int) (A : Int) (B : Int) (C : Int) (w : World) (h : dom_room.f v x = some (y, z, A, B, C)) :
  Calls Tryz.prog 74 #[.int .i64 v, .int .i64 x] w fun e w' => ∃ F : Value, e = .returned (.agg #[.int .i64 y, F, .int .i64 A, .int .i64 B, .int .i64 C]) ∧ Kd.R (Kd.int .u64) 87 w' w.heap.size (fun _ => True) F z ∧ Below w.heap.size w w' := by
 have hu61 := Tryz.underlying61
 have HB := a_ (Below.refl w.heap.size w)
 unfold dom_room.f at h
 have H := h
 clear h
 replace H := bo_ H
 obtain ⟨b, I, H⟩ := H
 try dsimp only at H
 replace H := bo_ H
 obtain ⟨q, J, H⟩ := H
 try dsimp only at H
 replace H := bo_ H
 obtain ⟨r, K, H⟩ := H
 try dsimp only at H
 obtain ⟨c, d⟩ : ∃ j_ : Int, (wrap64 ((wrap64 (Int.tdiv (wrap64 (q - r)) 64)) + 1)) = j_ := ⟨_, rfl⟩
 replace H : (if 0 ≤ (c) then (if (c : Int).toNat ≤ 35184372088832 then (some (b, (List.replicate (c : Int).toNat 0), 0, 0, 0)) else (none)) else (none)) = some (y, z, A, B, C) := by first | (rw [d] at H; exact H) | (simp only [d] at H ⊢; exact H)
 (try rw [d] at I)
 (try rw [d] at J)
 (try rw [d] at K)
 have hji6w : (IntKind.i64.wrap ((wrap64 (Int.tdiv (wrap64 (q - r)) 64)) + 1)) = c := (i64_w _).trans d
 by_cases c7 : 0 ≤ (c)
 rotate_left
 ·
  rw [ig_ c7] at H
  exact ab_ H
 rw [ip_ c7] at H
 have c7b0 := et_ c7
 have c7b1 : decide (0 ≤ (c)) = true := dt_ c7
 clear c7
 by_cases c8 : (c : Int).toNat ≤ 35184372088832
 rotate_left
 ·
  rw [ig_ c8] at H
  exact ab_ H
 rw [ip_ c8] at H
 have c8b0 := et_ c8
 have c8b1 : decide ((c : Int).toNat ≤ 35184372088832) = true := dt_ c8
 clear c8
 obtain ⟨m, g⟩ : ∃ y_ : List Int, y_ = (List.replicate (c : Int).toNat 0) := ⟨_, rfl⟩
 replace H : (some (b, m, 0, 0, 0)) = some (y, z, A, B, C) := h2_ H g
 have s := a_ g
 clear g
 simp only [Option.some.injEq, Prod.mk.injEq] at H
 obtain ⟨rfl, rfl, rfl, rfl, rfl⟩ := H
 go_enter Tryz.func74, Tryz.ntmps74
 go_wp2_with (first | ((with_reducible refine gate_dst (N := 4) rfl ?_); refine bxe_ (N := 4) (cs := #[.int .i64 0, .slice none 0 0, .int .i64 0, .int .i64 0, .int .i64 0]) (t := 61) ?_; intro l hg w9 hbox hb; have a := a_ (hbox); have E := a_ (by rw [hg]; exact (bz_ bel_) : w.heap.size ≤ l); have M := E; replace HB := hq_ hb; clear hb hbox hg) | ((with_reducible refine gate_callee (f := 59) rfl ?_); refine goesL_ (some 6) rfl rfl Tryz.func59 kr_ rfl #[.int .i64 v] rfl ar_ ?_; (with_reducible refine (dom_place.calls v b _ I.out).mono ?_); rintro e w' ⟨rfl, ⟨nd, rfl⟩⟩; refine ⟨_, rfl, ?_⟩; (try (rw [drewN_self w9]; generalize hq_ : World.drewN w9 _ = w9; replace a : Aside0 (w9.heap[l]? = some (.cells #[.int .i64 0, .slice none 0 0, .int .i64 0, .int .i64 0, .int .i64 0] 61 (0, 0))) := ⟨by rw [← hq_]; exact (bk_ a.out)⟩; replace HB : Aside0 (Below w.heap.size w w9) := ⟨by rw [← hq_]; exact bel_⟩; clear hq_)); (try (obtain ⟨_, _, _, _, _, _, _, _, _, _⟩ := cel5_ a.out))) | ((with_reducible refine gate_callee (f := 59) rfl ?_); refine goesL_ (some 8) rfl rfl Tryz.func59 kr_ rfl #[.int .i64 x] rfl ar_ ?_; (with_reducible refine (dom_place.calls x q _ J.out).mono ?_); rintro e w' ⟨rfl, ⟨nd, rfl⟩⟩; refine ⟨_, rfl, ?_⟩; (try (rw [drewN_self w9]; generalize hq_ : World.drewN w9 _ = w9; replace a : Aside0 (w9.heap[l]? = some (.cells #[.int .i64 0, .slice none 0 0, .int .i64 0, .int .i64 0, .int .i64 0] 61 (0, 0))) := ⟨by rw [← hq_]; exact (bk_ a.out)⟩; replace HB : Aside0 (Below w.heap.size w w9) := ⟨by rw [← hq_]; exact bel_⟩; clear hq_)); (try (obtain ⟨_, _, _, _, _, _, _, _, _, _⟩ := cel5_ a.out))) | ((with_reducible refine gate_callee (f := 59) rfl ?_); refine goesL_ (some 10) rfl rfl Tryz.func59 kr_ rfl #[.int .i64 v] rfl ar_ ?_; (with_reducible refine (dom_place.calls v r _ K.out).mono ?_); rintro e w' ⟨rfl, ⟨nd, rfl⟩⟩; refine ⟨_, rfl, ?_⟩; (try (rw [drewN_self w9]; generalize hq_ : World.drewN w9 _ = w9; replace a : Aside0 (w9.heap[l]? = some (.cells #[.int .i64 0, .slice none 0 0, .int .i64 0, .int .i64 0, .int .i64 0] 61 (0, 0))) := ⟨by rw [← hq_]; exact (bk_ a.out)⟩; replace HB : Aside0 (Below w.heap.size w w9) := ⟨by rw [← hq_]; exact bel_⟩; clear hq_)); (try (obtain ⟨_, _, _, _, _, _, _, _, _, _⟩ := cel5_ a.out))) | ((with_reducible refine gate_dst (N := 14) rfl ?_); refine Kd.R_make (Kd.int .u64) _ 87 rfl (N := 14) rfl 59 _ _ rfl c rfl rfl Tryz.underlying59 (.int .u64 0) 8 info87 rfl (by decide) (by omega) 0 (ok := fun _ => True) (okp := fun _ => True) rfl (fun _ hk => hk) trivial (dq_) (Nat.le_trans (Nat.mul_le_mul_right _ (dq_ : c.toNat ≤ 35184372088832)) (by omega)) (Below.refl _ _) (lr_ _) ?_; intro O w13 n hb hg_ hnew_; clear hg_ hnew_; (first | rw [← s.out] at n | (simp only [Int.reduceToNat] at n; rw [← s.out] at n)); have u := a_ (Kd.R_lower n (bz_ bel_)); replace a := a_ (bq_ a.out hb); replace HB := hq_ hb; clear hb n; obtain ⟨o, p, G⟩ := Kd.R_slice u.out; subst G; obtain ⟨_, _, _, _, _, _, _, _, _, _⟩ := cel5_ a.out))
 refine bodyPost_ret (results_cell_row rfl _ _ l 61 #[.int .i64 b, .slice o m.length p, .int .i64 0, .int .i64 0, .int .i64 0] (0, 0) _ rfl (by refine bk_ ?_; refine bu_ (cs := #[.int .i64 b, .slice o m.length p, .int .i64 0, .int .i64 0, .int .i64 0]) ?_ 4 _ rfl; refine bk_ ?_; refine bu_ (cs := #[.int .i64 b, .slice o m.length p, .int .i64 0, .int .i64 0, .int .i64 0]) ?_ 3 _ rfl; refine bk_ ?_; refine bu_ (cs := #[.int .i64 b, .slice o m.length p, .int .i64 0, .int .i64 0, .int .i64 0]) ?_ 2 _ rfl; refine bk_ ?_; refine bu_ (cs := #[.int .i64 b, .slice none 0 0, .int .i64 0, .int .i64 0, .int .i64 0]) ?_ 1 _ rfl; refine bk_ ?_; refine bu_ (cs := #[.int .i64 0, .slice none 0 0, .int .i64 0, .int .i64 0, .int .i64 0]) ?_ 0 _ rfl; refine bk_ ?_; exact a.out) Tryz.underlying61 rfl kr_) rfl ?_
 exact ⟨_, by first | rfl | (simp [errW_none, errW_some] <;> rfl) | (simp only [← d]; first | rfl | (simp [errW_none, errW_some] <;> rfl)) | (simp [*, errW_none, errW_some] <;> rfl), by refine vR_ ?_; exact rm_ (fR_ (fR_ (fR_ (fR_ (fR_ (rt_ u.out a.out (by decide))))))) (fun _ hk => trivial), bel_⟩

end Go.Proofs.YtbhhbgoamomacaaGreatDoor.XMulRefuses
