-- by xprint.py, a program of this session, over the kit's print
import Derived.Test.YtbhhbgoamomacaaGreatDoorXMRex0
import Derived.Test.YtbhhbgoamomacaaGreatDoorXMRex10
import Derived.Test.YtbhhbgoamomacaaGreatDoorXMRex11
import Derived.Test.YtbhhbgoamomacaaGreatDoorXMRex12
import Derived.Test.YtbhhbgoamomacaaGreatDoorSq
namespace Go.Proofs.YtbhhbgoamomacaaGreatDoor.XMulRefuses
open Go.RowKit Go.Proofs.YtbhhbgoamomacaaGreatDoor.Sq Go.Proofs.YtbhhbgoamomacaaGreatDoorW.PrintWords Go.Proofs.YtbhhbgoamomacaaGreatDoorW.PrintLast Go.Proofs.YtbhhbgoamomacaaGreatDoorW.PrintMore
attribute [local go_sem] max2_int min2_int max_two min_two max_three min_three max_four min_four   -- for this text's walks alone
set_option linter.unusedVariables false
set_option linter.unusedSimpArgs false

/-! ### slices_IndexFunc_int_int_101_at_dom_Of_1: function 101 -/
def slices_IndexFunc_int_int_101_at_dom_Of_1.l0 : Nat → List Int → Int → Int → Option (Int)
 | 0, _, _, _ => none
 | k + 1, b, d, a => if a < d then (if 0 ≤ a then (if a < (b.length : Int) then ((dom_Of_1.f (rd b a)).bind fun c => (if c = true then (some a) else (slices_IndexFunc_int_int_101_at_dom_Of_1.l0 k b d (wrap64 (a + 1))))) else (none)) else (none)) else (some (-1))
def slices_IndexFunc_int_int_101_at_dom_Of_1.f (k : Nat) (a : List Int)  : Option (Int) := slices_IndexFunc_int_int_101_at_dom_Of_1.l0 k a (a.length : Int) 0
theorem slices_IndexFunc_int_int_101_at_dom_Of_1.mono_l : ∀ k, (∀ a b c, LeO (slices_IndexFunc_int_int_101_at_dom_Of_1.l0 k a b c) (slices_IndexFunc_int_int_101_at_dom_Of_1.l0 (k + 1) a b c))
 | 0 => by intros; exact LeO.none _
 | k + 1 => by
  have ih0 := slices_IndexFunc_int_int_101_at_dom_Of_1.mono_l k
  intro a b c
  unfold slices_IndexFunc_int_int_101_at_dom_Of_1.l0
  exact leo_
theorem slices_IndexFunc_int_int_101_at_dom_Of_1.mono : ∀ a k, LeO (slices_IndexFunc_int_int_101_at_dom_Of_1.f k a) (slices_IndexFunc_int_int_101_at_dom_Of_1.f (k + 1) a) := by
 intro a k
 have ih0 := slices_IndexFunc_int_int_101_at_dom_Of_1.mono_l k
 unfold slices_IndexFunc_int_int_101_at_dom_Of_1.f
 exact leo_
set_option maxHeartbeats 8000000 in
set_option maxRecDepth 100000 in
theorem slices_IndexFunc_int_int_101_at_dom_Of_1.calls (k : Nat) (s : Option Addr) (c0 : Nat) (b : List Int)  (r : Int) (w : World) (m : Kd.C (Kd.int .i64) w s b.length b) (n : b.length ≤ c0) (h : slices_IndexFunc_int_int_101_at_dom_Of_1.f k b = some r) :
  Calls Tryz.prog 101 #[.slice s b.length c0, .func (.func 71) #[] #[]] w fun e w' => e = .returned (.int .i64 r) ∧ Drawn0 w w' := by
 have o := a_ m
 have v := a_ n
 clear m n
 unfold slices_IndexFunc_int_int_101_at_dom_Of_1.f at h
 have H := h
 clear h
 have H' := a_ H
 clear H
 go_enter Tryz.func101, Tryz.ntmps101
 go_wp2
 go_loopg [8] k (fun kq u w' => ∃ (a : Int), u = .int .i64 a ∧ Aside0 (slices_IndexFunc_int_int_101_at_dom_Of_1.l0 kq b (b.length : Int) a = some r) ∧ Aside0 (kq ≤ k) ∧ Drawn0 w w')
 case atStart => exact ⟨(0), eq_, H', ⟨lr_ _⟩, by repeat (first | exact d0_ _ | apply Drawn0.step)⟩
 clear H'
 try clear p2
 obtain ⟨a, rfl, HA, p, ⟨m1, rfl⟩⟩ := hrel
 cases gk with
 | zero => exact absurd HA.out (by simp [slices_IndexFunc_int_int_101_at_dom_Of_1.l0])
 | succ k1 =>
  have H := HA.out
  clear HA
  simp only [slices_IndexFunc_int_int_101_at_dom_Of_1.l0] at H
  by_cases c3 : a < (b.length : Int)
  rotate_left
  ·
   rw [ig_ c3] at H
   have c3b0 : decide (a < (b.length : Int)) = false := df_ c3
   clear c3
   obtain rfl := si_ H
   go_wp2
   go_ret
   exact ⟨by first | rfl | (simp; done) | (simp [*]; done), by repeat (first | exact d0_ _ | apply Drawn0.step)⟩
  rw [ip_ c3] at H
  have c3b0 : decide (a < (b.length : Int)) = true := dt_ c3
  clear c3
  by_cases c4 : 0 ≤ a
  rotate_left
  ·
   rw [ig_ c4] at H
   exact ab_ H
  rw [ip_ c4] at H
  have c4b0 : decide (0 ≤ a) = true := dt_ c4
  clear c4
  by_cases c5 : a < (b.length : Int)
  rotate_left
  ·
   rw [ig_ c5] at H
   exact ab_ H
  rw [ip_ c5] at H
  have c5b0 : decide (a < (b.length : Int)) = true := dt_ c5
  clear c5
  replace H := bo_ H
  obtain ⟨q, t, H⟩ := H
  try dsimp only at H
  by_cases c7 : q = true
  ·
   subst c7
   rw [ip_ rfl] at H
   obtain rfl := si_ H
   have p381 : 0 ≤ (a : Int) := dq_
   have c : a < (b.length : Int) := dq_
   obtain ⟨l, d, g⟩ := ai_ o.out a p381 c
   cases d
   replace p381 := et_ p381
   replace c := et_ c
   go_wp2_with (first | (go_at_call 71; (with_reducible refine (dom_Of_1.calls (rd b a) true _ t.out).mono ?_); rintro e w' ⟨rfl, ⟨nd, rfl⟩⟩))
   go_ret
   exact ⟨by first | rfl | (simp; done) | (simp [*]; done), by repeat (first | exact d0_ _ | apply Drawn0.step)⟩
  replace c7 := bf_.mpr c7
  subst c7
  have H1 : (slices_IndexFunc_int_int_101_at_dom_Of_1.l0 k1 b (b.length : Int) (wrap64 (a + 1))) = some r := by rw [ig_ (show ¬ (false = true) by decide)] at H; exact H
  clear H
  have H := H1
  clear H1
  have H' := a_ H
  clear H
  have p381 : 0 ≤ (a : Int) := dq_
  have c : a < (b.length : Int) := dq_
  obtain ⟨l, d, g⟩ := ai_ o.out a p381 c
  cases d
  replace p381 := et_ p381
  replace c := et_ c
  go_wp2_with (first | (go_at_call 71; (with_reducible refine (dom_Of_1.calls (rd b a) false _ t.out).mono ?_); rintro e w' ⟨rfl, ⟨nd, rfl⟩⟩))
  go_roundg k1
  case measure => have := p.out; omega
  exact ⟨(wrap64 (a + 1)), eq_, H', ⟨by have := p.out; omega⟩, by repeat (first | exact d0_ _ | apply Drawn0.step)⟩

/-! ### slices_ContainsFunc_int_int_70_at_dom_Of_1: function 70 -/
def slices_ContainsFunc_int_int_70_at_dom_Of_1.f (k : Nat) (b : List Int)  : Option (Bool) := (slices_IndexFunc_int_int_101_at_dom_Of_1.f k b).bind fun a => (some (decide (a ≥ 0)))
theorem slices_ContainsFunc_int_int_70_at_dom_Of_1.mono : ∀ a k, LeO (slices_ContainsFunc_int_int_70_at_dom_Of_1.f k a) (slices_ContainsFunc_int_int_70_at_dom_Of_1.f (k + 1) a) := by
 intro a k
 unfold slices_ContainsFunc_int_int_70_at_dom_Of_1.f
 have m0 := @slices_IndexFunc_int_int_101_at_dom_Of_1.mono
 exact leo_
set_option maxHeartbeats 8000000 in
set_option maxRecDepth 100000 in
theorem slices_ContainsFunc_int_int_70_at_dom_Of_1.calls (k : Nat) (d : Option Addr) (c0 : Nat) (a : List Int)  (r : Bool) (w : World) (b : Kd.C (Kd.int .i64) w d a.length a) (c : a.length ≤ c0) (h : slices_ContainsFunc_int_int_70_at_dom_Of_1.f k a = some r) :
  Calls Tryz.prog 70 #[.slice d a.length c0, .func (.func 71) #[] #[]] w fun e w' => e = .returned (.bool r) ∧ Drawn0 w w' := by
 have l := a_ b
 have m := a_ c
 clear b c
 unfold slices_ContainsFunc_int_int_70_at_dom_Of_1.f at h
 have H := h
 clear h
 replace H := bo_ H
 obtain ⟨g, n, H⟩ := H
 try dsimp only at H
 obtain rfl := si_ H
 go_enter Tryz.func70, Tryz.ntmps70
 go_wp2_with (first | ((with_reducible refine gate_callee (f := 101) rfl ?_); refine goesL_ (some 7) rfl rfl Tryz.func101 kr_ rfl #[.slice d a.length c0, .func (.func 71) #[] #[]] rfl ar_ ?_; (with_reducible refine (slices_IndexFunc_int_int_101_at_dom_Of_1.calls k _ _ a g _ ?_ ?_ n.out).mono ?_); exact ca_ (l.out); exact m.out; rintro e w' ⟨rfl, ⟨nd, rfl⟩⟩; refine ⟨_, rfl, ?_⟩))
 go_ret
 exact ⟨by first | rfl | (simp; done) | (simp [*]; done), by repeat (first | exact d0_ _ | apply Drawn0.step)⟩

/-! ### dom_Of: function 34 -/
def dom_Of.l0 : Nat → List Int → Int → Int → Int → List Int → Int → Int → Int → Option (Int × List Int × Int × Int × Int × Int)
 | 0, _, _, _, _, _, _, _, _ => none
 | k + 1, e, n, c, a, b, g, l, m => if c < n then (if 0 ≤ c then (if c < (e.length : Int) then (if 0 ≤ (wrap64 (Int.tdiv (wrap64 ((rd e c) - a)) 64)) then (if (wrap64 (Int.tdiv (wrap64 ((rd e c) - a)) 64)) < (b.length : Int) then (if 0 ≤ (Int.tmod (wrap64 ((rd e c) - a)) 64) then (dom_Of.l0 k e n (wrap64 (c + 1)) a (b.set ((wrap64 (Int.tdiv (wrap64 ((rd e c) - a)) 64)) : Int).toNat (Go.bits .or .u64 (rd b (wrap64 (Int.tdiv (wrap64 ((rd e c) - a)) 64))) (shl .u64 1 (Int.tmod (wrap64 ((rd e c) - a)) 64)))) g l m) else (none)) else (none)) else (none)) else (none)) else (none)) else ((dom_made.f k a b).bind fun d => (some (d.1, d.2.1, d.2.2.1, d.2.2.2.1, d.2.2.2.2, 0)))
def dom_Of.f (k : Nat) (b : List Int) : Option (Int × List Int × Int × Int × Int × Int) := if (b.length : Int) = 0 then (some (0, ([] : List Int), 0, 0, 0, 4)) else ((slices_ContainsFunc_int_int_70_at_dom_Of_1.f k b).bind fun c => (if c = true then (none) else ((slices_Max_int.f b).bind fun d => ((slices_Min_int.f b).bind fun e => (if (wrap64 (d - e)) ≥ 65536 then (none) else ((slices_Min_int.f b).bind fun g => ((slices_Max_int.f b).bind fun l => ((dom_room.f g l).bind fun a => (dom_Of.l0 k b (b.length : Int) 0 a.1 a.2.1 a.2.2.1 a.2.2.2.1 a.2.2.2.2)))))))))
theorem dom_Of.mono_l : ∀ k, (∀ a b c d e f g l, LeO (dom_Of.l0 k a b c d e f g l) (dom_Of.l0 (k + 1) a b c d e f g l))
 | 0 => by intros; exact LeO.none _
 | k + 1 => by
  have ih0 := dom_Of.mono_l k
  intro a b c d e f g l
  unfold dom_Of.l0
  have m0 := @dom_made.mono
  have m1 := @slices_ContainsFunc_int_int_70_at_dom_Of_1.mono
  exact leo_
theorem dom_Of.mono : ∀ a k, LeO (dom_Of.f k a) (dom_Of.f (k + 1) a) := by
 intro a k
 have ih0 := dom_Of.mono_l k
 unfold dom_Of.f
 have m0 := @dom_made.mono
 have m1 := @slices_ContainsFunc_int_int_70_at_dom_Of_1.mono
 exact leo_
def dom_Of.T11 : Bool × List (List Nat × List Nat) := (true, [([], []), ([0], [0]), ([], []), ([], []), ([3], [3]), ([2, 4], [2, 4]), ([5], [5]), ([1, 6], [1, 6]), ([7], [7]), ([], []), ([], []), ([10], [10]), ([9, 11], [9, 11]), ([12], [12]), ([13], [13]), ([8, 14], [8, 14]), ([1, 6, 0, 1, 2, 3, 4, 5, 6, 7, 8, 9, 10, 11, 12, 13, 14, 15], [1, 6]), ([16, 15, 0, 1, 2, 3, 4, 5, 6, 7, 8, 9, 10, 11, 12, 13, 14, 15], [15, 16])])
def dom_Of.B11 : List Nat := [0, 1, 0, 0, 8, 28, 60, 127, 255, 0, 0, 1024, 3584, 7680, 15872, 32767, 65535, 131071]
theorem dom_Of.tab11 : rtab .any (opsOf Tryz.f34 11) = dom_Of.T11 := by kernel_rfl
theorem dom_Of.bits11 : waitsOk dom_Of.T11.2 dom_Of.B11 = true := by kernel_rfl
set_option maxHeartbeats 8000000 in
set_option maxRecDepth 100000 in
theorem dom_Of.calls (k : Nat) (A0 : Option Addr) (c0 : Nat) (g : List Int) (r1 : Int) (r2 : List Int) (r3 : Int) (r4 : Int) (r5 : Int) (r6 : Int) (w : World) (aN : Kd.C (Kd.int .i64) w A0 g.length g) (aO : g.length ≤ c0) (hrtab : Kd.C (Kd.int .u8) w (some ⟨0, 0, none⟩) tabL.length tabL) (h : dom_Of.f k g = some (r1, r2, r3, r4, r5, r6)) :
  Calls Tryz.prog 34 #[.slice A0 g.length c0] w fun e w' => ∃ aP : Value, e = .returned (.tuple #[.agg #[.int .i64 r1, aP, .int .i64 r3, .int .i64 r4, .int .i64 r5], .int .i64 r6]) ∧ Kd.V (Kd.int .u64) 87 w' w.heap.size (fun u => (w.heap.size ≤ u)) aP r2 ∧ Below w.heap.size w w' := by
 have hu61 := Tryz.underlying61
 have Y := a_ aN
 have am := a_ aO
 clear aN aO
 have HRtab := a_ hrtab
 clear hrtab
 have HB := a_ (Below.refl w.heap.size w)
 unfold dom_Of.f at h
 have H := h
 clear h
 by_cases c2 : (g.length : Int) = 0
 ·
  rw [ip_ c2] at H
  have c2b0 : ((g.length : Int) == 0) = true := beq_iff_eq.mpr c2
  have c2b1 : ((g.length : Int) != 0) = false := bn_.mpr c2
  clear c2
  simp only [Option.some.injEq, Prod.mk.injEq] at H
  obtain ⟨rfl, rfl, rfl, rfl, rfl, rfl⟩ := H
  go_enter Tryz.func34, Tryz.ntmps34
  go_wp2_with (first | ((with_reducible refine gate_dst (N := 2) rfl ?_); refine bxe_ (N := 2) (cs := #[.int .i64 0, .slice none 0 0, .int .i64 0, .int .i64 0, .int .i64 0]) (t := 61) ?_; intro m hg w3 hbox hb; have b := a_ (hbox); have Z := a_ (by rw [hg]; exact (bz_ bel_) : w.heap.size ≤ m); have au := Z; replace HB := hq_ hb; clear hb hbox hg; obtain ⟨_, _, _, _, _, _, _, _, _, _⟩ := cel5_ b.out))
  refine bodyPost_ret (results_ct rfl _ _ m 61 #[.int .i64 0, .slice none 0 0, .int .i64 0, .int .i64 0, .int .i64 0] (0, 0) _ rfl (by refine bk_ ?_; refine bu_ (cs := #[.int .i64 0, .slice none 0 0, .int .i64 0, .int .i64 0, .int .i64 0]) ?_ 4 _ rfl; refine bk_ ?_; refine bu_ (cs := #[.int .i64 0, .slice none 0 0, .int .i64 0, .int .i64 0, .int .i64 0]) ?_ 3 _ rfl; refine bk_ ?_; refine bu_ (cs := #[.int .i64 0, .slice none 0 0, .int .i64 0, .int .i64 0, .int .i64 0]) ?_ 2 _ rfl; refine bk_ ?_; refine bu_ (cs := #[.int .i64 0, .slice none 0 0, .int .i64 0, .int .i64 0, .int .i64 0]) ?_ 1 _ rfl; refine bk_ ?_; refine bu_ (cs := #[.int .i64 0, .slice none 0 0, .int .i64 0, .int .i64 0, .int .i64 0]) ?_ 0 _ rfl; refine bk_ ?_; exact b.out) Tryz.underlying61 rfl kr_) rfl ?_
  exact ⟨_, er_, Kd.V_nil _ _ _ _ _, bel_⟩
 rw [ig_ c2] at H
 have c2b0 : ((g.length : Int) == 0) = false := be_.mpr c2
 have c2b1 : ((g.length : Int) != 0) = true := ni_.mpr c2
 have c2b2 : ¬ (g = []) := fun h_ => c2 (by rw [h_]; rfl)
 replace H := bo_ H
 obtain ⟨aR, A5, H⟩ := H
 try dsimp only at H
 by_cases c6 : aR = true
 ·
  subst c6
  rw [ip_ rfl] at H
  exact ab_ H
 replace c6 := bf_.mpr c6
 subst c6
 have H1 : ((slices_Max_int.f g).bind fun P => ((slices_Min_int.f g).bind fun Q => (if (wrap64 (P - Q)) ≥ 65536 then (none) else ((slices_Min_int.f g).bind fun U => ((slices_Max_int.f g).bind fun W => ((dom_room.f U W).bind fun z => (dom_Of.l0 k g (g.length : Int) 0 z.1 z.2.1 z.2.2.1 z.2.2.2.1 z.2.2.2.2))))))) = some (r1, r2, r3, r4, r5, r6) := by rw [ig_ (show ¬ (false = true) by decide)] at H; exact H
 clear H
 have H := H1
 clear H1
 replace H := bo_ H
 obtain ⟨P, A7, H⟩ := H
 try dsimp only at H
 replace H := bo_ H
 obtain ⟨Q, A8, H⟩ := H
 try dsimp only at H
 by_cases c9 : (wrap64 (P - Q)) ≥ 65536
 ·
  rw [ip_ c9] at H
  exact ab_ H
 rw [ig_ c9] at H
 have c9b0 : decide (65536 ≤ (wrap64 (P - Q))) = false := df_ c9
 clear c9
 replace H := bo_ H
 obtain ⟨U, aX, H⟩ := H
 try dsimp only at H
 replace H := bo_ H
 obtain ⟨W, aY, H⟩ := H
 try dsimp only at H
 replace H := bs_.mp H
 obtain ⟨⟨o, B, s, v, x⟩, ax, H⟩ := H
 try dsimp only at H
 have aZ := a_ ax
 clear ax
 have H' := a_ H
 clear H
 go_enter Tryz.func34, Tryz.ntmps34
 go_wp2_with (first | ((with_reducible refine gate_dst (N := 2) rfl ?_); refine bxe_ (N := 2) (cs := #[.int .i64 0, .slice none 0 0, .int .i64 0, .int .i64 0, .int .i64 0]) (t := 61) ?_; intro m hg w13 hbox hb; have b := a_ (hbox); have Z := a_ (by rw [hg]; exact (bz_ bel_) : w.heap.size ≤ m); have au := Z; replace HB := hq_ hb; clear hb hbox hg) | ((with_reducible refine gate_callee (f := 70) rfl ?_); refine goesL_ (some 14) rfl rfl Tryz.func70 kr_ rfl #[.slice A0 g.length c0, .func (.func 71) #[] #[]] rfl ar_ ?_; (with_reducible refine (slices_ContainsFunc_int_int_70_at_dom_Of_1.calls k _ _ g false _ ?_ ?_ A5.out).mono ?_); exact ca_ ((cb_ Y.out HB.out)); exact am.out; rintro e w' ⟨rfl, ⟨nd, rfl⟩⟩; refine ⟨_, rfl, ?_⟩; (try (rw [drewN_self w13]; generalize hq_ : World.drewN w13 _ = w13; replace b : Aside0 (w13.heap[m]? = some (.cells #[.int .i64 0, .slice none 0 0, .int .i64 0, .int .i64 0, .int .i64 0] 61 (0, 0))) := ⟨by rw [← hq_]; exact (bk_ b.out)⟩; replace HB : Aside0 (Below w.heap.size w w13) := ⟨by rw [← hq_]; exact bel_⟩; clear hq_)); (try (obtain ⟨_, _, _, _, _, _, _, _, _, _⟩ := cel5_ b.out))) | ((with_reducible refine gate_callee (f := 72) rfl ?_); refine goesL_ (some 18) rfl rfl Tryz.func72 kr_ rfl #[.slice A0 g.length c0] rfl ar_ ?_; (with_reducible refine (slices_Max_int.calls _ _ g P _ ?_ ?_ A7.out).mono ?_); exact ca_ ((cb_ Y.out HB.out)); exact am.out; rintro e w' ⟨rfl, ⟨nd, rfl⟩⟩; refine ⟨_, rfl, ?_⟩; (try (rw [drewN_self w13]; generalize hq_ : World.drewN w13 _ = w13; replace b : Aside0 (w13.heap[m]? = some (.cells #[.int .i64 0, .slice none 0 0, .int .i64 0, .int .i64 0, .int .i64 0] 61 (0, 0))) := ⟨by rw [← hq_]; exact (bk_ b.out)⟩; replace HB : Aside0 (Below w.heap.size w w13) := ⟨by rw [← hq_]; exact bel_⟩; clear hq_)); (try (obtain ⟨_, _, _, _, _, _, _, _, _, _⟩ := cel5_ b.out))) | ((with_reducible refine gate_callee (f := 73) rfl ?_); refine goesL_ (some 20) rfl rfl Tryz.func73 kr_ rfl #[.slice A0 g.length c0] rfl ar_ ?_; (with_reducible refine (slices_Min_int.calls _ _ g Q _ ?_ ?_ A8.out).mono ?_); exact ca_ ((cb_ Y.out HB.out)); exact am.out; rintro e w' ⟨rfl, ⟨nd, rfl⟩⟩; refine ⟨_, rfl, ?_⟩; (try (rw [drewN_self w13]; generalize hq_ : World.drewN w13 _ = w13; replace b : Aside0 (w13.heap[m]? = some (.cells #[.int .i64 0, .slice none 0 0, .int .i64 0, .int .i64 0, .int .i64 0] 61 (0, 0))) := ⟨by rw [← hq_]; exact (bk_ b.out)⟩; replace HB : Aside0 (Below w.heap.size w w13) := ⟨by rw [← hq_]; exact bel_⟩; clear hq_)); (try (obtain ⟨_, _, _, _, _, _, _, _, _, _⟩ := cel5_ b.out))) | ((with_reducible refine gate_callee (f := 73) rfl ?_); refine goesL_ (some 25) rfl rfl Tryz.func73 kr_ rfl #[.slice A0 g.length c0] rfl ar_ ?_; (with_reducible refine (slices_Min_int.calls _ _ g U _ ?_ ?_ aX.out).mono ?_); exact ca_ ((cb_ Y.out HB.out)); exact am.out; rintro e w' ⟨rfl, ⟨nd, rfl⟩⟩; refine ⟨_, rfl, ?_⟩; (try (rw [drewN_self w13]; generalize hq_ : World.drewN w13 _ = w13; replace b : Aside0 (w13.heap[m]? = some (.cells #[.int .i64 0, .slice none 0 0, .int .i64 0, .int .i64 0, .int .i64 0] 61 (0, 0))) := ⟨by rw [← hq_]; exact (bk_ b.out)⟩; replace HB : Aside0 (Below w.heap.size w w13) := ⟨by rw [← hq_]; exact bel_⟩; clear hq_)); (try (obtain ⟨_, _, _, _, _, _, _, _, _, _⟩ := cel5_ b.out))) | ((with_reducible refine gate_callee (f := 72) rfl ?_); refine goesL_ (some 27) rfl rfl Tryz.func72 kr_ rfl #[.slice A0 g.length c0] rfl ar_ ?_; (with_reducible refine (slices_Max_int.calls _ _ g W _ ?_ ?_ aY.out).mono ?_); exact ca_ ((cb_ Y.out HB.out)); exact am.out; rintro e w' ⟨rfl, ⟨nd, rfl⟩⟩; refine ⟨_, rfl, ?_⟩; (try (rw [drewN_self w13]; generalize hq_ : World.drewN w13 _ = w13; replace b : Aside0 (w13.heap[m]? = some (.cells #[.int .i64 0, .slice none 0 0, .int .i64 0, .int .i64 0, .int .i64 0] 61 (0, 0))) := ⟨by rw [← hq_]; exact (bk_ b.out)⟩; replace HB : Aside0 (Below w.heap.size w w13) := ⟨by rw [← hq_]; exact bel_⟩; clear hq_)); (try (obtain ⟨_, _, _, _, _, _, _, _, _, _⟩ := cel5_ b.out))) | ((with_reducible refine gate_callee (f := 74) rfl ?_); refine goesL_ (some 28) rfl rfl Tryz.func74 kr_ rfl #[.int .i64 U, .int .i64 W] rfl ar_ ?_; (with_reducible refine (dom_room.calls U W o B s v x _ aZ.out).mono ?_); rintro e w19 ⟨bb, rfl, an, hb⟩; refine ⟨_, rfl, ?_⟩; have J := a_ (Kd.R_lower (Kd.R_newM (M := fun u => (w.heap.size ≤ u)) an (bz_ bel_) (fun u h_ => h_)) (bz_ bel_)); replace b := a_ (bq_ b.out hb); replace HB := hq_ hb; clear hb an) | ((with_reducible refine gate_dst (N := 4) rfl ?_); refine bxe_ (N := 4) (cs := #[.int .i64 0, .slice none 0 0, .int .i64 0, .int .i64 0, .int .i64 0]) (t := 61) ?_; intro q hg w20 hbox hb; replace J := a_ (rb_ (vR_ J.out) hb); have l := a_ (hbox); have aK := a_ (by rw [hg]; exact (bz_ bel_) : w.heap.size ≤ q); have aL := aK; replace HB := hq_ hb; have p := a_ ((by rw [hg]; exact Nat.ne_of_lt (blk_lt (bk_ b.out)) : m ≠ q)); have I := a_ ((by rw [hg]; exact Nat.ne_of_gt (blk_lt (bk_ b.out)) : q ≠ m)); replace b := a_ (bq_ b.out hb); clear hb hbox hg; have a2 := I.out; have a3 := p.out; obtain ⟨_, _, _, _, _, _, _, _, _, _⟩ := cel5_ l.out; obtain ⟨aa, ab, aS⟩ := Kd.R_slice J.out; subst aS))
 go_loopg [31] k (fun kq a0 w' => ∃ (c : Int) (a : List Int) (u398001 : Value), a0 = .int .i64 c ∧ Aside0 (dom_Of.l0 kq g (g.length : Int) c o a s v x = some (r1, r2, r3, r4, r5, r6)) ∧ Aside0 (kq ≤ k) ∧ Aside0 (Kd.R (Kd.int .u64) 87 w' w.heap.size (fun u => (w.heap.size ≤ u)) u398001 a) ∧ Aside0 (w'.heap[m]? = some (.cells #[.int .i64 0, (.slice none 0 0), .int .i64 0, .int .i64 0, .int .i64 0] 61 (0, 0))) ∧ Aside0 (w'.heap[q]? = some (.cells #[.int .i64 o, u398001, .int .i64 s, .int .i64 v, .int .i64 x] 61 (0, 0))) ∧ Aside0 (Below w.heap.size w w'))
 case atStart => exact ⟨(0), (B), (.slice aa B.length ab), eq_, H', ⟨lr_ _⟩, ⟨by refine vR_ ?_; exact rm_ (fR_ (fR_ (fR_ (fR_ (fR_ (rt_ J.out l.out (by decide))))))) (fun _ hk => hk.1.1)⟩, ⟨by refine bk_ ?_; refine blk_far ?_ p.out _; refine bk_ ?_; refine blk_far ?_ p.out _; refine bk_ ?_; refine blk_far ?_ p.out _; refine bk_ ?_; refine blk_far ?_ p.out _; refine bk_ ?_; refine blk_far ?_ p.out _; refine bk_ ?_; exact b.out⟩, ⟨by refine bk_ ?_; refine bu_ (cs := #[.int .i64 o, .slice aa B.length ab, .int .i64 s, .int .i64 v, .int .i64 0]) ?_ 4 _ rfl; refine bk_ ?_; refine bu_ (cs := #[.int .i64 o, .slice aa B.length ab, .int .i64 s, .int .i64 0, .int .i64 0]) ?_ 3 _ rfl; refine bk_ ?_; refine bu_ (cs := #[.int .i64 o, .slice aa B.length ab, .int .i64 0, .int .i64 0, .int .i64 0]) ?_ 2 _ rfl; refine bk_ ?_; refine bu_ (cs := #[.int .i64 o, .slice none 0 0, .int .i64 0, .int .i64 0, .int .i64 0]) ?_ 1 _ rfl; refine bk_ ?_; refine bu_ (cs := #[.int .i64 0, .slice none 0 0, .int .i64 0, .int .i64 0, .int .i64 0]) ?_ 0 _ rfl; refine bk_ ?_; exact l.out⟩, ⟨bel_⟩⟩
 clear H'
 try clear c2
 try clear c2b0
 try clear c2b1
 try clear c2b2
 try clear p2
 try clear c3
 try clear c6
 try clear p6
 try clear c7
 try clear c9
 try clear c9b0
 try clear c21
 obtain ⟨c, a, u398001, rfl, HA, aQ, HO_398001, b, l, HB⟩ := hrel
 cases gk with
 | zero => exact absurd HA.out (by simp [dom_Of.l0])
 | succ k1 =>
  have H := HA.out
  clear HA
  simp only [dom_Of.l0] at H
  by_cases c24 : c < (g.length : Int)
  rotate_left
  ·
   rw [ig_ c24] at H
   have c24b0 : decide (c < (g.length : Int)) = false := df_ c24
   clear c24
   replace H := bs_.mp H
   obtain ⟨⟨G, X, ad, ar, aG⟩, aH, H⟩ := H
   try dsimp only at H
   have a1 := a_ aH
   clear aH
   simp only [Option.some.injEq, Prod.mk.injEq] at H
   obtain ⟨rfl, rfl, rfl, rfl, rfl, rfl⟩ := H
   have a6 := I.out
   have a7 := p.out
   obtain ⟨_, _, _, _, _, _, _, _, _, _⟩ := cel5_ l.out
   obtain ⟨aI, aJ, aV⟩ := Kd.R_slice HO_398001.out
   subst aV
   go_wp2_with (first | ((with_reducible refine gate_callee (f := 75) rfl ?_); refine goesL_ (some 57) rfl rfl Tryz.func75 kr_ rfl #[.int .i64 o, .slice aI a.length aJ] rfl ar_ ?_; (with_reducible refine (dom_made.calls k1 o (fun u => some u = (.slice aI a.length aJ : Value).ownBlock) _ _ a G X ad ar aG _ ?_ ?_ a1.out).mono ?_); exact Kd.R_V (Kd.R_tight rfl (rt_ (rt_ (HO_398001.out) b.out (by decide)) l.out (by decide))); exact ca_ ((cb_ HRtab.out HB.out)); rintro e w41 ⟨be, rfl, an, hb⟩; refine ⟨_, rfl, ?_⟩; have aw := a_ (Kd.V_lower (vm_ (ok' := fun u => (w.heap.size ≤ u) ∧ u ≠ m ∧ u ≠ q) an (fun u hk_ => ⟨Or.elim hk_ (fun hs_ => ((rt_ (rt_ (HO_398001.out) b.out (by decide)) l.out (by decide)).1 u hs_.symm).1.1) (fun hn_ => (Nat.le_trans (bz_ bel_) hn_)), Or.elim hk_ (fun hs_ => ((rt_ (rt_ (HO_398001.out) b.out (by decide)) l.out (by decide)).1 u hs_.symm).1.2) (fun hn_ => (Kd.freshB (bk_ b.out) u hn_)), Or.elim hk_ (fun hs_ => ((rt_ (rt_ (HO_398001.out) b.out (by decide)) l.out (by decide)).1 u hs_.symm).2) (fun hn_ => (Kd.freshB (bk_ l.out) u hn_))⟩)) (bz_ bel_)); replace b := a_ (bq_ b.out hb); replace HB := hq_ hb; clear hb an; obtain ⟨_, _, _, _, _, _, _, _, _, _⟩ := cel5_ b.out; obtain ⟨ae, af, aW⟩ := Kd.V_slice aw.out; subst aW))
   refine bodyPost_ret (results_ct rfl _ _ m 61 #[.int .i64 G, .slice ae X.length af, .int .i64 ad, .int .i64 ar, .int .i64 aG] (0, 0) _ rfl (by refine bk_ ?_; refine bu_ (cs := #[.int .i64 G, .slice ae X.length af, .int .i64 ad, .int .i64 ar, .int .i64 0]) ?_ 4 _ rfl; refine bk_ ?_; refine bu_ (cs := #[.int .i64 G, .slice ae X.length af, .int .i64 ad, .int .i64 0, .int .i64 0]) ?_ 3 _ rfl; refine bk_ ?_; refine bu_ (cs := #[.int .i64 G, .slice ae X.length af, .int .i64 0, .int .i64 0, .int .i64 0]) ?_ 2 _ rfl; refine bk_ ?_; refine bu_ (cs := #[.int .i64 G, .slice none 0 0, .int .i64 0, .int .i64 0, .int .i64 0]) ?_ 1 _ rfl; refine bk_ ?_; refine bu_ (cs := #[.int .i64 0, .slice none 0 0, .int .i64 0, .int .i64 0, .int .i64 0]) ?_ 0 _ rfl; refine bk_ ?_; exact b.out) Tryz.underlying61 rfl kr_) rfl ?_
   exact ⟨_, er_, by refine vV_ ?_; exact vm_ (fV_ (fV_ (fV_ (fV_ (fV_ (vm_ aw.out (fun u hk => (⟨hk, hk.2.1⟩ : _ ∧ u ≠ m)))))))) (fun _ hk => hk.1.1), bel_⟩
  rw [ip_ c24] at H
  have c24b0 : decide (c < (g.length : Int)) = true := dt_ c24
  clear c24
  by_cases c25 : 0 ≤ c
  rotate_left
  ·
   rw [ig_ c25] at H
   exact ab_ H
  rw [ip_ c25] at H
  have c25b0 : decide (0 ≤ c) = true := dt_ c25
  clear c25
  by_cases c26 : c < (g.length : Int)
  rotate_left
  ·
   rw [ig_ c26] at H
   exact ab_ H
  rw [ip_ c26] at H
  have c26b0 : decide (c < (g.length : Int)) = true := dt_ c26
  clear c26
  obtain ⟨d, ac⟩ : ∃ j_ : Int, (wrap64 (Int.tdiv (wrap64 ((rd g c) - o)) 64)) = j_ := ⟨_, rfl⟩
  replace H : (if 0 ≤ (d) then (if (d) < (a.length : Int) then (if 0 ≤ (Int.tmod (wrap64 ((rd g c) - o)) 64) then (dom_Of.l0 k1 g (g.length : Int) (wrap64 (c + 1)) o (a.set ((d) : Int).toNat (Go.bits .or .u64 (rd a (d)) (shl .u64 1 (Int.tmod (wrap64 ((rd g c) - o)) 64)))) s v x) else (none)) else (none)) else (none)) = some (r1, r2, r3, r4, r5, r6) := by first | (rw [ac] at H; exact H) | (simp only [ac] at H ⊢; exact H)
  have hji27w : (IntKind.i64.wrap (Int.tdiv (wrap64 ((rd g c) - o)) 64)) = d := (i64_w _).trans ac
  by_cases c28 : 0 ≤ (d)
  rotate_left
  ·
   rw [ig_ c28] at H
   exact ab_ H
  rw [ip_ c28] at H
  have c28b0 : decide (0 ≤ (d)) = true := dt_ c28
  clear c28
  by_cases c29 : (d) < (a.length : Int)
  rotate_left
  ·
   rw [ig_ c29] at H
   exact ab_ H
  rw [ip_ c29] at H
  have c29b0 : decide ((d) < (a.length : Int)) = true := dt_ c29
  clear c29
  obtain ⟨r, av⟩ : ∃ j_ : Int, (Int.tmod (wrap64 ((rd g c) - o)) 64) = j_ := ⟨_, rfl⟩
  replace H : (if 0 ≤ (r) then (dom_Of.l0 k1 g (g.length : Int) (wrap64 (c + 1)) o (a.set ((d) : Int).toNat (Go.bits .or .u64 (rd a (d)) (shl .u64 1 (r)))) s v x) else (none)) = some (r1, r2, r3, r4, r5, r6) := by first | (rw [av] at H; exact H) | (simp only [av] at H ⊢; exact H)
  by_cases c31 : 0 ≤ (r)
  rotate_left
  ·
   rw [ig_ c31] at H
   exact ab_ H
  rw [ip_ c31] at H
  have c31b0 := et_ c31
  have c31b1 : decide (0 ≤ (r)) = true := dt_ c31
  clear c31
  obtain ⟨y, O⟩ : ∃ j_ : Int, (shl .u64 1 (r)) = j_ := ⟨_, rfl⟩
  replace H : (dom_Of.l0 k1 g (g.length : Int) (wrap64 (c + 1)) o (a.set ((d) : Int).toNat (Go.bits .or .u64 (rd a (d)) (y))) s v x) = some (r1, r2, r3, r4, r5, r6) := by first | (rw [O] at H; exact H) | (simp only [O] at H ⊢; exact H)
  have ay : (IntKind.u64.wrap (1 * 2 ^ min (r).toNat 64)) = y := O
  have hji32z : (r) ≤ 64 → (IntKind.u64.wrap (1 * 2 ^ (r).toNat)) = y := shl_small O
  have hji32u : (IntKind.u64.wrap (2 ^ min (r).toNat 64)) = y := by have h_ := ay; rw [Int.one_mul] at h_; exact h_
  have hji32v : (r) ≤ 64 → (IntKind.u64.wrap (2 ^ (r).toNat)) = y := fun hle_ => by have h_ := hji32z hle_; rw [Int.one_mul] at h_; exact h_
  obtain ⟨az, A⟩ : ∃ y_ : List Int, y_ = (a.set ((d) : Int).toNat (Go.bits .or .u64 (rd a (d)) (y))) := ⟨_, rfl⟩
  replace H : (dom_Of.l0 k1 g (g.length : Int) (wrap64 (c + 1)) o az s v x) = some (r1, r2, r3, r4, r5, r6) := h2_ H A
  have aM := a_ A
  clear A
  have H' := a_ H
  clear H
  have p398 : 0 ≤ (c : Int) := dq_
  have ap : c < (g.length : Int) := dq_
  obtain ⟨a4, aT, E⟩ := ai_ Y.out c p398 ap
  cases aT
  replace E := hx_ HB E
  replace p398 := et_ p398
  replace ap := et_ ap
  try go_wp2
  replace HO_398001 := a_ (Kd.R_drew HO_398001.out)
  replace b := a_ (blk_drew b.out)
  replace l := a_ (blk_drew l.out)
  replace HB := a_ (below_drew1 HB.out)
  obtain ⟨bc, aA, aB⟩ := Kd.R_slice HO_398001.out
  (first | subst aB | (injection aB with f1_ f2_ f3_; have f4_ := f1_.symm; have f5_ := f3_.symm; clear f1_ f2_ f3_; subst f4_; subst f5_))
  have p399 : 0 ≤ ((d) : Int) := dq_
  have aq : (d) < (a.length : Int) := dq_
  obtain ⟨a5, aU, F⟩ := ai_ (rr_ HO_398001.out).2.2 (d) p399 aq
  cases aU
  replace p399 := et_ p399
  replace aq := et_ aq
  have p33 : 0 ≤ ((d) : Int) := dq_
  have aC : ((d) : Int) < ((a.length : Int) : Int) := dq_
  obtain ⟨go33, bd, aD, aE, gl33, cl33, HG33⟩ := Kd.R_form HO_398001.out (by omega)
  (first | cases aD | (injection aD with ea_ en_ ec_; (first | subst ea_ | (injection ea_ with ea_; subst ea_)); subst ec_; clear en_))
  have GB33 := a_ aE
  have GG33 := a_ HG33
  clear aE gl33 HG33
  (first | simp only [add_plain] at F | skip)
  obtain ⟨aF, hf33_0⟩ := Kd.R_celln 0 HO_398001.out ((d) : Int) p33 aC
  replace p33 := et_ p33
  replace aC := et_ aC
  have HP36 := Kd.R_putn HO_398001.out ((d) : Int) (Go.bits .or .u64 (rd a (d)) (y))
  rw [← aM.out] at HP36
  have HQ36 := a_ HP36
  clear HP36
  refine start_ (n := 18) (S := fun w' => w'.cell? ⟨q, 0, none⟩ = some (.int .i64 o) ∧ w'.cell? ⟨q, 1, none⟩ = some (.slice (some ⟨go33, 0, none⟩) a.length aA) ∧ w'.cell? ⟨q, 2, none⟩ = some (.int .i64 s) ∧ w'.cell? ⟨q, 3, none⟩ = some (.int .i64 v) ∧ w'.cell? ⟨q, 4, none⟩ = some (.int .i64 x) ∧ w'.cell? ⟨go33, ((d)).toNat, none⟩ = some (.int .u64 (rd a (d)))) (ds := [17]) #[false, false, false, false, false, false, false, false, false, false, false, false, false, false, false, false, false, false] kr_ rfl rfl (cb5_ l.out (F)) (fun hHeld => ?_); refine with_tabW dom_Of.tab11 dom_Of.bits11 (fun HT_ HW_ => ?_)
  generalize wr.drew = w34 at HO_398001 b l HB GG33 HQ36 hf33_0 aF F hHeld ⊢
  refine pn_ 0 35 ao_ ?_
  refine pn_ 2 37 ao_ ?_
  refine pn_ 3 38 ao_ ?_
  refine pn_ 9 44 ao_ ?_
  refine pn_ 10 45 ao_ ?_
  refine tn_ 1 36 tw_ hHeld ?_
  refine tn_ 4 39 tw_ hHeld ?_
  refine pn_ 5 40 ao_ ?_
  refine pn_ 6 41 ao_ ?_
  refine pn_ 7 42 ao_ ?_
  refine tn_ 8 43 tw_ hHeld ?_
  refine tn_ 11 46 tw_ hHeld ?_
  refine pn_ 12 47 ao_ ?_
  refine pn_ 13 48 ao_ ?_
  refine pn_ 14 49 ao_ ?_
  refine pn_ 15 50 ao_ ?_
  refine pn_ 16 51 ao_ ?_
  refine last_ (i := 17) (N := none) #[true, true, true, true, true, true, true, true, true, true, true, true, true, true, true, true, true, true] rfl rfl on_ (by decide) (fun K hK => ?_)
  refine skip_ (w1 := ?_) (by rfl) rfl ?_ ?_
  rotate_left
  ·
   go_simp
   rfl
  refine hK.out _ _ ?_
  clear hK K
  refine done_ dn_ ?_
  try go_wp2
  go_roundg k1
  case measure => have := aQ.out; omega
  exact ⟨(wrap64 (c + 1)), (az), (.slice (some ⟨go33, 0, none⟩) a.length aA), eq_, H', ⟨by have := aQ.out; omega⟩, ⟨vR_ HQ36.out⟩, ⟨by refine bk_ ?_; refine blk_far ?_ (by have h_ := Kd.R_ne HO_398001.out b.out (by decide); intro e_; exact h_ (by rw [e_]; rfl)) _; refine bk_ ?_; exact b.out⟩, ⟨by refine bk_ ?_; refine blk_far ?_ (by have h_ := Kd.R_ne HO_398001.out l.out (by decide); intro e_; exact h_ (by rw [e_]; rfl)) _; refine bk_ ?_; exact l.out⟩, ⟨by repeat (first | (with_reducible first | exact HB.out | apply below_alloc | apply pw_below_drewN | apply below_drew1 | refine below_set ?_ GB33.out | refine below_set ?_ au.out | refine below_set ?_ aL.out) | exact HB.out)⟩⟩

/-! ### prop_Made: function 69 -/
def prop_Made.l0 : Nat → List (S61) → List (List Int) → Int → Int → Option ((List (S61)) × Bool)
 | 0, _, _, _, _ => none
 | k + 1, d, e, c, b => if b < c then (if 0 ≤ b then (if b < (e.length : Int) then ((dom_Of.f k (rd_L7 e b)).bind fun a => (if a.2.2.2.2.2 = 0 then (if d.length < 2513169434916 then (prop_Made.l0 k (d ++ [(⟨a.1, a.2.1, a.2.2.1, a.2.2.2.1, a.2.2.2.2.1⟩ : S61)]) e c (wrap64 (b + 1))) else (none)) else (some (([] : List (S61)), false)))) else (none)) else (none)) else (some (d, true))
def prop_Made.f (k : Nat) (a : List (List Int)) : Option ((List (S61)) × Bool) := prop_Made.l0 k ([] : List (S61)) a (a.length : Int) 0
theorem prop_Made.mono_l : ∀ k, (∀ a b c d, LeO (prop_Made.l0 k a b c d) (prop_Made.l0 (k + 1) a b c d))
 | 0 => by intros; exact LeO.none _
 | k + 1 => by
  have ih0 := prop_Made.mono_l k
  intro a b c d
  unfold prop_Made.l0
  have m0 := @dom_Of.mono
  exact leo_
theorem prop_Made.mono : ∀ a k, LeO (prop_Made.f k a) (prop_Made.f (k + 1) a) := by
 intro a k
 have ih0 := prop_Made.mono_l k
 unfold prop_Made.f
 have m0 := @dom_Of.mono
 exact leo_
set_option maxHeartbeats 8000000 in
set_option maxRecDepth 100000 in
theorem prop_Made.calls (k : Nat) (A0 : Option Addr) (c0 : Nat) (q : List (List Int)) (U : List (S61)) (W : Bool) (w : World) (ab : Kd.C (Kd.slice 3 (Kd.int .i64)) w A0 q.length q) (ac : q.length ≤ c0) (hrtab : Kd.C (Kd.int .u8) w (some ⟨0, 0, none⟩) tabL.length tabL) (h : prop_Made.f k q = some (U, W)) :
  Calls Tryz.prog 69 #[.slice A0 q.length c0] w fun e w' => ∃ ad : Value, e = .returned (.tuple #[ad, .bool W]) ∧ Kd.N k61 61 w' w.heap.size (fun d => (w.heap.size ≤ d)) ad U ∧ Below w.heap.size w w' := by
 have hu61 := Tryz.underlying61
 have ae := a_ ab
 have ar := a_ ac
 clear ab ac
 have HRtab := a_ hrtab
 clear hrtab
 have HB := a_ (Below.refl w.heap.size w)
 unfold prop_Made.f at h
 have H := h
 clear h
 have H' := a_ H
 clear H
 go_enter Tryz.func69, Tryz.ntmps69
 go_wp2
 go_loopg [4, 11] k (fun kq v4 al w' => ∃ (z : List (S61)) (a : Int), al = .int .i64 a ∧ Aside0 (prop_Made.l0 kq z q (q.length : Int) a = some (U, W)) ∧ Aside0 (kq ≤ k) ∧ Aside0 (Kd.N k61 61 w' w.heap.size (fun d => (w.heap.size ≤ d)) v4 z) ∧ Aside0 (Below w.heap.size w w'))
 case atStart => exact ⟨(([] : List (S61))), (0), eq_, H', ⟨lr_ _⟩, ⟨nil_⟩, ⟨bel_⟩⟩
 clear H'
 obtain ⟨z, a, rfl, HA, af, HO_4, HB⟩ := hrel
 cases gk with
 | zero => exact absurd HA.out (by simp [prop_Made.l0])
 | succ k1 =>
  have H := HA.out
  clear HA
  simp only [prop_Made.l0] at H
  by_cases c2 : a < (q.length : Int)
  rotate_left
  ·
   rw [ig_ c2] at H
   have c2b0 : decide (a < (q.length : Int)) = false := df_ c2
   clear c2
   simp only [Option.some.injEq, Prod.mk.injEq] at H
   obtain ⟨rfl, rfl⟩ := H
   go_wp2
   go_ret2
   exact ⟨_, er_, vN_ HO_4.out, bel_⟩
  rw [ip_ c2] at H
  have c2b0 : decide (a < (q.length : Int)) = true := dt_ c2
  clear c2
  by_cases c3 : 0 ≤ a
  rotate_left
  ·
   rw [ig_ c3] at H
   exact ab_ H
  rw [ip_ c3] at H
  have c3b0 : decide (0 ≤ a) = true := dt_ c3
  clear c3
  by_cases c4 : a < (q.length : Int)
  rotate_left
  ·
   rw [ig_ c4] at H
   exact ab_ H
  rw [ip_ c4] at H
  have c4b0 : decide (a < (q.length : Int)) = true := dt_ c4
  clear c4
  replace H := bs_.mp H
  obtain ⟨⟨n, l, o, u, y, A⟩, ag, H⟩ := H
  try dsimp only at H
  have A5 := a_ ag
  clear ag
  by_cases c6 : A = 0
  rotate_left
  ·
   rw [ig_ c6] at H
   have c6b0 : (A == 0) = false := be_.mpr c6
   have c6b1 : (A != 0) = true := ni_.mpr c6
   simp only [Option.some.injEq, Prod.mk.injEq] at H
   obtain ⟨rfl, rfl⟩ := H
   have p408 : 0 ≤ (a : Int) := dq_
   have B : a < (q.length : Int) := dq_
   obtain ⟨Y, K, c408_0, P, m, r, s⟩ := at_L7 ae.out a p408 B
   cases P
   replace m := hx_ HB m
   have I := a_ s
   have J := a_ r
   clear s r
   replace p408 := et_ p408
   replace B := et_ B
   go_wp2_with (first | ((with_reducible refine gate_callee (f := 34) rfl ?_); refine goesL_ (some 17) rfl rfl Tryz.func34 kr_ rfl #[.slice K (rd_L7 q a).length c408_0] rfl ar_ ?_; (with_reducible refine (dom_Of.calls k1 _ _ (rd_L7 q a) n l o u y A _ ?_ ?_ ?_ A5.out).mono ?_); exact ca_ ((cb_ I.out HB.out)); exact J.out; exact ca_ ((cb_ HRtab.out HB.out)); rintro e w15 ⟨ah, rfl, O, hb⟩; refine ⟨_, rfl, ?_⟩; have g := a_ (Kd.V_lower (vm_ (ok' := fun d => (w.heap.size ≤ d) ∧ some d ≠ u4.ownBlock) O (fun d hk_ => ⟨(Nat.le_trans (bz_ bel_) hk_), (fr_ (Kd.N_lt (vN_ HO_4.out)) d hk_)⟩)) (bz_ bel_)); replace HB := hq_ hb; clear hb O) | ((with_reducible refine gate_dst (N := 7) rfl ?_); refine bxe_ (N := 7) (cs := #[.int .i64 0, .slice none 0 0, .int .i64 0, .int .i64 0, .int .i64 0]) (t := 61) ?_; intro c hg w16 hbox hb; replace g := a_ (vb_ (Kd.V_elderB (vV_ g.out) c (Nat.le_of_eq hg.symm)) hb); have x := a_ (hbox); have M := a_ (by rw [hg]; exact (bz_ bel_) : w.heap.size ≤ c); have Z := M; replace HB := hq_ hb; clear hb hbox hg; obtain ⟨_, _, _, _, _, _, _, _, _, _⟩ := cel5_ x.out; obtain ⟨ap, aq, aj⟩ := Kd.V_slice g.out; subst aj))
   go_ret2
   exact ⟨_, er_, by first | exact Kd.S_nil _ _ _ _ _ | exact Kd.N_nil _ _ _ _ _ | exact Kd.V_nil _ _ _ _ _ | exact Kd.Q_nil _ _ _ _ _ | exact Kd.R_nil _ _ _ _ _, bel_⟩
  rw [ip_ c6] at H
  have c6b0 : (A == 0) = true := beq_iff_eq.mpr c6
  have c6b1 : (A != 0) = false := bn_.mpr c6
  clear c6
  by_cases c7 : z.length < 2513169434916
  rotate_left
  ·
   rw [ig_ c7] at H
   exact ab_ H
  rw [ip_ c7] at H
  have LMc7 := a_ c7
  clear c7
  obtain ⟨Q, G⟩ : ∃ y_ : List (S61), y_ = (z ++ [(⟨n, l, o, u, y⟩ : S61)]) := ⟨_, rfl⟩
  replace H : (prop_Made.l0 k1 Q q (q.length : Int) (wrap64 (a + 1))) = some (U, W) := h2_ H G
  have X := a_ G
  clear G
  have H' := a_ H
  clear H
  have p408 : 0 ≤ (a : Int) := dq_
  have B : a < (q.length : Int) := dq_
  obtain ⟨Y, K, c408_0, P, m, r, s⟩ := at_L7 ae.out a p408 B
  cases P
  replace m := hx_ HB m
  have I := a_ s
  have J := a_ r
  clear s r
  replace p408 := et_ p408
  replace B := et_ B
  go_wp2_with (first | ((with_reducible refine gate_callee (f := 34) rfl ?_); refine goesL_ (some 17) rfl rfl Tryz.func34 kr_ rfl #[.slice K (rd_L7 q a).length c408_0] rfl ar_ ?_; (with_reducible refine (dom_Of.calls k1 _ _ (rd_L7 q a) n l o u y A _ ?_ ?_ ?_ A5.out).mono ?_); exact ca_ ((cb_ I.out HB.out)); exact J.out; exact ca_ ((cb_ HRtab.out HB.out)); rintro e w8 ⟨ah, rfl, O, hb⟩; refine ⟨_, rfl, ?_⟩; have g := a_ (Kd.V_lower (vm_ (ok' := fun d => (w.heap.size ≤ d) ∧ some d ≠ u4.ownBlock) O (fun d hk_ => ⟨(Nat.le_trans (bz_ bel_) hk_), (fr_ (Kd.N_lt (vN_ HO_4.out)) d hk_)⟩)) (bz_ bel_)); replace HO_4 := a_ (Kd.N_below (vN_ HO_4.out) hb); replace HB := hq_ hb; clear hb O) | ((with_reducible refine gate_dst (N := 7) rfl ?_); refine bxe_ (N := 7) (cs := #[.int .i64 0, .slice none 0 0, .int .i64 0, .int .i64 0, .int .i64 0]) (t := 61) ?_; intro c hg w9 hbox hb; replace HO_4 := a_ (Kd.N_below (Kd.N_elderB (vN_ HO_4.out) c (Nat.le_of_eq hg.symm)) hb); replace g := a_ (vb_ (Kd.V_elderB (vV_ g.out) c (Nat.le_of_eq hg.symm)) hb); have x := a_ (hbox); have M := a_ (by rw [hg]; exact (bz_ bel_) : w.heap.size ≤ c); have Z := M; replace HB := hq_ hb; clear hb hbox hg; obtain ⟨_, _, _, _, _, _, _, _, _, _⟩ := cel5_ x.out; obtain ⟨E, F, ai⟩ := Kd.V_slice g.out; subst ai) | ((with_reducible refine gate_store (t := 61) (p := 7) rfl ?_); refine store_event (t := 61) (p := 7) (v := ?vo_w12) (w1 := (((((w9.setCell ⟨c, 0, none⟩ (.int .i64 n)).setCell ⟨c, 1, none⟩ (.slice E l.length F)).setCell ⟨c, 2, none⟩ (.int .i64 o)).setCell ⟨c, 3, none⟩ (.int .i64 u)).setCell ⟨c, 4, none⟩ (.int .i64 y))) ?hg ?ho ?hn ?hr ?_; (case ho => rfl); (case hg => rfl); (case hn => rfl); (case hr => first | (go_simp; done) | (go_simp; rfl)); intro w12 hw; replace HO_4 : Aside0 (Kd.N k61 61 w12 w.heap.size (fun d => (w.heap.size ≤ d) ∧ d ≠ c) u4 z) := ⟨(by rw [hw]; exact (by refine vN_ ?_; exact nm_ (fN_ (fN_ (fN_ (fN_ (fN_ (nm_ HO_4.out (fun d hk => (⟨hk, hk.2⟩ : _ ∧ d ≠ c)))))))) (fun _ hk => ⟨hk.1.1, hk.1.2⟩)))⟩; replace g : Aside0 (Kd.V (Kd.int .u64) 87 w12 w.heap.size (fun d => (w.heap.size ≤ d) ∧ some d ≠ u4.ownBlock ∧ d ≠ c) (.slice E l.length F) l) := ⟨(by rw [hw]; exact (by refine vV_ ?_; exact vm_ (fV_ (fV_ (fV_ (fV_ (fV_ (vm_ g.out (fun d hk => (⟨hk, hk.2⟩ : _ ∧ d ≠ c)))))))) (fun _ hk => ⟨hk.1.1.1, ⟨hk.1.1.2, hk.1.2⟩⟩)))⟩; replace x : Aside0 (w12.heap[c]? = some (.cells #[.int .i64 n, .slice E l.length F, .int .i64 o, .int .i64 u, .int .i64 y] 61 (0, 0))) := ⟨(by rw [hw]; exact (by refine bk_ ?_; refine bu_ (cs := #[.int .i64 n, .slice E l.length F, .int .i64 o, .int .i64 u, .int .i64 0]) ?_ 4 _ rfl; refine bk_ ?_; refine bu_ (cs := #[.int .i64 n, .slice E l.length F, .int .i64 o, .int .i64 0, .int .i64 0]) ?_ 3 _ rfl; refine bk_ ?_; refine bu_ (cs := #[.int .i64 n, .slice E l.length F, .int .i64 0, .int .i64 0, .int .i64 0]) ?_ 2 _ rfl; refine bk_ ?_; refine bu_ (cs := #[.int .i64 n, .slice none 0 0, .int .i64 0, .int .i64 0, .int .i64 0]) ?_ 1 _ rfl; refine bk_ ?_; refine bu_ (cs := #[.int .i64 0, .slice none 0 0, .int .i64 0, .int .i64 0, .int .i64 0]) ?_ 0 _ rfl; refine bk_ ?_; exact x.out))⟩; replace HB : Aside0 (Below w.heap.size w w12) := ⟨(by rw [hw]; exact bel_)⟩; clear hw; obtain ⟨_, _, _, _, _, _, _, _, _, _⟩ := cel5_ x.out) | ((with_reducible refine gate_builtin (b := .append) (xs := #[.tmp 22, .tmp 24]) rfl ?_); at_builtin; refine Kd.N_append k61 (w0 := w) w.heap.size rfl (.tmp 22) (.tmp 24) 36 61 (.agg #[(.int .i64 0), (.slice none 0 0), (.int .i64 0), (.int .i64 0), (.int .i64 0)]) 56 rfl Tryz.underlying36 info61 rfl (by decide) (by omega) u4 z (⟨n, l, o, u, y⟩ : S61) [.int .i64 n, .slice E l.length F, .int .i64 o, .int .i64 u, .int .i64 y] (fun d => (w.heap.size ≤ d) ∧ d ≠ c) (fun d => ((fun d => (w.heap.size ≤ d) ∧ d ≠ c)) d ∧ some d ≠ u4.ownBlock) rfl rfl ?aP (fun _ hk => hk) ?aF ?aO ?aB ?aS ?aL ?_; (case aP => exact (k61_mkF _ _ (⟨n, l, o, u, y⟩ : S61) (Kd.V_reads' (vm_ (ok' := (fun d => ((fun d => (w.heap.size ≤ d) ∧ d ≠ c)) d ∧ some d ≠ u4.ownBlock)) (g.out) (fun d hk => ⟨⟨hk.1, hk.2.2⟩, hk.2.1⟩))).2.1 (Kd.V_F (vm_ (ok' := (fun d => ((fun d => (w.heap.size ≤ d) ∧ d ≠ c)) d ∧ some d ≠ u4.ownBlock)) (g.out) (fun d hk => ⟨⟨hk.1, hk.2.2⟩, hk.2.1⟩))))); (case aB => exact bel_); (case aF => exact (fun d hk => ⟨(Nat.le_trans (bz_ bel_) hk), Kd.freshB (bk_ x.out) d hk⟩)); (case aO => exact (vN_ HO_4.out)); (case aS => exact (bz_ bel_)); (case aL => have := LMc7.out; omega); intro ao w14 ho hb hg hat; rw [← X.out] at ho; replace HB := a_ (hb); have aa := a_ (ho); clear HO_4; clear ho hb hg hat))
  go_roundg k1
  case measure => have := af.out; omega
  exact ⟨(Q), (wrap64 (a + 1)), eq_, H', ⟨by have := af.out; omega⟩, ⟨by refine vN_ ?_; exact nm_ aa.out (fun _ hk => hk.1)⟩, ⟨bel_⟩⟩

-- NOT PRINTED: function 33 (prop_Pairs)

end Go.Proofs.YtbhhbgoamomacaaGreatDoor.XMulRefuses
