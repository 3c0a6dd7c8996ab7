-- by xprint.py, a program of this session, over the kit's print
import Derived.Test.YtmhchlbbfpmdgaaGreatDoorXCRex0
import Derived.Test.YtmhchlbbfpmdgaaGreatDoorSq
namespace Go.Proofs.YtmhchlbbfpmdgaaGreatDoor.XClauseRefuses
open Go.RowKit Go.Proofs.YtmhchlbbfpmdgaaGreatDoor.Sq Go.Proofs.YtmhchlbbfpmdgaaGreatDoorW.PrintWords Go.Proofs.YtmhchlbbfpmdgaaGreatDoorW.PrintLast Go.Proofs.YtmhchlbbfpmdgaaGreatDoorW.PrintMore
attribute [local go_sem] max2_int min2_int max_two min_two max_three min_three max_four min_four   -- for this text's walks alone
set_option linter.unusedVariables false
set_option linter.unusedSimpArgs false

/-! ### dom_in: function 50 -/
def dom_in.f (a : Int) : Option (Bool) := if a ≥ (-1000000) then (some (decide (a ≤ 1000000))) else (some false)
set_option maxHeartbeats 8000000 in
set_option maxRecDepth 100000 in
theorem dom_in.calls (a : Int) (r : Bool) (w : World) (h : dom_in.f a = some r) :
  Calls Tryz.prog 50 #[.int .i64 a] w fun e w' => e = .returned (.bool r) ∧ Drawn0 w w' := by
 unfold dom_in.f at h
 have H := h
 clear h
 by_cases c2 : a ≥ (-1000000)
 ·
  rw [ip_ c2] at H
  have c2b0 : decide ((-1000000) ≤ a) = true := dt_ c2
  clear c2
  obtain rfl := si_ H
  go_enter Tryz.func50, Tryz.ntmps50
  go_wp2
  go_ret
  exact ⟨by first | rfl | (simp; done) | (simp [*]; done), by repeat (first | exact d0_ _ | apply Drawn0.step)⟩
 rw [ig_ c2] at H
 have c2b0 : decide ((-1000000) ≤ a) = false := df_ c2
 clear c2
 obtain rfl := si_ H
 go_enter Tryz.func50, Tryz.ntmps50
 go_wp2
 go_ret
 exact ⟨by first | rfl | (simp; done) | (simp [*]; done), by repeat (first | exact d0_ _ | apply Drawn0.step)⟩

/-! ### dom_Dom_word: function 51 -/
def dom_Dom_word.f (a : Int) (b : List Int) (d : Int) (e : Int) (g : Int) (c : Int) : Option (Int) := if c < a then (some 0) else (if (wrap64 (Int.tdiv (wrap64 (c - a)) 64)) ≥ (b.length : Int) then (some 0) else (if 0 ≤ (wrap64 (Int.tdiv (wrap64 (c - a)) 64)) then (if (wrap64 (Int.tdiv (wrap64 (c - a)) 64)) < (b.length : Int) then (some (rd b (wrap64 (Int.tdiv (wrap64 (c - a)) 64)))) else (none)) else (none)))
set_option maxHeartbeats 8000000 in
set_option maxRecDepth 100000 in
theorem dom_Dom_word.calls (b : Int) (n : Option Addr) (c0_1 : Nat) (a : List Int) (o : Int) (p : Int) (q : Int) (u : Int) (r : Int) (w : World) (x : Kd.C (Kd.int .u64) w n a.length a) (y : a.length ≤ c0_1) (h : dom_Dom_word.f b a o p q u = some r) :
  Calls Tryz.prog 51 #[.agg #[.int .i64 b, .slice n a.length c0_1, .int .i64 o, .int .i64 p, .int .i64 q], .int .i64 u] w fun e w' => e = .returned (.int .u64 r) ∧ Below w.heap.size w w' := by
 have hu58 := Tryz.underlying58
 have A := a_ x
 have E := a_ y
 clear x y
 have HB := a_ (Below.refl w.heap.size w)
 unfold dom_Dom_word.f at h
 have H := h
 clear h
 by_cases c3 : u < b
 ·
  rw [ip_ c3] at H
  have c3b0 : decide (u < b) = true := dt_ c3
  clear c3
  obtain rfl := si_ H
  go_enter Tryz.func51, Tryz.ntmps51
  go_wp2_with (first | ((with_reducible refine gate_dst (N := 2) rfl ?_); (try (refine gate_guard (by rfl) ?_; dsimp only)); refine bxe_ (N := 2) (cs := #[.int .i64 b, .slice n a.length c0_1, .int .i64 o, .int .i64 p, .int .i64 q]) (t := 58) ?_; intro d hg w4 hbox hb; have g := a_ (hbox); have l := a_ (by rw [hg]; exact (bz_ bel_) : w.heap.size ≤ d); have z := l; replace HB := hq_ hb; clear hb hbox hg; obtain ⟨_, _, _, _, _, _, _, _, _, _⟩ := cel5_ g.out))
  go_ret
  exact ⟨er_, bel_⟩
 rw [ig_ c3] at H
 have c3b0 : decide (u < b) = false := df_ c3
 clear c3
 by_cases c6 : (wrap64 (Int.tdiv (wrap64 (u - b)) 64)) ≥ (a.length : Int)
 ·
  rw [ip_ c6] at H
  have c6b0 : decide ((a.length : Int) ≤ (wrap64 (Int.tdiv (wrap64 (u - b)) 64))) = true := dt_ c6
  clear c6
  obtain rfl := si_ H
  go_enter Tryz.func51, Tryz.ntmps51
  go_wp2_with (first | ((with_reducible refine gate_dst (N := 2) rfl ?_); (try (refine gate_guard (by rfl) ?_; dsimp only)); refine bxe_ (N := 2) (cs := #[.int .i64 b, .slice n a.length c0_1, .int .i64 o, .int .i64 p, .int .i64 q]) (t := 58) ?_; intro d hg w7 hbox hb; have g := a_ (hbox); have l := a_ (by rw [hg]; exact (bz_ bel_) : w.heap.size ≤ d); have z := l; replace HB := hq_ hb; clear hb hbox hg; obtain ⟨_, _, _, _, _, _, _, _, _, _⟩ := cel5_ g.out))
  go_ret
  exact ⟨er_, bel_⟩
 rw [ig_ c6] at H
 have c6b0 : decide ((a.length : Int) ≤ (wrap64 (Int.tdiv (wrap64 (u - b)) 64))) = false := df_ c6
 clear c6
 obtain ⟨c, s⟩ : ∃ j_ : Int, (wrap64 (Int.tdiv (wrap64 (u - b)) 64)) = j_ := ⟨_, rfl⟩
 replace H : (if 0 ≤ (c) then (if (c) < (a.length : Int) then (some (rd a (c))) else (none)) else (none)) = some r := by first | (rw [s] at H; exact H) | (simp only [s] at H ⊢; exact H)
 (try rw [s] at c6b0)
 have hji9w : (IntKind.i64.wrap (Int.tdiv (wrap64 (u - b)) 64)) = c := (i64_w _).trans s
 by_cases c10 : 0 ≤ (c)
 rotate_left
 ·
  rw [ig_ c10] at H
  exact absurd H (by simp)
 rw [ip_ c10] at H
 have c10b0 : decide (0 ≤ (c)) = true := dt_ c10
 clear c10
 by_cases c11 : (c) < (a.length : Int)
 rotate_left
 ·
  rw [ig_ c11] at H
  exact absurd H (by simp)
 rw [ip_ c11] at H
 have c11b0 : decide ((c) < (a.length : Int)) = true := dt_ c11
 clear c11
 obtain rfl := si_ H
 go_enter Tryz.func51, Tryz.ntmps51
 go_wp2_with (first | ((with_reducible refine gate_dst (N := 2) rfl ?_); (try (refine gate_guard (by rfl) ?_; dsimp only)); refine bxe_ (N := 2) (cs := #[.int .i64 b, .slice n a.length c0_1, .int .i64 o, .int .i64 p, .int .i64 q]) (t := 58) ?_; intro d hg w12 hbox hb; have g := a_ (hbox); have l := a_ (by rw [hg]; exact (bz_ bel_) : w.heap.size ≤ d); have z := l; replace HB := hq_ hb; clear hb hbox hg; obtain ⟨_, _, _, _, _, _, _, _, _, _⟩ := cel5_ g.out; have p274 : 0 ≤ ((c) : Int) := dq_; have v : (c) < (a.length : Int) := dq_; obtain ⟨F, B, m⟩ := ai_ A.out (c) p274 v; cases B; replace m := (HB.out.cell (wl_ w _ m)).trans m; replace p274 := et_ p274; replace v := et_ v))
 go_ret
 exact ⟨by first | rfl | (simp [errW_none, errW_some] <;> rfl) | (simp only [← s]; first | rfl | (simp [errW_none, errW_some] <;> rfl)) | (simp [*, errW_none, errW_some] <;> rfl), bel_⟩

/-! ### dom_place: function 52 -/
def dom_place.f (a : Int) : Option (Int) := some (Go.bits .andNot .i64 a 63)
set_option maxHeartbeats 8000000 in
set_option maxRecDepth 100000 in
theorem dom_place.calls (a : Int) (r : Int) (w : World) (h : dom_place.f a = some r) :
  Calls Tryz.prog 52 #[.int .i64 a] w fun e w' => e = .returned (.int .i64 r) ∧ Drawn0 w w' := by
 unfold dom_place.f at h
 have H := h
 clear h
 obtain rfl := si_ H
 go_enter Tryz.func52, Tryz.ntmps52
 go_wp2
 go_ret
 exact ⟨by first | rfl | (simp; done) | (simp [*]; done), by repeat (first | exact d0_ _ | apply Drawn0.step)⟩

/-! ### dom_Dom_Has: function 24 -/
def dom_Dom_Has.f (c : Int) (d : List Int) (e : Int) (g : Int) (l : Int) (a : Int) : Option (Bool) := (dom_in.f a).bind fun m => (if m = true then ((dom_place.f a).bind fun n => ((dom_Dom_word.f c d e g l n).bind fun o => ((dom_place.f a).bind fun b => (if 0 ≤ (wrap64 (a - b)) then (some ((Go.bits .and .u64 (shr .u64 o (wrap64 (a - b))) 1) == 1)) else (none))))) else (some false))
def dom_Dom_Has.T1 : Bool × List (List Nat × List Nat) := (true, [([], []), ([0], [0]), ([1, 1], [1]), ([2], [2]), ([2], [2]), ([4, 2, 2], [2, 4]), ([3, 5, 5, 2], [2, 3, 5]), ([2], [2]), ([2], [2]), ([8, 6, 2], [2, 8]), ([7, 9, 2], [2, 7, 9]), ([6, 10, 2], [2, 6, 10]), ([11, 2], [2, 11]), ([12, 2], [2, 12]), ([2, 13], [2, 13]), ([14, 9, 0, 1, 2, 3, 4, 5, 6, 7, 8, 9, 10, 11, 12, 13, 14], [14])])
def dom_Dom_Has.B1 : List Nat := [0, 1, 3, 7, 7, 23, 63, 7, 7, 383, 1023, 2047, 4095, 8191, 16383, 32767]
theorem dom_Dom_Has.tab1 : rtab .any (opsOf Tryz.f24 1) = dom_Dom_Has.T1 := by kernel_rfl
theorem dom_Dom_Has.bits1 : waitsOk dom_Dom_Has.T1.2 dom_Dom_Has.B1 = true := by kernel_rfl
set_option maxHeartbeats 8000000 in
set_option maxRecDepth 100000 in
theorem dom_Dom_Has.calls (l : Int) (s : Option Addr) (c0_1 : Nat) (d : List Int) (m : Int) (o : Int) (p : Int) (u : Int) (r : Bool) (w : World) (B : Kd.C (Kd.int .u64) w s d.length d) (E : d.length ≤ c0_1) (h : dom_Dom_Has.f l d m o p u = some r) :
  Calls Tryz.prog 24 #[.agg #[.int .i64 l, .slice s d.length c0_1, .int .i64 m, .int .i64 o, .int .i64 p], .int .i64 u] w fun e w' => e = .returned (.bool r) ∧ Below w.heap.size w w' := by
 have hu58 := Tryz.underlying58
 have F := a_ B
 have G := a_ E
 clear B E
 have HB := a_ (Below.refl w.heap.size w)
 unfold dom_Dom_Has.f at h
 have H := h
 clear h
 replace H := bo_ H
 obtain ⟨M, I, H⟩ := H
 try dsimp only at H
 by_cases c4 : M = true
 rotate_left
 ·
  replace c4 := bf_.mpr c4
  subst c4
  have H1 : (some false) = some r := by rw [ig_ (show ¬ (false = true) by decide)] at H; exact H
  clear H
  have H := H1
  clear H1
  obtain rfl := si_ H
  go_enter Tryz.func24, Tryz.ntmps24
  try go_wp2_with (first | ((with_reducible refine gate_dst (N := 2) rfl ?_); refine bxe_ (N := 2) (cs := #[.int .i64 l, .slice s d.length c0_1, .int .i64 m, .int .i64 o, .int .i64 p]) (t := 58) ?_; intro c hg w14 hbox hb; have x := a_ (by rw [hg]; exact (bz_ bel_) : w.heap.size ≤ c); have J := x; replace HB := hq_ hb; clear hb hbox hg))
  replace HB := a_ (below_drew1 HB.out)
  refine start_ (n := 16) (S := fun w' => True) (ds := []) #[false, false, false, false, false, false, false, false, false, false, false, false, false, false, false, false] kr_ rfl rfl trivial (fun hHeld => ?_); refine with_tabW dom_Dom_Has.tab1 dom_Dom_Has.bits1 (fun HT_ HW_ => ?_)
  generalize w14.drew = w15 at HB hHeld ⊢
  refine pu_ (i := 0) (N := some 5) ao_ ?_
  refine one_ (i := 1) (N := some 6) #[true, true, false, false, false, false, false, false, false, false, false, false, false, false, false, false] rfl rfl on_ (by decide) (fun K hK => ?_)
  refine goes_ Tryz.func50 kr_ rfl #[.int .i64 u] (by rfl) rfl rfl ar_ ?_
  with_reducible refine (dom_in.calls u false _ I.out).mono ?_
  rintro e w' ⟨rfl, ⟨nd, rfl⟩⟩
  refine ⟨_, rfl, ?_⟩
  refine hK.out _ _ trivial (fun hHeld => ?_)
  clear hK K
  refine nor_ (N := some 6) ?_
  refine pu_ (i := 2) (N := some 7) ao_ ?_
  refine und_ (i := 3) (N := some 8) ao_ ?_
  refine und_ (i := 4) (N := some 9) ao_ ?_
  refine und_ (i := 5) (N := some 10) ao_ ?_
  refine und_ (i := 6) (N := some 11) ao_ ?_
  refine und_ (i := 7) (N := some 12) ao_ ?_
  refine und_ (i := 8) (N := some 13) ao_ ?_
  refine und_ (i := 9) (N := some 14) ao_ ?_
  refine und_ (i := 10) (N := some 15) ao_ ?_
  refine und_ (i := 11) (N := some 16) ao_ ?_
  refine und_ (i := 12) (N := some 17) ao_ ?_
  refine und_ (i := 13) (N := some 18) ao_ ?_
  refine pu_ (i := 14) (N := some 19) ao_ ?_
  refine pu_ (i := 15) (N := some 4) ao_ ?_
  refine done_ dn_ ?_
  try go_wp2
  go_ret
  exact ⟨er_, bel_⟩
 subst c4
 rw [ip_ rfl] at H
 replace H := bo_ H
 obtain ⟨y, O, H⟩ := H
 try dsimp only at H
 replace H := bo_ H
 obtain ⟨v, P, H⟩ := H
 try dsimp only at H
 replace H := bo_ H
 obtain ⟨z, Q, H⟩ := H
 try dsimp only at H
 obtain ⟨q, g⟩ : ∃ j_ : Int, (wrap64 (u - z)) = j_ := ⟨_, rfl⟩
 replace H : (if 0 ≤ (q) then (some ((Go.bits .and .u64 (shr .u64 v (q)) 1) == 1)) else (none)) = some r := by first | (rw [g] at H; exact H) | (simp only [g] at H ⊢; exact H)
 (try rw [g] at I)
 (try rw [g] at O)
 (try rw [g] at P)
 (try rw [g] at Q)
 have hji8w : (IntKind.i64.wrap (u - z)) = q := (i64_w _).trans g
 by_cases c9 : 0 ≤ (q)
 rotate_left
 ·
  rw [ig_ c9] at H
  exact absurd H (by simp)
 rw [ip_ c9] at H
 have c9b0 := et_ c9
 have c9b1 : decide (0 ≤ (q)) = true := dt_ c9
 clear c9
 obtain ⟨A, b⟩ : ∃ j_ : Int, (shr .u64 v (q)) = j_ := ⟨_, rfl⟩
 replace H : (some ((Go.bits .and .u64 (A) 1) == 1)) = some r := by first | (rw [b] at H; exact H) | (simp only [b] at H ⊢; exact H)
 (try rw [b] at I)
 (try rw [b] at O)
 (try rw [b] at P)
 (try rw [b] at Q)
 have U : (v / 2 ^ min (q).toNat 64) = A := b
 have hji10z : (q) ≤ 64 → (v / 2 ^ (q).toNat) = A := shr_small b
 obtain rfl := si_ H
 go_enter Tryz.func24, Tryz.ntmps24
 try go_wp2_with (first | ((with_reducible refine gate_dst (N := 2) rfl ?_); refine bxe_ (N := 2) (cs := #[.int .i64 l, .slice s d.length c0_1, .int .i64 m, .int .i64 o, .int .i64 p]) (t := 58) ?_; intro c hg w11 hbox hb; have a := a_ (hbox); have x := a_ (by rw [hg]; exact (bz_ bel_) : w.heap.size ≤ c); have J := x; replace HB := hq_ hb; clear hb hbox hg))
 replace a := a_ (blk_drew a.out)
 replace HB := a_ (below_drew1 HB.out)
 refine start_ (n := 16) (S := fun w' => w'.cell? ⟨c, 0, none⟩ = some (.int .i64 l) ∧ w'.cell? ⟨c, 1, none⟩ = some (.slice s d.length c0_1) ∧ w'.cell? ⟨c, 2, none⟩ = some (.int .i64 m) ∧ w'.cell? ⟨c, 3, none⟩ = some (.int .i64 o) ∧ w'.cell? ⟨c, 4, none⟩ = some (.int .i64 p)) (ds := []) #[false, false, false, false, false, false, false, false, false, false, false, false, false, false, false, false] kr_ rfl rfl (ca5_ a.out) (fun hHeld => ?_); refine with_tabW dom_Dom_Has.tab1 dom_Dom_Has.bits1 (fun HT_ HW_ => ?_)
 generalize w11.drew = w12 at a HB hHeld ⊢
 refine pu_ (i := 0) (N := some 5) ao_ ?_
 refine one_ (i := 1) (N := some 6) #[true, true, false, false, false, false, false, false, false, false, false, false, false, false, false, false] rfl rfl on_ (by decide) (fun K hK => ?_)
 refine goes_ Tryz.func50 kr_ rfl #[.int .i64 u] (by rfl) rfl rfl ar_ ?_
 with_reducible refine (dom_in.calls u true _ I.out).mono ?_
 rintro e w' ⟨rfl, ⟨nd, rfl⟩⟩
 refine ⟨_, rfl, ?_⟩
 refine hK.out _ _ (ca5_ a.out) (fun hHeld => ?_)
 clear hK K
 refine nor_ (N := some 6) ?_
 refine pu_ (i := 2) (N := some 7) ao_ ?_
 refine pu_ (i := 4) (N := some 9) ao_ ?_
 refine pu_ (i := 7) (N := some 12) ao_ ?_
 refine pu_ (i := 8) (N := some 13) ao_ ?_
 refine tak_ (i := 3) (N := some 8) tw_ hHeld ?_
 refine one_ (i := 5) (N := some 10) #[true, true, true, true, true, true, false, true, true, false, false, false, false, false, false, false] rfl rfl on_ (by decide) (fun K hK => ?_)
 refine goes_ Tryz.func52 kr_ rfl #[.int .i64 u] (by rfl) rfl rfl ar_ ?_
 with_reducible refine (dom_place.calls u y _ O.out).mono ?_
 rintro e w' ⟨rfl, ⟨nd, rfl⟩⟩
 refine ⟨_, rfl, ?_⟩
 refine hK.out _ _ (ca5_ a.out) (fun hHeld => ?_)
 clear hK K
 refine nor_ (N := some 10) ?_
 refine one_ (i := 6) (N := some 11) #[true, true, true, true, true, true, true, true, true, false, false, false, false, false, false, false] rfl rfl on_ (by decide) (fun K hK => ?_)
 refine goes_ Tryz.func51 kr_ rfl #[.agg #[.int .i64 l, .slice s d.length c0_1, .int .i64 m, .int .i64 o, .int .i64 p], .int .i64 y] (by rfl) rfl rfl ar_ ?_
 with_reducible refine (dom_Dom_word.calls l _ _ d m o p y v _ ?_ ?_ P.out).mono ?_
 focus repeat (first | exact (cb_ F.out bel_) | (with_reducible refine Kd.C_alloc ?_ _) | (with_reducible refine Kd.C_drewN ?_ _) | (with_reducible refine Kd.C_drew ?_))
 exact G.out
 rintro e w13 ⟨rfl, hb⟩
 refine ⟨_, rfl, ?_⟩
 replace a := a_ (bq_ a.out hb)
 replace HB := hq_ hb
 clear hb
 refine hK.out _ _ (ca5_ a.out) (fun hHeld => ?_)
 clear hK K
 refine nor_ (N := some 11) ?_
 refine one_ (i := 9) (N := some 14) #[true, true, true, true, true, true, true, true, true, true, false, false, false, false, false, false] rfl rfl on_ (by decide) (fun K hK => ?_)
 refine goes_ Tryz.func52 kr_ rfl #[.int .i64 u] (by rfl) rfl rfl ar_ ?_
 with_reducible refine (dom_place.calls u z _ Q.out).mono ?_
 rintro e w' ⟨rfl, ⟨nd, rfl⟩⟩
 refine ⟨_, rfl, ?_⟩
 refine hK.out _ _ (ca5_ a.out) (fun hHeld => ?_)
 clear hK K
 refine nor_ (N := some 14) ?_
 refine pu_ (i := 10) (N := some 15) ao_ ?_
 refine pu_ (i := 11) (N := some 16) ao_ ?_
 refine pu_ (i := 12) (N := some 17) ao_ ?_
 refine pu_ (i := 13) (N := some 18) ao_ ?_
 refine pu_ (i := 14) (N := some 19) ao_ ?_
 refine pu_ (i := 15) (N := some 4) ao_ ?_
 refine done_ dn_ ?_
 try go_wp2
 go_ret
 exact ⟨by first | rfl | (simp [errW_none, errW_some] <;> rfl) | (simp only [← g, ← b]; first | rfl | (simp [errW_none, errW_some] <;> rfl)) | (simp [*, errW_none, errW_some] <;> rfl), bel_⟩

-- NOT PRINTED: function 73 (dom_Dom_73)

-- NOT PRINTED: function 54 (dom_Dom_54)

/-! ### dom_Dom_Size: function 56 -/
def dom_Dom_Size.f (b : Int) (c : List Int) (d : Int) (e : Int) (a : Int) : Option (Int) := some a
set_option maxHeartbeats 8000000 in
set_option maxRecDepth 100000 in
theorem dom_Dom_Size.calls (b : Int) (c : Option Addr) (c0_1 : Nat) (a : List Int) (d : Int) (g : Int) (l : Int) (r : Int) (w : World) (n : Kd.C (Kd.int .u64) w c a.length a) (m : a.length ≤ c0_1) (h : dom_Dom_Size.f b a d g l = some r) :
  Calls Tryz.prog 56 #[.agg #[.int .i64 b, .slice c a.length c0_1, .int .i64 d, .int .i64 g, .int .i64 l]] w fun e w' => e = .returned (.int .i64 r) ∧ Below w.heap.size w w' := by
 have hu58 := Tryz.underlying58
 have s := a_ m
 clear n m
 have HB := a_ (Below.refl w.heap.size w)
 unfold dom_Dom_Size.f at h
 have H := h
 clear h
 obtain rfl := si_ H
 go_enter Tryz.func56, Tryz.ntmps56
 go_wp2_with (first | ((with_reducible refine gate_dst (N := 1) rfl ?_); refine bxe_ (N := 1) (cs := #[.int .i64 b, .slice c a.length c0_1, .int .i64 d, .int .i64 g, .int .i64 l]) (t := 58) ?_; intro o hg w2 hbox hb; have p := a_ (hbox); have q := a_ (by rw [hg]; exact (bz_ bel_) : w.heap.size ≤ o); have u := q; replace HB := hq_ hb; clear hb hbox hg; obtain ⟨_, _, _, _, _, _, _, _, _, _⟩ := cel5_ p.out))
 go_ret
 exact ⟨er_, bel_⟩

/-! ### prop_Fits_1: function 55 -/
def prop_Fits_1.f (a : Int) (b : List Int) (c : Int) (d : Int) (e : Int) : Option (Bool) := (dom_Dom_Size.f a b c d e).bind fun g => (some (g == 0))
set_option maxHeartbeats 8000000 in
set_option maxRecDepth 100000 in
theorem prop_Fits_1.calls (b : Int) (l : Option Addr) (c0_1 : Nat) (a : List Int) (c : Int) (d : Int) (g : Int) (r : Bool) (w : World) (m : Kd.C (Kd.int .u64) w l a.length a) (n : a.length ≤ c0_1) (h : prop_Fits_1.f b a c d g = some r) :
  Calls Tryz.prog 55 #[.agg #[.int .i64 b, .slice l a.length c0_1, .int .i64 c, .int .i64 d, .int .i64 g]] w fun e w' => e = .returned (.bool r) ∧ Below w.heap.size w w' := by
 have hu58 := Tryz.underlying58
 have o := a_ m
 have p := a_ n
 clear m n
 have HB := a_ (Below.refl w.heap.size w)
 unfold prop_Fits_1.f at h
 have H := h
 clear h
 replace H := bo_ H
 obtain ⟨v, y, H⟩ := H
 try dsimp only at H
 obtain rfl := si_ H
 go_enter Tryz.func55, Tryz.ntmps55
 go_wp2_with (first | ((with_reducible refine gate_dst (N := 1) rfl ?_); refine bxe_ (N := 1) (cs := #[.int .i64 b, .slice l a.length c0_1, .int .i64 c, .int .i64 d, .int .i64 g]) (t := 58) ?_; intro q hg w3 hbox hb; have s := a_ (hbox); have u := a_ (by rw [hg]; exact (bz_ bel_) : w.heap.size ≤ q); have x := u; replace HB := hq_ hb; clear hb hbox hg; obtain ⟨_, _, _, _, _, _, _, _, _, _⟩ := cel5_ s.out) | ((with_reducible refine gate_callee (f := 56) rfl ?_); refine goesL_ (some 4) rfl rfl Tryz.func56 kr_ rfl #[.agg #[.int .i64 b, .slice l a.length c0_1, .int .i64 c, .int .i64 d, .int .i64 g]] rfl ar_ ?_; (with_reducible refine (dom_Dom_Size.calls b _ _ a c d g v _ ?_ ?_ y.out).mono ?_); exact ca_ ((cb_ o.out HB.out)); exact p.out; rintro e w5 ⟨rfl, hb⟩; refine ⟨_, rfl, ?_⟩; replace HB := hq_ hb; clear hb))
 go_ret
 exact ⟨er_, bel_⟩

-- NOT PRINTED: function 83 (slices_IndexFunc_int_int_83)

-- NOT PRINTED: function 60 (slices_ContainsFunc_int_int_60)

/-! ### model_forms: function 89 -/
def model_forms.f  : Option ((List (S116))) := some (([(⟨(⟨#[108, 105, 110, 95, 101, 113]⟩ : ByteArray), (⟨#[99, 86, 107]⟩ : ByteArray)⟩ : S116), (⟨(⟨#[108, 105, 110, 95, 108, 101]⟩ : ByteArray), (⟨#[99, 86, 107]⟩ : ByteArray)⟩ : S116), (⟨(⟨#[108, 105, 110, 95, 110, 101]⟩ : ByteArray), (⟨#[99, 86, 107]⟩ : ByteArray)⟩ : S116), (⟨(⟨#[108, 105, 110, 95, 114, 101, 105, 102]⟩ : ByteArray), (⟨#[99, 86, 107, 119]⟩ : ByteArray)⟩ : S116), (⟨(⟨#[116, 105, 109, 101, 115]⟩ : ByteArray), (⟨#[118, 118, 118]⟩ : ByteArray)⟩ : S116), (⟨(⟨#[100, 105, 118]⟩ : ByteArray), (⟨#[118, 118, 118]⟩ : ByteArray)⟩ : S116), (⟨(⟨#[109, 111, 100]⟩ : ByteArray), (⟨#[118, 118, 118]⟩ : ByteArray)⟩ : S116), (⟨(⟨#[97, 98, 115]⟩ : ByteArray), (⟨#[118, 118]⟩ : ByteArray)⟩ : S116), (⟨(⟨#[109, 105, 110]⟩ : ByteArray), (⟨#[118, 118, 118]⟩ : ByteArray)⟩ : S116), (⟨(⟨#[109, 97, 120]⟩ : ByteArray), (⟨#[118, 118, 118]⟩ : ByteArray)⟩ : S116), (⟨(⟨#[101, 108, 101, 109, 101, 110, 116]⟩ : ByteArray), (⟨#[118, 99, 118]⟩ : ByteArray)⟩ : S116), (⟨(⟨#[99, 108, 97, 117, 115, 101]⟩ : ByteArray), (⟨#[86, 87]⟩ : ByteArray)⟩ : S116), (⟨(⟨#[101, 113, 95, 114, 101, 105, 102]⟩ : ByteArray), (⟨#[118, 107, 119]⟩ : ByteArray)⟩ : S116), (⟨(⟨#[108, 101, 95, 114, 101, 105, 102]⟩ : ByteArray), (⟨#[118, 107, 119]⟩ : ByteArray)⟩ : S116), (⟨(⟨#[101, 113, 95, 105, 109, 112]⟩ : ByteArray), (⟨#[118, 107, 119]⟩ : ByteArray)⟩ : S116), (⟨(⟨#[108, 101, 95, 105, 109, 112]⟩ : ByteArray), (⟨#[118, 107, 119]⟩ : ByteArray)⟩ : S116), (⟨(⟨#[97, 108, 108, 95, 100, 105, 102, 102, 101, 114, 101, 110, 116]⟩ : ByteArray), (⟨#[86]⟩ : ByteArray)⟩ : S116), (⟨(⟨#[116, 97, 98, 108, 101]⟩ : ByteArray), (⟨#[86, 114]⟩ : ByteArray)⟩ : S116), (⟨(⟨#[99, 117, 109, 117, 108, 97, 116, 105, 118, 101]⟩ : ByteArray), (⟨#[86, 99, 100, 107]⟩ : ByteArray)⟩ : S116), (⟨(⟨#[99, 105, 114, 99, 117, 105, 116]⟩ : ByteArray), (⟨#[86]⟩ : ByteArray)⟩ : S116), (⟨(⟨#[103, 99, 99]⟩ : ByteArray), (⟨#[86, 99, 100, 101]⟩ : ByteArray)⟩ : S116), (⟨(⟨#[108, 101, 120, 95, 108, 101]⟩ : ByteArray), (⟨#[86, 87]⟩ : ByteArray)⟩ : S116), (⟨(⟨#[105, 110, 118, 101, 114, 115, 101]⟩ : ByteArray), (⟨#[86, 87]⟩ : ByteArray)⟩ : S116)] : List (S116)))
set_option maxHeartbeats 8000000 in
set_option maxRecDepth 100000 in
theorem model_forms.calls  (r : List (S116)) (w : World) (h : model_forms.f  = some r) :
  Calls Tryz.prog 89 #[] w fun e w' => ∃ g : Value, e = .returned (g) ∧ Kd.R k116 116 w' w.heap.size (fun _ => True) g r ∧ Below w.heap.size w w' := by
 have hu116 := Tryz.underlying116
 have HB := a_ (Below.refl w.heap.size w)
 unfold model_forms.f at h
 have H := h
 clear h
 obtain ⟨l, a⟩ : ∃ y_ : List (S116), y_ = (([(⟨(⟨#[108, 105, 110, 95, 101, 113]⟩ : ByteArray), (⟨#[99, 86, 107]⟩ : ByteArray)⟩ : S116), (⟨(⟨#[108, 105, 110, 95, 108, 101]⟩ : ByteArray), (⟨#[99, 86, 107]⟩ : ByteArray)⟩ : S116), (⟨(⟨#[108, 105, 110, 95, 110, 101]⟩ : ByteArray), (⟨#[99, 86, 107]⟩ : ByteArray)⟩ : S116), (⟨(⟨#[108, 105, 110, 95, 114, 101, 105, 102]⟩ : ByteArray), (⟨#[99, 86, 107, 119]⟩ : ByteArray)⟩ : S116), (⟨(⟨#[116, 105, 109, 101, 115]⟩ : ByteArray), (⟨#[118, 118, 118]⟩ : ByteArray)⟩ : S116), (⟨(⟨#[100, 105, 118]⟩ : ByteArray), (⟨#[118, 118, 118]⟩ : ByteArray)⟩ : S116), (⟨(⟨#[109, 111, 100]⟩ : ByteArray), (⟨#[118, 118, 118]⟩ : ByteArray)⟩ : S116), (⟨(⟨#[97, 98, 115]⟩ : ByteArray), (⟨#[118, 118]⟩ : ByteArray)⟩ : S116), (⟨(⟨#[109, 105, 110]⟩ : ByteArray), (⟨#[118, 118, 118]⟩ : ByteArray)⟩ : S116), (⟨(⟨#[109, 97, 120]⟩ : ByteArray), (⟨#[118, 118, 118]⟩ : ByteArray)⟩ : S116), (⟨(⟨#[101, 108, 101, 109, 101, 110, 116]⟩ : ByteArray), (⟨#[118, 99, 118]⟩ : ByteArray)⟩ : S116), (⟨(⟨#[99, 108, 97, 117, 115, 101]⟩ : ByteArray), (⟨#[86, 87]⟩ : ByteArray)⟩ : S116), (⟨(⟨#[101, 113, 95, 114, 101, 105, 102]⟩ : ByteArray), (⟨#[118, 107, 119]⟩ : ByteArray)⟩ : S116), (⟨(⟨#[108, 101, 95, 114, 101, 105, 102]⟩ : ByteArray), (⟨#[118, 107, 119]⟩ : ByteArray)⟩ : S116), (⟨(⟨#[101, 113, 95, 105, 109, 112]⟩ : ByteArray), (⟨#[118, 107, 119]⟩ : ByteArray)⟩ : S116), (⟨(⟨#[108, 101, 95, 105, 109, 112]⟩ : ByteArray), (⟨#[118, 107, 119]⟩ : ByteArray)⟩ : S116), (⟨(⟨#[97, 108, 108, 95, 100, 105, 102, 102, 101, 114, 101, 110, 116]⟩ : ByteArray), (⟨#[86]⟩ : ByteArray)⟩ : S116), (⟨(⟨#[116, 97, 98, 108, 101]⟩ : ByteArray), (⟨#[86, 114]⟩ : ByteArray)⟩ : S116), (⟨(⟨#[99, 117, 109, 117, 108, 97, 116, 105, 118, 101]⟩ : ByteArray), (⟨#[86, 99, 100, 107]⟩ : ByteArray)⟩ : S116), (⟨(⟨#[99, 105, 114, 99, 117, 105, 116]⟩ : ByteArray), (⟨#[86]⟩ : ByteArray)⟩ : S116), (⟨(⟨#[103, 99, 99]⟩ : ByteArray), (⟨#[86, 99, 100, 101]⟩ : ByteArray)⟩ : S116), (⟨(⟨#[108, 101, 120, 95, 108, 101]⟩ : ByteArray), (⟨#[86, 87]⟩ : ByteArray)⟩ : S116), (⟨(⟨#[105, 110, 118, 101, 114, 115, 101]⟩ : ByteArray), (⟨#[86, 87]⟩ : ByteArray)⟩ : S116)] : List (S116))) := ⟨_, rfl⟩
 replace H : (some l) = some r := by first | (rw [a]; with_reducible exact H) | (have H2_ := (ob_ _ _).symm.trans H; rw [a]; with_reducible exact H2_) | (have H2_ := (ob_ _ _).symm.trans H; with_reducible exact H2_) | with_reducible exact H | (rw [a]; exact H) | exact H
 have c := a_ a
 clear a
 obtain rfl := si_ H
 go_enter Tryz.func89, Tryz.ntmps89
 go_wp2_with (first | ((with_reducible refine gate_dst (N := 24) rfl ?_); refine Kd.R_lit k116 _ 116 ?hg (N := 24) ?hd (xs := ([(⟨(⟨#[108, 105, 110, 95, 101, 113]⟩ : ByteArray), (⟨#[99, 86, 107]⟩ : ByteArray)⟩ : S116), (⟨(⟨#[108, 105, 110, 95, 108, 101]⟩ : ByteArray), (⟨#[99, 86, 107]⟩ : ByteArray)⟩ : S116), (⟨(⟨#[108, 105, 110, 95, 110, 101]⟩ : ByteArray), (⟨#[99, 86, 107]⟩ : ByteArray)⟩ : S116), (⟨(⟨#[108, 105, 110, 95, 114, 101, 105, 102]⟩ : ByteArray), (⟨#[99, 86, 107, 119]⟩ : ByteArray)⟩ : S116), (⟨(⟨#[116, 105, 109, 101, 115]⟩ : ByteArray), (⟨#[118, 118, 118]⟩ : ByteArray)⟩ : S116), (⟨(⟨#[100, 105, 118]⟩ : ByteArray), (⟨#[118, 118, 118]⟩ : ByteArray)⟩ : S116), (⟨(⟨#[109, 111, 100]⟩ : ByteArray), (⟨#[118, 118, 118]⟩ : ByteArray)⟩ : S116), (⟨(⟨#[97, 98, 115]⟩ : ByteArray), (⟨#[118, 118]⟩ : ByteArray)⟩ : S116), (⟨(⟨#[109, 105, 110]⟩ : ByteArray), (⟨#[118, 118, 118]⟩ : ByteArray)⟩ : S116), (⟨(⟨#[109, 97, 120]⟩ : ByteArray), (⟨#[118, 118, 118]⟩ : ByteArray)⟩ : S116), (⟨(⟨#[101, 108, 101, 109, 101, 110, 116]⟩ : ByteArray), (⟨#[118, 99, 118]⟩ : ByteArray)⟩ : S116), (⟨(⟨#[99, 108, 97, 117, 115, 101]⟩ : ByteArray), (⟨#[86, 87]⟩ : ByteArray)⟩ : S116), (⟨(⟨#[101, 113, 95, 114, 101, 105, 102]⟩ : ByteArray), (⟨#[118, 107, 119]⟩ : ByteArray)⟩ : S116), (⟨(⟨#[108, 101, 95, 114, 101, 105, 102]⟩ : ByteArray), (⟨#[118, 107, 119]⟩ : ByteArray)⟩ : S116), (⟨(⟨#[101, 113, 95, 105, 109, 112]⟩ : ByteArray), (⟨#[118, 107, 119]⟩ : ByteArray)⟩ : S116), (⟨(⟨#[108, 101, 95, 105, 109, 112]⟩ : ByteArray), (⟨#[118, 107, 119]⟩ : ByteArray)⟩ : S116), (⟨(⟨#[97, 108, 108, 95, 100, 105, 102, 102, 101, 114, 101, 110, 116]⟩ : ByteArray), (⟨#[86]⟩ : ByteArray)⟩ : S116), (⟨(⟨#[116, 97, 98, 108, 101]⟩ : ByteArray), (⟨#[86, 114]⟩ : ByteArray)⟩ : S116), (⟨(⟨#[99, 117, 109, 117, 108, 97, 116, 105, 118, 101]⟩ : ByteArray), (⟨#[86, 99, 100, 107]⟩ : ByteArray)⟩ : S116), (⟨(⟨#[99, 105, 114, 99, 117, 105, 116]⟩ : ByteArray), (⟨#[86]⟩ : ByteArray)⟩ : S116), (⟨(⟨#[103, 99, 99]⟩ : ByteArray), (⟨#[86, 99, 100, 101]⟩ : ByteArray)⟩ : S116), (⟨(⟨#[108, 101, 120, 95, 108, 101]⟩ : ByteArray), (⟨#[86, 87]⟩ : ByteArray)⟩ : S116), (⟨(⟨#[105, 110, 118, 101, 114, 115, 101]⟩ : ByteArray), (⟨#[86, 87]⟩ : ByteArray)⟩ : S116)] : List (S116))) (inner := [.string (⟨#[108, 105, 110, 95, 101, 113]⟩ : ByteArray), .string (⟨#[99, 86, 107]⟩ : ByteArray), .string (⟨#[108, 105, 110, 95, 108, 101]⟩ : ByteArray), .string (⟨#[99, 86, 107]⟩ : ByteArray), .string (⟨#[108, 105, 110, 95, 110, 101]⟩ : ByteArray), .string (⟨#[99, 86, 107]⟩ : ByteArray), .string (⟨#[108, 105, 110, 95, 114, 101, 105, 102]⟩ : ByteArray), .string (⟨#[99, 86, 107, 119]⟩ : ByteArray), .string (⟨#[116, 105, 109, 101, 115]⟩ : ByteArray), .string (⟨#[118, 118, 118]⟩ : ByteArray), .string (⟨#[100, 105, 118]⟩ : ByteArray), .string (⟨#[118, 118, 118]⟩ : ByteArray), .string (⟨#[109, 111, 100]⟩ : ByteArray), .string (⟨#[118, 118, 118]⟩ : ByteArray), .string (⟨#[97, 98, 115]⟩ : ByteArray), .string (⟨#[118, 118]⟩ : ByteArray), .string (⟨#[109, 105, 110]⟩ : ByteArray), .string (⟨#[118, 118, 118]⟩ : ByteArray), .string (⟨#[109, 97, 120]⟩ : ByteArray), .string (⟨#[118, 118, 118]⟩ : ByteArray), .string (⟨#[101, 108, 101, 109, 101, 110, 116]⟩ : ByteArray), .string (⟨#[118, 99, 118]⟩ : ByteArray), .string (⟨#[99, 108, 97, 117, 115, 101]⟩ : ByteArray), .string (⟨#[86, 87]⟩ : ByteArray), .string (⟨#[101, 113, 95, 114, 101, 105, 102]⟩ : ByteArray), .string (⟨#[118, 107, 119]⟩ : ByteArray), .string (⟨#[108, 101, 95, 114, 101, 105, 102]⟩ : ByteArray), .string (⟨#[118, 107, 119]⟩ : ByteArray), .string (⟨#[101, 113, 95, 105, 109, 112]⟩ : ByteArray), .string (⟨#[118, 107, 119]⟩ : ByteArray), .string (⟨#[108, 101, 95, 105, 109, 112]⟩ : ByteArray), .string (⟨#[118, 107, 119]⟩ : ByteArray), .string (⟨#[97, 108, 108, 95, 100, 105, 102, 102, 101, 114, 101, 110, 116]⟩ : ByteArray), .string (⟨#[86]⟩ : ByteArray), .string (⟨#[116, 97, 98, 108, 101]⟩ : ByteArray), .string (⟨#[86, 114]⟩ : ByteArray), .string (⟨#[99, 117, 109, 117, 108, 97, 116, 105, 118, 101]⟩ : ByteArray), .string (⟨#[86, 99, 100, 107]⟩ : ByteArray), .string (⟨#[99, 105, 114, 99, 117, 105, 116]⟩ : ByteArray), .string (⟨#[86]⟩ : ByteArray), .string (⟨#[103, 99, 99]⟩ : ByteArray), .string (⟨#[86, 99, 100, 101]⟩ : ByteArray), .string (⟨#[108, 101, 120, 95, 108, 101]⟩ : ByteArray), .string (⟨#[86, 87]⟩ : ByteArray), .string (⟨#[105, 110, 118, 101, 114, 115, 101]⟩ : ByteArray), .string (⟨#[86, 87]⟩ : ByteArray)]) (ok := fun _ => True) (okp := fun _ => True) ?hr ?hp (fun _ hk => hk) trivial (Below.refl _ _) (lr_ _) (by simp) ?_; (case hd => rfl); (case hg => rfl); (case hr => first | (go_simp; done) | (go_simp; rfl)); (case hp => exact (Reps.c2 (show Kd.M k116 _ _ _ (⟨(⟨#[108, 105, 110, 95, 101, 113]⟩ : ByteArray), (⟨#[99, 86, 107]⟩ : ByteArray)⟩ : S116) [.string (⟨#[108, 105, 110, 95, 101, 113]⟩ : ByteArray), .string (⟨#[99, 86, 107]⟩ : ByteArray)] from (k116_mkM _ _ _ (⟨(⟨#[108, 105, 110, 95, 101, 113]⟩ : ByteArray), (⟨#[99, 86, 107]⟩ : ByteArray)⟩ : S116) )) (Reps.c2 (show Kd.M k116 _ _ _ (⟨(⟨#[108, 105, 110, 95, 108, 101]⟩ : ByteArray), (⟨#[99, 86, 107]⟩ : ByteArray)⟩ : S116) [.string (⟨#[108, 105, 110, 95, 108, 101]⟩ : ByteArray), .string (⟨#[99, 86, 107]⟩ : ByteArray)] from (k116_mkM _ _ _ (⟨(⟨#[108, 105, 110, 95, 108, 101]⟩ : ByteArray), (⟨#[99, 86, 107]⟩ : ByteArray)⟩ : S116) )) (Reps.c2 (show Kd.M k116 _ _ _ (⟨(⟨#[108, 105, 110, 95, 110, 101]⟩ : ByteArray), (⟨#[99, 86, 107]⟩ : ByteArray)⟩ : S116) [.string (⟨#[108, 105, 110, 95, 110, 101]⟩ : ByteArray), .string (⟨#[99, 86, 107]⟩ : ByteArray)] from (k116_mkM _ _ _ (⟨(⟨#[108, 105, 110, 95, 110, 101]⟩ : ByteArray), (⟨#[99, 86, 107]⟩ : ByteArray)⟩ : S116) )) (Reps.c2 (show Kd.M k116 _ _ _ (⟨(⟨#[108, 105, 110, 95, 114, 101, 105, 102]⟩ : ByteArray), (⟨#[99, 86, 107, 119]⟩ : ByteArray)⟩ : S116) [.string (⟨#[108, 105, 110, 95, 114, 101, 105, 102]⟩ : ByteArray), .string (⟨#[99, 86, 107, 119]⟩ : ByteArray)] from (k116_mkM _ _ _ (⟨(⟨#[108, 105, 110, 95, 114, 101, 105, 102]⟩ : ByteArray), (⟨#[99, 86, 107, 119]⟩ : ByteArray)⟩ : S116) )) (Reps.c2 (show Kd.M k116 _ _ _ (⟨(⟨#[116, 105, 109, 101, 115]⟩ : ByteArray), (⟨#[118, 118, 118]⟩ : ByteArray)⟩ : S116) [.string (⟨#[116, 105, 109, 101, 115]⟩ : ByteArray), .string (⟨#[118, 118, 118]⟩ : ByteArray)] from (k116_mkM _ _ _ (⟨(⟨#[116, 105, 109, 101, 115]⟩ : ByteArray), (⟨#[118, 118, 118]⟩ : ByteArray)⟩ : S116) )) (Reps.c2 (show Kd.M k116 _ _ _ (⟨(⟨#[100, 105, 118]⟩ : ByteArray), (⟨#[118, 118, 118]⟩ : ByteArray)⟩ : S116) [.string (⟨#[100, 105, 118]⟩ : ByteArray), .string (⟨#[118, 118, 118]⟩ : ByteArray)] from (k116_mkM _ _ _ (⟨(⟨#[100, 105, 118]⟩ : ByteArray), (⟨#[118, 118, 118]⟩ : ByteArray)⟩ : S116) )) (Reps.c2 (show Kd.M k116 _ _ _ (⟨(⟨#[109, 111, 100]⟩ : ByteArray), (⟨#[118, 118, 118]⟩ : ByteArray)⟩ : S116) [.string (⟨#[109, 111, 100]⟩ : ByteArray), .string (⟨#[118, 118, 118]⟩ : ByteArray)] from (k116_mkM _ _ _ (⟨(⟨#[109, 111, 100]⟩ : ByteArray), (⟨#[118, 118, 118]⟩ : ByteArray)⟩ : S116) )) (Reps.c2 (show Kd.M k116 _ _ _ (⟨(⟨#[97, 98, 115]⟩ : ByteArray), (⟨#[118, 118]⟩ : ByteArray)⟩ : S116) [.string (⟨#[97, 98, 115]⟩ : ByteArray), .string (⟨#[118, 118]⟩ : ByteArray)] from (k116_mkM _ _ _ (⟨(⟨#[97, 98, 115]⟩ : ByteArray), (⟨#[118, 118]⟩ : ByteArray)⟩ : S116) )) (Reps.c2 (show Kd.M k116 _ _ _ (⟨(⟨#[109, 105, 110]⟩ : ByteArray), (⟨#[118, 118, 118]⟩ : ByteArray)⟩ : S116) [.string (⟨#[109, 105, 110]⟩ : ByteArray), .string (⟨#[118, 118, 118]⟩ : ByteArray)] from (k116_mkM _ _ _ (⟨(⟨#[109, 105, 110]⟩ : ByteArray), (⟨#[118, 118, 118]⟩ : ByteArray)⟩ : S116) )) (Reps.c2 (show Kd.M k116 _ _ _ (⟨(⟨#[109, 97, 120]⟩ : ByteArray), (⟨#[118, 118, 118]⟩ : ByteArray)⟩ : S116) [.string (⟨#[109, 97, 120]⟩ : ByteArray), .string (⟨#[118, 118, 118]⟩ : ByteArray)] from (k116_mkM _ _ _ (⟨(⟨#[109, 97, 120]⟩ : ByteArray), (⟨#[118, 118, 118]⟩ : ByteArray)⟩ : S116) )) (Reps.c2 (show Kd.M k116 _ _ _ (⟨(⟨#[101, 108, 101, 109, 101, 110, 116]⟩ : ByteArray), (⟨#[118, 99, 118]⟩ : ByteArray)⟩ : S116) [.string (⟨#[101, 108, 101, 109, 101, 110, 116]⟩ : ByteArray), .string (⟨#[118, 99, 118]⟩ : ByteArray)] from (k116_mkM _ _ _ (⟨(⟨#[101, 108, 101, 109, 101, 110, 116]⟩ : ByteArray), (⟨#[118, 99, 118]⟩ : ByteArray)⟩ : S116) )) (Reps.c2 (show Kd.M k116 _ _ _ (⟨(⟨#[99, 108, 97, 117, 115, 101]⟩ : ByteArray), (⟨#[86, 87]⟩ : ByteArray)⟩ : S116) [.string (⟨#[99, 108, 97, 117, 115, 101]⟩ : ByteArray), .string (⟨#[86, 87]⟩ : ByteArray)] from (k116_mkM _ _ _ (⟨(⟨#[99, 108, 97, 117, 115, 101]⟩ : ByteArray), (⟨#[86, 87]⟩ : ByteArray)⟩ : S116) )) (Reps.c2 (show Kd.M k116 _ _ _ (⟨(⟨#[101, 113, 95, 114, 101, 105, 102]⟩ : ByteArray), (⟨#[118, 107, 119]⟩ : ByteArray)⟩ : S116) [.string (⟨#[101, 113, 95, 114, 101, 105, 102]⟩ : ByteArray), .string (⟨#[118, 107, 119]⟩ : ByteArray)] from (k116_mkM _ _ _ (⟨(⟨#[101, 113, 95, 114, 101, 105, 102]⟩ : ByteArray), (⟨#[118, 107, 119]⟩ : ByteArray)⟩ : S116) )) (Reps.c2 (show Kd.M k116 _ _ _ (⟨(⟨#[108, 101, 95, 114, 101, 105, 102]⟩ : ByteArray), (⟨#[118, 107, 119]⟩ : ByteArray)⟩ : S116) [.string (⟨#[108, 101, 95, 114, 101, 105, 102]⟩ : ByteArray), .string (⟨#[118, 107, 119]⟩ : ByteArray)] from (k116_mkM _ _ _ (⟨(⟨#[108, 101, 95, 114, 101, 105, 102]⟩ : ByteArray), (⟨#[118, 107, 119]⟩ : ByteArray)⟩ : S116) )) (Reps.c2 (show Kd.M k116 _ _ _ (⟨(⟨#[101, 113, 95, 105, 109, 112]⟩ : ByteArray), (⟨#[118, 107, 119]⟩ : ByteArray)⟩ : S116) [.string (⟨#[101, 113, 95, 105, 109, 112]⟩ : ByteArray), .string (⟨#[118, 107, 119]⟩ : ByteArray)] from (k116_mkM _ _ _ (⟨(⟨#[101, 113, 95, 105, 109, 112]⟩ : ByteArray), (⟨#[118, 107, 119]⟩ : ByteArray)⟩ : S116) )) (Reps.c2 (show Kd.M k116 _ _ _ (⟨(⟨#[108, 101, 95, 105, 109, 112]⟩ : ByteArray), (⟨#[118, 107, 119]⟩ : ByteArray)⟩ : S116) [.string (⟨#[108, 101, 95, 105, 109, 112]⟩ : ByteArray), .string (⟨#[118, 107, 119]⟩ : ByteArray)] from (k116_mkM _ _ _ (⟨(⟨#[108, 101, 95, 105, 109, 112]⟩ : ByteArray), (⟨#[118, 107, 119]⟩ : ByteArray)⟩ : S116) )) (Reps.c2 (show Kd.M k116 _ _ _ (⟨(⟨#[97, 108, 108, 95, 100, 105, 102, 102, 101, 114, 101, 110, 116]⟩ : ByteArray), (⟨#[86]⟩ : ByteArray)⟩ : S116) [.string (⟨#[97, 108, 108, 95, 100, 105, 102, 102, 101, 114, 101, 110, 116]⟩ : ByteArray), .string (⟨#[86]⟩ : ByteArray)] from (k116_mkM _ _ _ (⟨(⟨#[97, 108, 108, 95, 100, 105, 102, 102, 101, 114, 101, 110, 116]⟩ : ByteArray), (⟨#[86]⟩ : ByteArray)⟩ : S116) )) (Reps.c2 (show Kd.M k116 _ _ _ (⟨(⟨#[116, 97, 98, 108, 101]⟩ : ByteArray), (⟨#[86, 114]⟩ : ByteArray)⟩ : S116) [.string (⟨#[116, 97, 98, 108, 101]⟩ : ByteArray), .string (⟨#[86, 114]⟩ : ByteArray)] from (k116_mkM _ _ _ (⟨(⟨#[116, 97, 98, 108, 101]⟩ : ByteArray), (⟨#[86, 114]⟩ : ByteArray)⟩ : S116) )) (Reps.c2 (show Kd.M k116 _ _ _ (⟨(⟨#[99, 117, 109, 117, 108, 97, 116, 105, 118, 101]⟩ : ByteArray), (⟨#[86, 99, 100, 107]⟩ : ByteArray)⟩ : S116) [.string (⟨#[99, 117, 109, 117, 108, 97, 116, 105, 118, 101]⟩ : ByteArray), .string (⟨#[86, 99, 100, 107]⟩ : ByteArray)] from (k116_mkM _ _ _ (⟨(⟨#[99, 117, 109, 117, 108, 97, 116, 105, 118, 101]⟩ : ByteArray), (⟨#[86, 99, 100, 107]⟩ : ByteArray)⟩ : S116) )) (Reps.c2 (show Kd.M k116 _ _ _ (⟨(⟨#[99, 105, 114, 99, 117, 105, 116]⟩ : ByteArray), (⟨#[86]⟩ : ByteArray)⟩ : S116) [.string (⟨#[99, 105, 114, 99, 117, 105, 116]⟩ : ByteArray), .string (⟨#[86]⟩ : ByteArray)] from (k116_mkM _ _ _ (⟨(⟨#[99, 105, 114, 99, 117, 105, 116]⟩ : ByteArray), (⟨#[86]⟩ : ByteArray)⟩ : S116) )) (Reps.c2 (show Kd.M k116 _ _ _ (⟨(⟨#[103, 99, 99]⟩ : ByteArray), (⟨#[86, 99, 100, 101]⟩ : ByteArray)⟩ : S116) [.string (⟨#[103, 99, 99]⟩ : ByteArray), .string (⟨#[86, 99, 100, 101]⟩ : ByteArray)] from (k116_mkM _ _ _ (⟨(⟨#[103, 99, 99]⟩ : ByteArray), (⟨#[86, 99, 100, 101]⟩ : ByteArray)⟩ : S116) )) (Reps.c2 (show Kd.M k116 _ _ _ (⟨(⟨#[108, 101, 120, 95, 108, 101]⟩ : ByteArray), (⟨#[86, 87]⟩ : ByteArray)⟩ : S116) [.string (⟨#[108, 101, 120, 95, 108, 101]⟩ : ByteArray), .string (⟨#[86, 87]⟩ : ByteArray)] from (k116_mkM _ _ _ (⟨(⟨#[108, 101, 120, 95, 108, 101]⟩ : ByteArray), (⟨#[86, 87]⟩ : ByteArray)⟩ : S116) )) (Reps.c2 (show Kd.M k116 _ _ _ (⟨(⟨#[105, 110, 118, 101, 114, 115, 101]⟩ : ByteArray), (⟨#[86, 87]⟩ : ByteArray)⟩ : S116) [.string (⟨#[105, 110, 118, 101, 114, 115, 101]⟩ : ByteArray), .string (⟨#[86, 87]⟩ : ByteArray)] from (k116_mkM _ _ _ (⟨(⟨#[105, 110, 118, 101, 114, 115, 101]⟩ : ByteArray), (⟨#[86, 87]⟩ : ByteArray)⟩ : S116) )) (Reps.none _ _))))))))))))))))))))))))); intro m w1 b hb hg_ hnew_; clear hg_ hnew_; (first | rw [← c.out] at b | (simp only [Int.reduceToNat] at b; rw [← c.out] at b)); have d := a_ (Kd.R_lower b (bz_ bel_)); replace HB := hq_ hb; clear hb b))
 go_ret
 exact ⟨_, er_, vR_ d.out, bel_⟩

/-! ### model_Word: function 88 -/
def model_Word.f (a : Int) : Option (ByteArray × Bool) := if a < 1 then (none) else ((model_forms.f).bind fun c => (if a > (c.length : Int) then (none) else ((model_forms.f).bind fun b => (if 0 ≤ (wrap64 (a - 1)) then (if (wrap64 (a - 1)) < (b.length : Int) then (some ((rd_T116 b (wrap64 (a - 1))).f0, true)) else (none)) else (none)))))
set_option maxHeartbeats 8000000 in
set_option maxRecDepth 100000 in
theorem model_Word.calls (d : Int) (p : ByteArray) (q : Bool) (w : World) (h : model_Word.f d = some (p, q)) :
  Calls Tryz.prog 88 #[.int .i64 d] w fun e w' => e = .returned (.tuple #[.string p, .bool q]) ∧ Below w.heap.size w w' := by
 have HB := a_ (Below.refl w.heap.size w)
 unfold model_Word.f at h
 have H := h
 clear h
 by_cases c2 : d < 1
 ·
  rw [ip_ c2] at H
  exact absurd H (by simp)
 rw [ig_ c2] at H
 have c2b0 : decide (d < 1) = false := df_ c2
 clear c2
 replace H := bo_ H
 obtain ⟨l, x, H⟩ := H
 try dsimp only at H
 by_cases c4 : d > (l.length : Int)
 ·
  rw [ip_ c4] at H
  exact absurd H (by simp)
 rw [ig_ c4] at H
 have c4b0 : decide ((l.length : Int) < d) = false := df_ c4
 clear c4
 replace H := bo_ H
 obtain ⟨b, y, H⟩ := H
 try dsimp only at H
 obtain ⟨a, c⟩ : ∃ j_ : Int, (wrap64 (d - 1)) = j_ := ⟨_, rfl⟩
 replace H : (if 0 ≤ (a) then (if (a) < (b.length : Int) then (some ((rd_T116 b (a)).f0, true)) else (none)) else (none)) = some (p, q) := by first | (rw [c] at H; exact H) | (simp only [c] at H ⊢; exact H)
 (try rw [c] at x)
 (try rw [c] at y)
 have hji6w : (IntKind.i64.wrap (d - 1)) = a := (i64_w _).trans c
 by_cases c7 : 0 ≤ (a)
 rotate_left
 ·
  rw [ig_ c7] at H
  exact absurd H (by simp)
 rw [ip_ c7] at H
 have c7b0 : decide (0 ≤ (a)) = true := dt_ c7
 clear c7
 by_cases c8 : (a) < (b.length : Int)
 rotate_left
 ·
  rw [ig_ c8] at H
  exact absurd H (by simp)
 rw [ip_ c8] at H
 have c8b0 : decide ((a) < (b.length : Int)) = true := dt_ c8
 clear c8
 simp only [Option.some.injEq, Prod.mk.injEq] at H
 obtain ⟨rfl, rfl⟩ := H
 go_enter Tryz.func88, Tryz.ntmps88
 go_wp2_with (first | (go_at_call 89; (with_reducible refine (model_forms.calls l _ x.out).mono ?_); rintro e w9 ⟨A, rfl, g, hb⟩; have n := a_ (Kd.R_lower g (bz_ bel_)); replace HB := hq_ hb; clear hb g; obtain ⟨B, C, r⟩ := Kd.R_slice n.out; subst r) | ((with_reducible refine gate_callee (f := 89) rfl ?_); refine goesL_ (some 12) rfl rfl Tryz.func89 kr_ rfl #[] rfl ar_ ?_; (with_reducible refine (model_forms.calls b _ y.out).mono ?_); rintro e w11 ⟨E, rfl, g, hb⟩; refine ⟨_, rfl, ?_⟩; have o := a_ (Kd.R_lower (Kd.R_new' g (rl_ (vR_ n.out))) (bz_ bel_)); replace HB := hq_ hb; clear hb g; obtain ⟨F, G, s⟩ := Kd.R_slice o.out; subst s; have p292 : 0 ≤ ((a) : Int) := dq_; have m : (a) < (b.length : Int) := dq_; obtain ⟨z, t, u, v⟩ := at_T116 (rr_ o.out).2.2 (a) p292 m; cases t; replace p292 := et_ p292; replace m := et_ m))
 go_ret2
 exact ⟨by first | rfl | (simp [errW_none, errW_some] <;> rfl) | (simp only [← c]; first | rfl | (simp [errW_none, errW_some] <;> rfl)) | (simp [*, errW_none, errW_some] <;> rfl), bel_⟩

/-! ### model_Shape: function 74 -/
def model_Shape.f (b : Int) : Option (ByteArray) := (model_Word.f b).bind fun c => (if c.2 = true then ((model_forms.f).bind fun a => (if 0 ≤ (wrap64 (b - 1)) then (if (wrap64 (b - 1)) < (a.length : Int) then (some ((rd_T116 a (wrap64 (b - 1))).f1)) else (none)) else (none))) else (none))
set_option maxHeartbeats 8000000 in
set_option maxRecDepth 100000 in
theorem model_Shape.calls (l : Int) (r : ByteArray) (w : World) (h : model_Shape.f l = some r) :
  Calls Tryz.prog 74 #[.int .i64 l] w fun e w' => e = .returned (.string r) ∧ Below w.heap.size w w' := by
 have HB := a_ (Below.refl w.heap.size w)
 unfold model_Shape.f at h
 have H := h
 clear h
 replace H := bs_.mp H
 obtain ⟨⟨o, p⟩, m, H⟩ := H
 try dsimp only at H
 have v := a_ m
 clear m
 by_cases c3 : p = true
 rotate_left
 ·
  replace c3 := bf_.mpr c3
  subst c3
  have H1 : (none) = some r := by rw [ig_ (show ¬ (false = true) by decide)] at H; exact H
  clear H
  have H := H1
  clear H1
  exact absurd H (by simp)
 subst c3
 rw [ip_ rfl] at H
 replace H := bo_ H
 obtain ⟨b, x, H⟩ := H
 try dsimp only at H
 obtain ⟨a, c⟩ : ∃ j_ : Int, (wrap64 (l - 1)) = j_ := ⟨_, rfl⟩
 replace H : (if 0 ≤ (a) then (if (a) < (b.length : Int) then (some ((rd_T116 b (a)).f1)) else (none)) else (none)) = some r := by first | (rw [c] at H; exact H) | (simp only [c] at H ⊢; exact H)
 (try rw [c] at v)
 (try rw [c] at x)
 have hji5w : (IntKind.i64.wrap (l - 1)) = a := (i64_w _).trans c
 by_cases c6 : 0 ≤ (a)
 rotate_left
 ·
  rw [ig_ c6] at H
  exact absurd H (by simp)
 rw [ip_ c6] at H
 have c6b0 : decide (0 ≤ (a)) = true := dt_ c6
 clear c6
 by_cases c7 : (a) < (b.length : Int)
 rotate_left
 ·
  rw [ig_ c7] at H
  exact absurd H (by simp)
 rw [ip_ c7] at H
 have c7b0 : decide ((a) < (b.length : Int)) = true := dt_ c7
 clear c7
 obtain rfl := si_ H
 go_enter Tryz.func74, Tryz.ntmps74
 go_wp2_with (first | ((with_reducible refine gate_callee (f := 88) rfl ?_); refine goesL_ (some 7) rfl rfl Tryz.func88 kr_ rfl #[.int .i64 l] rfl ar_ ?_; (with_reducible refine (model_Word.calls l o true _ v.out).mono ?_); rintro e w8 ⟨rfl, hb⟩; refine ⟨_, rfl, ?_⟩; replace HB := hq_ hb; clear hb) | ((with_reducible refine gate_callee (f := 89) rfl ?_); refine goesL_ (some 12) rfl rfl Tryz.func89 kr_ rfl #[] rfl ar_ ?_; (with_reducible refine (model_forms.calls  b _ x.out).mono ?_); rintro e w9 ⟨z, rfl, n, hb⟩; refine ⟨_, rfl, ?_⟩; have g := a_ (Kd.R_lower n (bz_ bel_)); replace HB := hq_ hb; clear hb n; obtain ⟨A, B, q⟩ := Kd.R_slice g.out; subst q; have p298 : 0 ≤ ((a) : Int) := dq_; have d : (a) < (b.length : Int) := dq_; obtain ⟨y, s, t, u⟩ := at_T116 (rr_ g.out).2.2 (a) p298 d; cases s; replace p298 := et_ p298; replace d := et_ d))
 go_ret
 exact ⟨by first | rfl | (simp [errW_none, errW_some] <;> rfl) | (simp only [← c]; first | rfl | (simp [errW_none, errW_some] <;> rfl)) | (simp [*, errW_none, errW_some] <;> rfl), bel_⟩

/-! ### strings_Contains: function 77 -/
def strings_Contains.f (a : ByteArray) (b : ByteArray) : Option Bool := match b.data.toList with
 | [c] => some (decide (0 ≤ Lib.indexByte a.data.toList c))
 | _ => none
theorem one_byte (s : ByteArray) (c : UInt8) (h : s.data.toList = [c]) : s = ⟨#[c]⟩ := by
 obtain ⟨⟨l⟩⟩ := s
 simp only at h
 subst h; rfl
theorem strings_Contains.calls (a : ByteArray) (b : ByteArray) (r : Bool) (w : World) (h : strings_Contains.f a b = some r) :
  Calls Tryz.prog 77 #[.string a, .string b] w fun e w' => e = .returned (.bool r) ∧ Drawn0 w w' := by
 unfold strings_Contains.f at h
 split at h
 ·
  rename_i c hc
  obtain rfl := Option.some.inj h
  rw [one_byte b c hc]
  exact (Tryz.strings_Contains_one a c w).mono (fun e w' ⟨he, hw⟩ => ⟨he, by subst hw; exact Drawn0.refl _⟩)
 cases h

/-! ### model_within: function 90 -/
def model_within.f (a : Int) (b : Int) (c : Int) : Option (Bool) := if a ≥ b then (some (decide (a ≤ c))) else (some false)
set_option maxHeartbeats 8000000 in
set_option maxRecDepth 100000 in
theorem model_within.calls (a : Int) (b : Int) (c : Int) (r : Bool) (w : World) (h : model_within.f a b c = some r) :
  Calls Tryz.prog 90 #[.int .i64 a, .int .i64 b, .int .i64 c] w fun e w' => e = .returned (.bool r) ∧ Drawn0 w w' := by
 unfold model_within.f at h
 have H := h
 clear h
 by_cases c4 : a ≥ b
 ·
  rw [ip_ c4] at H
  have c4b0 : decide (b ≤ a) = true := dt_ c4
  clear c4
  obtain rfl := si_ H
  go_enter Tryz.func90, Tryz.ntmps90
  go_wp2
  go_ret
  exact ⟨by first | rfl | (simp; done) | (simp [*]; done), by repeat (first | exact d0_ _ | apply Drawn0.step)⟩
 rw [ig_ c4] at H
 have c4b0 : decide (b ≤ a) = false := df_ c4
 clear c4
 obtain rfl := si_ H
 go_enter Tryz.func90, Tryz.ntmps90
 go_wp2
 go_ret
 exact ⟨by first | rfl | (simp; done) | (simp [*]; done), by repeat (first | exact d0_ _ | apply Drawn0.step)⟩

/-! ### model_counted: function 75 -/
def model_counted.f (c : Int) (a : List Int) (b : List Int) (d : List Int) (e : List Int) (g : List Int) (n : Int) (l : List (List Int)) (o : ByteArray) : Option (Bool) := if c = 12 then ((model_within.f (wrap64 ((a.length : Int) + (b.length : Int))) 1 128).bind fun m => (if m = true then (if (mx (a.length : Int) (b.length : Int)) ≤ 64 then (some ((wrap64 ((wrap64 ((wrap64 ((d.length : Int) + (e.length : Int))) + (g.length : Int))) + (l.length : Int))) == 0)) else (some false)) else (some false))) else (none)
set_option maxHeartbeats 8000000 in
set_option maxRecDepth 100000 in
theorem model_counted.calls (m : Int) (u : Option Addr) (c0_1 : Nat) (a : List Int) (v : Option Addr) (c0_2 : Nat) (b : List Int) (x : Option Addr) (c0_3 : Nat) (c : List Int) (y : Option Addr) (c0_4 : Nat) (d : List Int) (z : Option Addr) (c0_5 : Nat) (g : List Int) (A : Int) (B : Option Addr) (c0_7 : Nat) (l : List (List Int)) (a1 : ByteArray) (r : Bool) (w : World) (P : Kd.C (Kd.int .i64) w u a.length a) (E : a.length ≤ c0_1) (Q : Kd.C (Kd.int .i64) w v b.length b) (F : b.length ≤ c0_2) (U : Kd.C (Kd.int .i64) w x c.length c) (G : c.length ≤ c0_3) (V : Kd.C (Kd.int .i64) w y d.length d) (I : d.length ≤ c0_4) (W : Kd.C (Kd.int .i64) w z g.length g) (J : g.length ≤ c0_5) (X : Kd.C (Kd.slice 3 (Kd.int .i64)) w B l.length l) (K : l.length ≤ c0_7) (h : model_counted.f m a b c d g A l a1 = some r) :
  Calls Tryz.prog 75 #[.agg #[.int .i64 m, .slice u a.length c0_1, .slice v b.length c0_2, .slice x c.length c0_3, .slice y d.length c0_4, .slice z g.length c0_5, .int .i64 A, .slice B l.length c0_7], .string a1] w fun e w' => e = .returned (.bool r) ∧ Below w.heap.size w w' := by
 have hu32 := Tryz.underlying32
 have ab := a_ E
 clear P E
 have ac := a_ F
 clear Q F
 have ad := a_ G
 clear U G
 have ae := a_ I
 clear V I
 have af := a_ J
 clear W J
 have ag := a_ K
 clear X K
 have HB := a_ (Below.refl w.heap.size w)
 unfold model_counted.f at h
 have H := h
 clear h
 by_cases c3 : m = 12
 rotate_left
 ·
  rw [ig_ c3] at H
  exact absurd H (by simp)
 rw [ip_ c3] at H
 have c3b0 : (m == 12) = true := beq_iff_eq.mpr c3
 have c3b1 : (m != 12) = false := bn_.mpr c3
 clear c3
 replace H := bo_ H
 obtain ⟨Z, Y, H⟩ := H
 try dsimp only at H
 by_cases c5 : Z = true
 rotate_left
 ·
  replace c5 := bf_.mpr c5
  subst c5
  have H1 : (some false) = some r := by rw [ig_ (show ¬ (false = true) by decide)] at H; exact H
  clear H
  have H := H1
  clear H1
  obtain rfl := si_ H
  go_enter Tryz.func75, Tryz.ntmps75
  go_wp2_with (first | ((with_reducible refine gate_dst (N := 2) rfl ?_); (try (refine gate_guard (by rfl) ?_; dsimp only)); refine bxe_ (N := 2) (cs := #[.int .i64 m, .slice u a.length c0_1, .slice v b.length c0_2, .slice x c.length c0_3, .slice y d.length c0_4, .slice z g.length c0_5, .int .i64 A, .slice B l.length c0_7]) (t := 32) ?_; intro p hg w12 hbox hb; have q := a_ (hbox); have s := a_ (by rw [hg]; exact (bz_ bel_) : w.heap.size ≤ p); have O := s; replace HB := hq_ hb; clear hb hbox hg; obtain ⟨_, _, _, _, _, _, _, _, _, _, _, _, _, _, _, _⟩ := cel8_ q.out) | ((with_reducible refine gate_callee (f := 90) rfl ?_); refine goesL_ (some 16) rfl rfl Tryz.func90 kr_ rfl #[.int .i64 (wrap64 ((a.length : Int) + (b.length : Int))), .int .i64 1, .int .i64 128] rfl ar_ ?_; (with_reducible refine (model_within.calls (wrap64 ((a.length : Int) + (b.length : Int))) 1 128 false _ Y.out).mono ?_); rintro e w' ⟨rfl, ⟨nd, rfl⟩⟩; refine ⟨_, rfl, ?_⟩))
  go_ret
  exact ⟨er_, bel_⟩
 subst c5
 rw [ip_ rfl] at H
 obtain ⟨o, n⟩ : ∃ j_ : Int, (mx (a.length : Int) (b.length : Int)) = j_ := ⟨_, rfl⟩
 replace H : (if (o) ≤ 64 then (some ((wrap64 ((wrap64 ((wrap64 ((c.length : Int) + (d.length : Int))) + (g.length : Int))) + (l.length : Int))) == 0)) else (some false)) = some r := by first | (rw [n] at H; exact H) | (simp only [n] at H ⊢; exact H)
 (try rw [n] at Y)
 (try (have hji6l : 0 ≤ o := by (rw [← n]; unfold mx; (repeat' split) <;> omega)))
 (try (have hji6m : 0 ≤ o := by omega))
 have M : (if (a.length : Int) < (b.length : Int) then (b.length : Int) else (a.length : Int)) = o := n
 (try (have hji6N : (if a.length < b.length then (b.length : Int) else (a.length : Int)) = o := by (rw [← M]; (repeat' split) <;> omega)))
 (try (have hji6M : (((if a.length < b.length then b.length else a.length) : Nat) : Int) = o := by (rw [← M]; (repeat' split) <;> omega)))
 by_cases c7 : (o) ≤ 64
 ·
  rw [ip_ c7] at H
  have c7b0 : decide ((o) ≤ 64) = true := dt_ c7
  clear c7
  obtain rfl := si_ H
  go_enter Tryz.func75, Tryz.ntmps75
  go_wp2_with (first | ((with_reducible refine gate_dst (N := 2) rfl ?_); (try (refine gate_guard (by rfl) ?_; dsimp only)); refine bxe_ (N := 2) (cs := #[.int .i64 m, .slice u a.length c0_1, .slice v b.length c0_2, .slice x c.length c0_3, .slice y d.length c0_4, .slice z g.length c0_5, .int .i64 A, .slice B l.length c0_7]) (t := 32) ?_; intro p hg w8 hbox hb; have q := a_ (hbox); have s := a_ (by rw [hg]; exact (bz_ bel_) : w.heap.size ≤ p); have O := s; replace HB := hq_ hb; clear hb hbox hg; obtain ⟨_, _, _, _, _, _, _, _, _, _, _, _, _, _, _, _⟩ := cel8_ q.out) | ((with_reducible refine gate_callee (f := 90) rfl ?_); refine goesL_ (some 16) rfl rfl Tryz.func90 kr_ rfl #[.int .i64 (wrap64 ((a.length : Int) + (b.length : Int))), .int .i64 1, .int .i64 128] rfl ar_ ?_; (with_reducible refine (model_within.calls (wrap64 ((a.length : Int) + (b.length : Int))) 1 128 true _ Y.out).mono ?_); rintro e w' ⟨rfl, ⟨nd, rfl⟩⟩; refine ⟨_, rfl, ?_⟩))
  go_ret
  exact ⟨by first | rfl | (simp [errW_none, errW_some] <;> rfl) | (simp only [← n]; first | rfl | (simp [errW_none, errW_some] <;> rfl)) | (simp [*, errW_none, errW_some] <;> rfl), bel_⟩
 rw [ig_ c7] at H
 have c7b0 : decide ((o) ≤ 64) = false := df_ c7
 clear c7
 obtain rfl := si_ H
 go_enter Tryz.func75, Tryz.ntmps75
 go_wp2_with (first | ((with_reducible refine gate_dst (N := 2) rfl ?_); (try (refine gate_guard (by rfl) ?_; dsimp only)); refine bxe_ (N := 2) (cs := #[.int .i64 m, .slice u a.length c0_1, .slice v b.length c0_2, .slice x c.length c0_3, .slice y d.length c0_4, .slice z g.length c0_5, .int .i64 A, .slice B l.length c0_7]) (t := 32) ?_; intro p hg w10 hbox hb; have q := a_ (hbox); have s := a_ (by rw [hg]; exact (bz_ bel_) : w.heap.size ≤ p); have O := s; replace HB := hq_ hb; clear hb hbox hg; obtain ⟨_, _, _, _, _, _, _, _, _, _, _, _, _, _, _, _⟩ := cel8_ q.out) | ((with_reducible refine gate_callee (f := 90) rfl ?_); refine goesL_ (some 16) rfl rfl Tryz.func90 kr_ rfl #[.int .i64 (wrap64 ((a.length : Int) + (b.length : Int))), .int .i64 1, .int .i64 128] rfl ar_ ?_; (with_reducible refine (model_within.calls (wrap64 ((a.length : Int) + (b.length : Int))) 1 128 true _ Y.out).mono ?_); rintro e w' ⟨rfl, ⟨nd, rfl⟩⟩; refine ⟨_, rfl, ?_⟩))
 go_ret
 exact ⟨by first | rfl | (simp [errW_none, errW_some] <;> rfl) | (simp only [← n]; first | rfl | (simp [errW_none, errW_some] <;> rfl)) | (simp [*, errW_none, errW_some] <;> rfl), bel_⟩

end Go.Proofs.YtmhchlbbfpmdgaaGreatDoor.XClauseRefuses
