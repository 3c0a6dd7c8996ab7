-- by xprint.py, a program of this session, over the kit's print
import Derived.Test.YtckfbfdnlpnllaaGreatDoorXAFix0
import Derived.Test.YtckfbfdnlpnllaaGreatDoorXAFix12
import Derived.Test.YtckfbfdnlpnllaaGreatDoorSq
namespace Go.Proofs.YtckfbfdnlpnllaaGreatDoor.XAllDiffFilters
open Go.RowKit Go.Proofs.YtckfbfdnlpnllaaGreatDoor.Sq Go.Proofs.YtckfbfdnlpnllaaGreatDoorW.PrintWords Go.Proofs.YtckfbfdnlpnllaaGreatDoorW.PrintLast Go.Proofs.YtckfbfdnlpnllaaGreatDoorW.PrintMore
attribute [local go_sem] max2_int min2_int max_two min_two max_three min_three max_four min_four   -- for this text's walks alone
set_option linter.unusedVariables false
set_option linter.unusedSimpArgs false

/-! ### dom_Dom_Has: function 23 -/
def dom_Dom_Has.f (c : Int) (d : List Int) (e : Int) (g : Int) (l : Int) (a : Int) : Option (Bool) := (dom_in.f a).bind fun m => (if m = true then ((dom_place.f a).bind fun n => ((dom_Dom_word.f c d e g l n).bind fun o => ((dom_place.f a).bind fun b => (if 0 ≤ (wrap64 (a - b)) then (some ((Go.bits .and .u64 (shr .u64 o (wrap64 (a - b))) 1) == 1)) else (none))))) else (some false))
def dom_Dom_Has.T1 : Bool × List (List Nat × List Nat) := (true, [([], []), ([0], [0]), ([1, 1], [1]), ([2], [2]), ([2], [2]), ([4, 2, 2], [2, 4]), ([3, 5, 5, 2], [2, 3, 5]), ([2], [2]), ([2], [2]), ([8, 6, 2], [2, 8]), ([7, 9, 2], [2, 7, 9]), ([6, 10, 2], [2, 6, 10]), ([11, 2], [2, 11]), ([12, 2], [2, 12]), ([2, 13], [2, 13]), ([14, 9, 0, 1, 2, 3, 4, 5, 6, 7, 8, 9, 10, 11, 12, 13, 14], [14])])
def dom_Dom_Has.B1 : List Nat := [0, 1, 3, 7, 7, 23, 63, 7, 7, 383, 1023, 2047, 4095, 8191, 16383, 32767]
theorem dom_Dom_Has.tab1 : rtab .any (opsOf Tryz.f23 1) = dom_Dom_Has.T1 := by kernel_rfl
theorem dom_Dom_Has.bits1 : waitsOk dom_Dom_Has.T1.2 dom_Dom_Has.B1 = true := by kernel_rfl
set_option maxHeartbeats 8000000 in
set_option maxRecDepth 100000 in
theorem dom_Dom_Has.calls (l : Int) (s : Option Addr) (c0_1 : Nat) (d : List Int) (m : Int) (o : Int) (p : Int) (u : Int) (r : Bool) (w : World) (B : Kd.C (Kd.int .u64) w s d.length d) (E : d.length ≤ c0_1) (h : dom_Dom_Has.f l d m o p u = some r) :
  Calls Tryz.prog 23 #[.agg #[.int .i64 l, .slice s d.length c0_1, .int .i64 m, .int .i64 o, .int .i64 p], .int .i64 u] w fun e w' => e = .returned (.bool r) ∧ Below w.heap.size w w' := by
 have hu57 := Tryz.underlying57
 have F := a_ B
 have G := a_ E
 clear B E
 have HB := a_ (Below.refl w.heap.size w)
 unfold dom_Dom_Has.f at h
 have H := h
 clear h
 replace H := bo_ H
 obtain ⟨M, I, H⟩ := H
 try dsimp only at H
 by_cases c4 : M = true
 rotate_left
 ·
  replace c4 := bf_.mpr c4
  subst c4
  have H1 : (some false) = some r := by rw [ig_ (show ¬ (false = true) by decide)] at H; exact H
  clear H
  have H := H1
  clear H1
  obtain rfl := si_ H
  go_enter Tryz.func23, Tryz.ntmps23
  try go_wp2_with (first | ((with_reducible refine gate_dst (N := 2) rfl ?_); refine bxe_ (N := 2) (cs := #[.int .i64 l, .slice s d.length c0_1, .int .i64 m, .int .i64 o, .int .i64 p]) (t := 57) ?_; intro c hg w14 hbox hb; have x := a_ (by rw [hg]; exact (bz_ bel_) : w.heap.size ≤ c); have J := x; replace HB := hq_ hb; clear hb hbox hg))
  replace HB := a_ (below_drew1 HB.out)
  refine start_ (n := 16) (S := fun w' => True) (ds := []) #[false, false, false, false, false, false, false, false, false, false, false, false, false, false, false, false] kr_ rfl rfl trivial (fun hHeld => ?_); refine with_tabW dom_Dom_Has.tab1 dom_Dom_Has.bits1 (fun HT_ HW_ => ?_)
  generalize w14.drew = w15 at HB hHeld ⊢
  refine pn_ 0 5 ao_ ?_
  refine onn_ 1 6 #[true, true, false, false, false, false, false, false, false, false, false, false, false, false, false, false] rfl rfl on_ (by decide) (fun K hK => ?_)
  refine goes_ Tryz.func49 kr_ rfl #[.int .i64 u] (by rfl) rfl rfl ar_ ?_
  with_reducible refine (dom_in.calls u false _ I.out).mono ?_
  rintro e w' ⟨rfl, ⟨nd, rfl⟩⟩
  refine ⟨_, rfl, ?_⟩
  refine hK.out _ _ trivial (fun hHeld => ?_)
  clear hK K
  refine nor_ (N := some 6) ?_
  refine pn_ 2 7 ao_ ?_
  refine und_ (i := 3) (N := some 8) ao_ ?_
  refine und_ (i := 4) (N := some 9) ao_ ?_
  refine und_ (i := 5) (N := some 10) ao_ ?_
  refine und_ (i := 6) (N := some 11) ao_ ?_
  refine und_ (i := 7) (N := some 12) ao_ ?_
  refine und_ (i := 8) (N := some 13) ao_ ?_
  refine und_ (i := 9) (N := some 14) ao_ ?_
  refine und_ (i := 10) (N := some 15) ao_ ?_
  refine und_ (i := 11) (N := some 16) ao_ ?_
  refine und_ (i := 12) (N := some 17) ao_ ?_
  refine und_ (i := 13) (N := some 18) ao_ ?_
  refine pn_ 14 19 ao_ ?_
  refine pn_ 15 4 ao_ ?_
  refine done_ dn_ ?_
  try go_wp2
  go_ret
  exact ⟨er_, bel_⟩
 subst c4
 rw [ip_ rfl] at H
 replace H := bo_ H
 obtain ⟨y, O, H⟩ := H
 try dsimp only at H
 replace H := bo_ H
 obtain ⟨v, P, H⟩ := H
 try dsimp only at H
 replace H := bo_ H
 obtain ⟨z, Q, H⟩ := H
 try dsimp only at H
 obtain ⟨q, g⟩ : ∃ j_ : Int, (wrap64 (u - z)) = j_ := ⟨_, rfl⟩
 replace H : (if 0 ≤ (q) then (some ((Go.bits .and .u64 (shr .u64 v (q)) 1) == 1)) else (none)) = some r := by first | (rw [g] at H; exact H) | (simp only [g] at H ⊢; exact H)
 (try rw [g] at I)
 (try rw [g] at O)
 (try rw [g] at P)
 (try rw [g] at Q)
 have hji8w : (IntKind.i64.wrap (u - z)) = q := (i64_w _).trans g
 by_cases c9 : 0 ≤ (q)
 rotate_left
 ·
  rw [ig_ c9] at H
  exact ab_ H
 rw [ip_ c9] at H
 have c9b0 := et_ c9
 have c9b1 : decide (0 ≤ (q)) = true := dt_ c9
 clear c9
 obtain ⟨A, b⟩ : ∃ j_ : Int, (shr .u64 v (q)) = j_ := ⟨_, rfl⟩
 replace H : (some ((Go.bits .and .u64 (A) 1) == 1)) = some r := by first | (rw [b] at H; exact H) | (simp only [b] at H ⊢; exact H)
 (try rw [b] at I)
 (try rw [b] at O)
 (try rw [b] at P)
 (try rw [b] at Q)
 have U : (v / 2 ^ min (q).toNat 64) = A := b
 have hji10z : (q) ≤ 64 → (v / 2 ^ (q).toNat) = A := shr_small b
 obtain rfl := si_ H
 go_enter Tryz.func23, Tryz.ntmps23
 try go_wp2_with (first | ((with_reducible refine gate_dst (N := 2) rfl ?_); refine bxe_ (N := 2) (cs := #[.int .i64 l, .slice s d.length c0_1, .int .i64 m, .int .i64 o, .int .i64 p]) (t := 57) ?_; intro c hg w11 hbox hb; have a := a_ (hbox); have x := a_ (by rw [hg]; exact (bz_ bel_) : w.heap.size ≤ c); have J := x; replace HB := hq_ hb; clear hb hbox hg))
 replace a := a_ (blk_drew a.out)
 replace HB := a_ (below_drew1 HB.out)
 refine start_ (n := 16) (S := fun w' => w'.cell? ⟨c, 0, none⟩ = some (.int .i64 l) ∧ w'.cell? ⟨c, 1, none⟩ = some (.slice s d.length c0_1) ∧ w'.cell? ⟨c, 2, none⟩ = some (.int .i64 m) ∧ w'.cell? ⟨c, 3, none⟩ = some (.int .i64 o) ∧ w'.cell? ⟨c, 4, none⟩ = some (.int .i64 p)) (ds := []) #[false, false, false, false, false, false, false, false, false, false, false, false, false, false, false, false] kr_ rfl rfl (ca5_ a.out) (fun hHeld => ?_); refine with_tabW dom_Dom_Has.tab1 dom_Dom_Has.bits1 (fun HT_ HW_ => ?_)
 generalize w11.drew = w12 at a HB hHeld ⊢
 refine pn_ 0 5 ao_ ?_
 refine onn_ 1 6 #[true, true, false, false, false, false, false, false, false, false, false, false, false, false, false, false] rfl rfl on_ (by decide) (fun K hK => ?_)
 refine goes_ Tryz.func49 kr_ rfl #[.int .i64 u] (by rfl) rfl rfl ar_ ?_
 with_reducible refine (dom_in.calls u true _ I.out).mono ?_
 rintro e w' ⟨rfl, ⟨nd, rfl⟩⟩
 refine ⟨_, rfl, ?_⟩
 refine hK.out _ _ (ca5_ a.out) (fun hHeld => ?_)
 clear hK K
 refine nor_ (N := some 6) ?_
 refine pn_ 2 7 ao_ ?_
 refine pn_ 4 9 ao_ ?_
 refine pn_ 7 12 ao_ ?_
 refine pn_ 8 13 ao_ ?_
 refine tn_ 3 8 tw_ hHeld ?_
 refine onn_ 5 10 #[true, true, true, true, true, true, false, true, true, false, false, false, false, false, false, false] rfl rfl on_ (by decide) (fun K hK => ?_)
 refine goes_ Tryz.func51 kr_ rfl #[.int .i64 u] (by rfl) rfl rfl ar_ ?_
 with_reducible refine (dom_place.calls u y _ O.out).mono ?_
 rintro e w' ⟨rfl, ⟨nd, rfl⟩⟩
 refine ⟨_, rfl, ?_⟩
 refine hK.out _ _ (ca5_ a.out) (fun hHeld => ?_)
 clear hK K
 refine nor_ (N := some 10) ?_
 refine onn_ 6 11 #[true, true, true, true, true, true, true, true, true, false, false, false, false, false, false, false] rfl rfl on_ (by decide) (fun K hK => ?_)
 refine goes_ Tryz.func50 kr_ rfl #[.agg #[.int .i64 l, .slice s d.length c0_1, .int .i64 m, .int .i64 o, .int .i64 p], .int .i64 y] (by rfl) rfl rfl ar_ ?_
 with_reducible refine (dom_Dom_word.calls l _ _ d m o p y v _ ?_ ?_ P.out).mono ?_
 focus repeat (first | exact (cb_ F.out bel_) | (with_reducible refine Kd.C_alloc ?_ _) | (with_reducible refine Kd.C_drewN ?_ _) | (with_reducible refine Kd.C_drew ?_))
 exact G.out
 rintro e w13 ⟨rfl, hb⟩
 refine ⟨_, rfl, ?_⟩
 replace a := a_ (bq_ a.out hb)
 replace HB := hq_ hb
 clear hb
 refine hK.out _ _ (ca5_ a.out) (fun hHeld => ?_)
 clear hK K
 refine nor_ (N := some 11) ?_
 refine onn_ 9 14 #[true, true, true, true, true, true, true, true, true, true, false, false, false, false, false, false] rfl rfl on_ (by decide) (fun K hK => ?_)
 refine goes_ Tryz.func51 kr_ rfl #[.int .i64 u] (by rfl) rfl rfl ar_ ?_
 with_reducible refine (dom_place.calls u z _ Q.out).mono ?_
 rintro e w' ⟨rfl, ⟨nd, rfl⟩⟩
 refine ⟨_, rfl, ?_⟩
 refine hK.out _ _ (ca5_ a.out) (fun hHeld => ?_)
 clear hK K
 refine nor_ (N := some 14) ?_
 refine pn_ 10 15 ao_ ?_
 refine pn_ 11 16 ao_ ?_
 refine pn_ 12 17 ao_ ?_
 refine pn_ 13 18 ao_ ?_
 refine pn_ 14 19 ao_ ?_
 refine pn_ 15 4 ao_ ?_
 refine done_ dn_ ?_
 try go_wp2
 go_ret
 exact ⟨by first | rfl | (simp [errW_none, errW_some] <;> rfl) | (simp only [← g, ← b]; first | rfl | (simp [errW_none, errW_some] <;> rfl)) | (simp [*, errW_none, errW_some] <;> rfl), bel_⟩

/-! ### dom_Dom_Next: function 100 -/
mutual
def dom_Dom_Next.j0 : Nat → Int → Bool → Int → List Int → Int → Int → Int → Option (Int × Bool)
 | 0, _, _, _, _, _, _, _ => none
 | k + 1, f, g, b, c, a, d, e => if g = true then (some (0, false)) else (if f < a then (some (a, true)) else (dom_Dom_Next.l0 k (wrap64 (f + 1)) b c a d e))
def dom_Dom_Next.l0 : Nat → Int → Int → List Int → Int → Int → Int → Option (Int × Bool)
 | 0, _, _, _, _, _, _ => none
 | k + 1, g, a, b, c, d, e => (dom_Dom_Has.f a b c d e g).bind fun l => (if l = true then (some (g, true)) else ((dom_place.f g).bind fun m => ((dom_Dom_word.f a b c d e m).bind fun n => (if n = 0 then ((dom_place.f g).bind fun o => (dom_Dom_Next.l0 k (wrap64 ((wrap64 ((wrap64 (o + 64)) - 1)) + 1)) a b c d e)) else (dom_Dom_Next.l0 k (wrap64 (g + 1)) a b c d e)))))
end
def dom_Dom_Next.f (k : Nat) (c : Int) (d : List Int) (e : Int) (a : Int) (b : Int) (g : Int) : Option (Int × Bool) := if b = 0 then (dom_Dom_Next.j0 k g true c d e a b) else (dom_Dom_Next.j0 k g (decide (g ≥ a)) c d e a b)
theorem dom_Dom_Next.mono_l : ∀ k, (∀ a b c d e f g, LeO (dom_Dom_Next.j0 k a b c d e f g) (dom_Dom_Next.j0 (k + 1) a b c d e f g)) ∧ (∀ a b c d e f, LeO (dom_Dom_Next.l0 k a b c d e f) (dom_Dom_Next.l0 (k + 1) a b c d e f))
 | 0 => by refine ⟨?_, ?_⟩ <;> (intros; exact LeO.none _)
 | k + 1 => by
  obtain ⟨ih0, ih1⟩ := dom_Dom_Next.mono_l k
  refine ⟨?_, ?_⟩ <;> intros
  all_goals first | unfold dom_Dom_Next.j0 | unfold dom_Dom_Next.l0
  all_goals exact leo_
theorem dom_Dom_Next.mono : ∀ a b c d e g k, LeO (dom_Dom_Next.f k a b c d e g) (dom_Dom_Next.f (k + 1) a b c d e g) := by
 intro a b c d e g k
 obtain ⟨ih0, ih1⟩ := dom_Dom_Next.mono_l k
 unfold dom_Dom_Next.f
 exact leo_
set_option maxHeartbeats 8000000 in
set_option maxRecDepth 100000 in
theorem dom_Dom_Next.calls (k : Nat) (l : Int) (p : Option Addr) (c0_1 : Nat) (d : List Int) (b : Int) (g : Int) (c : Int) (v : Int) (F : Int) (G : Bool) (w : World) (z : Kd.C (Kd.int .u64) w p d.length d) (A : d.length ≤ c0_1) (h : dom_Dom_Next.f k l d b g c v = some (F, G)) :
  Calls Tryz.prog 100 #[.agg #[.int .i64 l, .slice p d.length c0_1, .int .i64 b, .int .i64 g, .int .i64 c], .int .i64 v] w fun e w' => e = .returned (.tuple #[.int .i64 F, .bool G]) ∧ Below w.heap.size w w' := by
 have hu57 := Tryz.underlying57
 have s := a_ z
 have u := a_ A
 clear z A
 have HB := a_ (Below.refl w.heap.size w)
 unfold dom_Dom_Next.f at h
 have H := h
 clear h
 have I := a_ H
 clear H
 go_enter Tryz.func100, Tryz.ntmps100
 go_upto_region 1 with (first | ((with_reducible refine gate_dst (N := 2) rfl ?_); refine bxe_ (N := 2) (cs := #[.int .i64 l, .slice p d.length c0_1, .int .i64 b, .int .i64 g, .int .i64 c]) (t := 57) ?_; intro o hg w4 hbox hb; have a := a_ (hbox); have M := a_ (by rw [hg]; exact (bz_ bel_) : w.heap.size ≤ o); have V := M; replace HB := hq_ hb; clear hb hbox hg))
 (try simp only [Act.put, List.setIfInBounds_toArray, List.set_cons_zero, List.set_cons_succ])
 go_cut [6] (fun W wc => ∃ (kq : Nat) (x : Bool), W = .bool x ∧ Aside0 (dom_Dom_Next.j0 kq v x l d b g c = some (F, G)) ∧ Aside0 (kq ≤ k) ∧ Aside0 (wc.heap[o]? = some (.cells #[.int .i64 l, (.slice p d.length c0_1), .int .i64 b, .int .i64 g, .int .i64 c] 57 (0, 0))) ∧ Aside0 (Below w.heap.size w wc))
 case first =>
  have H := I.out
  clear I
  by_cases c5 : c = 0
  ·
   rw [ip_ c5] at H
   have c5b0 : (c == 0) = true := beq_iff_eq.mpr c5
   have c5b1 : (c != 0) = false := bn_.mpr c5
   clear c5
   (first | rw [c5b0] | (simp only [i64_w, i32_w]; rw [c5b0]) | skip)
   have H' := a_ H
   clear H
   obtain ⟨_, _, _, _, _, _, _, _, _, _⟩ := cel5_ a.out
   go_wp2
   go_meet
   exact ⟨_, (true), eq_, H', ⟨by first | omega | exact lr_ _⟩, ⟨bk_ a.out⟩, ⟨bel_⟩⟩
  rw [ig_ c5] at H
  have c5b0 : (c == 0) = false := be_.mpr c5
  have c5b1 : (c != 0) = true := ni_.mpr c5
  (first | rw [c5b0] | (simp only [i64_w, i32_w]; rw [c5b0]) | skip)
  have H' := a_ H
  clear H
  obtain ⟨_, _, _, _, _, _, _, _, _, _⟩ := cel5_ a.out
  go_wp2
  go_meet
  exact ⟨_, (decide (v ≥ g)), eq_, H', ⟨by first | omega | exact lr_ _⟩, ⟨bk_ a.out⟩, ⟨bel_⟩⟩
 clear I
 try clear c1
 try clear p2
 try clear c5
 try clear c5b0
 try clear c5b1
 obtain ⟨kq, x, rfl, HA, B, a, HB⟩ := hcut
 cases kq with
 | zero => exact absurd HA.out (by simp [dom_Dom_Next.j0])
 | succ kj2 =>
  have H := HA.out
  clear HA
  simp only [dom_Dom_Next.j0] at H
  by_cases c8 : x = true
  ·
   subst c8
   rw [ip_ rfl] at H
   simp only [Option.some.injEq, Prod.mk.injEq] at H
   obtain ⟨rfl, rfl⟩ := H
   go_wp2
   go_ret2
   exact ⟨er_, bel_⟩
  replace c8 := bf_.mpr c8
  subst c8
  have H1 : (if v < b then (some (b, true)) else (dom_Dom_Next.l0 kj2 (wrap64 (v + 1)) l d b g c)) = some (F, G) := by rw [ig_ (show ¬ (false = true) by decide)] at H; exact H
  clear H
  have H := H1
  clear H1
  by_cases c9 : v < b
  ·
   rw [ip_ c9] at H
   have c9b0 : decide (v < b) = true := dt_ c9
   clear c9
   simp only [Option.some.injEq, Prod.mk.injEq] at H
   obtain ⟨rfl, rfl⟩ := H
   obtain ⟨_, _, _, _, _, _, _, _, _, _⟩ := cel5_ a.out
   go_wp2
   go_ret2
   exact ⟨er_, bel_⟩
  rw [ig_ c9] at H
  have c9b0 : decide (v < b) = false := df_ c9
  clear c9
  have H' := a_ H
  clear H
  obtain ⟨_, _, _, _, _, _, _, _, _, _⟩ := cel5_ a.out
  go_wp2
  go_loopg [1] kj2 (fun kq X w' => ∃ (m : Int), X = .int .i64 m ∧ Aside0 (dom_Dom_Next.l0 kq m l d b g c = some (F, G)) ∧ Aside0 (kq ≤ kj2) ∧ Aside0 (w'.heap[o]? = some (.cells #[.int .i64 l, (.slice p d.length c0_1), .int .i64 b, .int .i64 g, .int .i64 c] 57 (0, 0))) ∧ Aside0 (Below w.heap.size w w'))
  case atStart => exact ⟨(wrap64 (v + 1)), eq_, H', ⟨lr_ _⟩, ⟨bk_ a.out⟩, ⟨bel_⟩⟩
  clear H'
  try clear c1
  try clear p2
  try clear c5
  try clear c5b0
  try clear c5b1
  try clear p6
  try clear c8
  try clear c9
  try clear c9b0
  try clear c10
  try clear p2
  obtain ⟨m, rfl, HA, E, a, HB⟩ := hrel
  cases gk with
  | zero => exact absurd HA.out (by simp [dom_Dom_Next.l0])
  | succ k2 =>
   have H := HA.out
   clear HA
   simp only [dom_Dom_Next.l0] at H
   replace H := bo_ H
   obtain ⟨Q, J, H⟩ := H
   try dsimp only at H
   by_cases c13 : Q = true
   ·
    subst c13
    rw [ip_ rfl] at H
    simp only [Option.some.injEq, Prod.mk.injEq] at H
    obtain ⟨rfl, rfl⟩ := H
    obtain ⟨_, _, _, _, _, _, _, _, _, _⟩ := cel5_ a.out
    go_wp2_with (first | ((with_reducible refine gate_callee (f := 23) rfl ?_); refine goesL_ (some 27) rfl rfl Tryz.func23 kr_ rfl #[.agg #[.int .i64 l, .slice p d.length c0_1, .int .i64 b, .int .i64 g, .int .i64 c], .int .i64 m] rfl ar_ ?_; (with_reducible refine (dom_Dom_Has.calls l _ _ d b g c m true _ ?_ ?_ J.out).mono ?_); exact ca_ ((cb_ s.out HB.out)); exact u.out; rintro e w15 ⟨rfl, hb⟩; refine ⟨_, rfl, ?_⟩; replace a := a_ (bq_ a.out hb); replace HB := hq_ hb; clear hb))
    go_ret2
    exact ⟨er_, bel_⟩
   replace c13 := bf_.mpr c13
   subst c13
   have H1 : ((dom_place.f m).bind fun r => ((dom_Dom_word.f l d b g c r).bind fun q => (if q = 0 then ((dom_place.f m).bind fun y => (dom_Dom_Next.l0 k2 (wrap64 ((wrap64 ((wrap64 (y + 64)) - 1)) + 1)) l d b g c)) else (dom_Dom_Next.l0 k2 (wrap64 (m + 1)) l d b g c)))) = some (F, G) := by rw [ig_ (show ¬ (false = true) by decide)] at H; exact H
   clear H
   have H := H1
   clear H1
   replace H := bo_ H
   obtain ⟨r, O, H⟩ := H
   try dsimp only at H
   replace H := bo_ H
   obtain ⟨q, P, H⟩ := H
   try dsimp only at H
   by_cases c18 : q = 0
   rotate_left
   ·
    rw [ig_ c18] at H
    have c18b0 : (q == 0) = false := be_.mpr c18
    have c18b1 : (q != 0) = true := ni_.mpr c18
    have H' := a_ H
    clear H
    obtain ⟨_, _, _, _, _, _, _, _, _, _⟩ := cel5_ a.out
    try go_wp2_with (first | ((with_reducible refine gate_callee (f := 23) rfl ?_); refine goesL_ (some 27) rfl rfl Tryz.func23 kr_ rfl #[.agg #[.int .i64 l, .slice p d.length c0_1, .int .i64 b, .int .i64 g, .int .i64 c], .int .i64 m] rfl ar_ ?_; (with_reducible refine (dom_Dom_Has.calls l _ _ d b g c m false _ ?_ ?_ J.out).mono ?_); exact ca_ ((cb_ s.out HB.out)); exact u.out; rintro e w25 ⟨rfl, hb⟩; refine ⟨_, rfl, ?_⟩; replace a := a_ (bq_ a.out hb); replace HB := hq_ hb; clear hb))
    replace a := a_ (blk_drew a.out)
    replace HB := a_ (below_drew1 HB.out)
    refine start_ (n := 5) (S := fun w' => w'.cell? ⟨o, 0, none⟩ = some (.int .i64 l) ∧ w'.cell? ⟨o, 1, none⟩ = some (.slice p d.length c0_1) ∧ w'.cell? ⟨o, 2, none⟩ = some (.int .i64 b) ∧ w'.cell? ⟨o, 3, none⟩ = some (.int .i64 g) ∧ w'.cell? ⟨o, 4, none⟩ = some (.int .i64 c)) (ds := []) #[false, false, false, false, false] kr_ rfl rfl (ca5_ a.out) (fun hHeld => ?_)
    generalize w25.drew = w26 at a HB hHeld ⊢
    refine pn_ 1 32 kr_ ?_
    refine tn_ 0 31 kr_ hHeld ?_
    refine onn_ 2 33 #[true, true, true, false, false] rfl rfl kr_ (by decide) (fun K hK => ?_)
    refine goes_ Tryz.func51 kr_ rfl #[.int .i64 m] (by rfl) rfl rfl ar_ ?_
    with_reducible refine (dom_place.calls m r _ O.out).mono ?_
    rintro e w' ⟨rfl, ⟨nd, rfl⟩⟩
    refine ⟨_, rfl, ?_⟩
    refine hK.out _ _ (ca5_ a.out) (fun hHeld => ?_)
    clear hK K
    refine nor_ (N := some 33) ?_
    refine onn_ 3 34 #[true, true, true, true, false] rfl rfl kr_ (by decide) (fun K hK => ?_)
    refine goes_ Tryz.func50 kr_ rfl #[.agg #[.int .i64 l, .slice p d.length c0_1, .int .i64 b, .int .i64 g, .int .i64 c], .int .i64 r] (by rfl) rfl rfl ar_ ?_
    with_reducible refine (dom_Dom_word.calls l _ _ d b g c r q _ ?_ ?_ P.out).mono ?_
    focus repeat (first | exact (cb_ s.out bel_) | (with_reducible refine Kd.C_alloc ?_ _) | (with_reducible refine Kd.C_drewN ?_ _) | (with_reducible refine Kd.C_drew ?_))
    exact u.out
    rintro e w27 ⟨rfl, hb⟩
    refine ⟨_, rfl, ?_⟩
    replace a := a_ (bq_ a.out hb)
    replace HB := hq_ hb
    clear hb
    refine hK.out _ _ (ca5_ a.out) (fun hHeld => ?_)
    clear hK K
    refine nor_ (N := some 34) ?_
    refine pn_ 4 35 kr_ ?_
    refine done_ kr_ ?_
    try go_wp2
    go_roundg k2
    case measure => have := B.out; have := E.out; omega
    exact ⟨(wrap64 (m + 1)), eq_, H', ⟨by have := B.out; have := E.out; omega⟩, ⟨bk_ a.out⟩, ⟨bel_⟩⟩
   rw [ip_ c18] at H
   have c18b0 : (q == 0) = true := beq_iff_eq.mpr c18
   have c18b1 : (q != 0) = false := bn_.mpr c18
   clear c18
   replace H := bo_ H
   obtain ⟨y, U, H⟩ := H
   try dsimp only at H
   have H' := a_ H
   clear H
   obtain ⟨_, _, _, _, _, _, _, _, _, _⟩ := cel5_ a.out
   try go_wp2_with (first | ((with_reducible refine gate_callee (f := 23) rfl ?_); refine goesL_ (some 27) rfl rfl Tryz.func23 kr_ rfl #[.agg #[.int .i64 l, .slice p d.length c0_1, .int .i64 b, .int .i64 g, .int .i64 c], .int .i64 m] rfl ar_ ?_; (with_reducible refine (dom_Dom_Has.calls l _ _ d b g c m false _ ?_ ?_ J.out).mono ?_); exact ca_ ((cb_ s.out HB.out)); exact u.out; rintro e w21 ⟨rfl, hb⟩; refine ⟨_, rfl, ?_⟩; replace a := a_ (bq_ a.out hb); replace HB := hq_ hb; clear hb))
   replace a := a_ (blk_drew a.out)
   replace HB := a_ (below_drew1 HB.out)
   refine start_ (n := 5) (S := fun w' => w'.cell? ⟨o, 0, none⟩ = some (.int .i64 l) ∧ w'.cell? ⟨o, 1, none⟩ = some (.slice p d.length c0_1) ∧ w'.cell? ⟨o, 2, none⟩ = some (.int .i64 b) ∧ w'.cell? ⟨o, 3, none⟩ = some (.int .i64 g) ∧ w'.cell? ⟨o, 4, none⟩ = some (.int .i64 c)) (ds := []) #[false, false, false, false, false] kr_ rfl rfl (ca5_ a.out) (fun hHeld => ?_)
   generalize w21.drew = w22 at a HB hHeld ⊢
   refine pn_ 1 32 kr_ ?_
   refine tn_ 0 31 kr_ hHeld ?_
   refine onn_ 2 33 #[true, true, true, false, false] rfl rfl kr_ (by decide) (fun K hK => ?_)
   refine goes_ Tryz.func51 kr_ rfl #[.int .i64 m] (by rfl) rfl rfl ar_ ?_
   with_reducible refine (dom_place.calls m r _ O.out).mono ?_
   rintro e w' ⟨rfl, ⟨nd, rfl⟩⟩
   refine ⟨_, rfl, ?_⟩
   refine hK.out _ _ (ca5_ a.out) (fun hHeld => ?_)
   clear hK K
   refine nor_ (N := some 33) ?_
   refine onn_ 3 34 #[true, true, true, true, false] rfl rfl kr_ (by decide) (fun K hK => ?_)
   refine goes_ Tryz.func50 kr_ rfl #[.agg #[.int .i64 l, .slice p d.length c0_1, .int .i64 b, .int .i64 g, .int .i64 c], .int .i64 r] (by rfl) rfl rfl ar_ ?_
   with_reducible refine (dom_Dom_word.calls l _ _ d b g c r q _ ?_ ?_ P.out).mono ?_
   focus repeat (first | exact (cb_ s.out bel_) | (with_reducible refine Kd.C_alloc ?_ _) | (with_reducible refine Kd.C_drewN ?_ _) | (with_reducible refine Kd.C_drew ?_))
   exact u.out
   rintro e w23 ⟨rfl, hb⟩
   refine ⟨_, rfl, ?_⟩
   replace a := a_ (bq_ a.out hb)
   replace HB := hq_ hb
   clear hb
   refine hK.out _ _ (ca5_ a.out) (fun hHeld => ?_)
   clear hK K
   refine nor_ (N := some 34) ?_
   refine pn_ 4 35 kr_ ?_
   refine done_ kr_ ?_
   try go_wp2_with (first | ((with_reducible refine gate_callee (f := 51) rfl ?_); refine goesL_ (some 37) rfl rfl Tryz.func51 kr_ rfl #[.int .i64 m] rfl ar_ ?_; (with_reducible refine (dom_place.calls m y _ U.out).mono ?_); rintro e w' ⟨rfl, ⟨nd, rfl⟩⟩; refine ⟨_, rfl, ?_⟩))
   go_roundg k2
   case measure => have := B.out; have := E.out; omega
   exact ⟨(wrap64 ((wrap64 ((wrap64 (y + 64)) - 1)) + 1)), eq_, H', ⟨by have := B.out; have := E.out; omega⟩, ⟨bk_ a.out⟩, ⟨bel_⟩⟩

end Go.Proofs.YtckfbfdnlpnllaaGreatDoor.XAllDiffFilters
