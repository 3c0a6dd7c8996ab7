-- by xprint.py, a program of this session, over the kit's print
import Derived.Test.YtckfbfdnlpnllaaGreatDoorXAFxx0
import Derived.Test.YtckfbfdnlpnllaaGreatDoorXAFxx4
import Derived.Test.YtckfbfdnlpnllaaGreatDoorSq
namespace Go.Proofs.YtckfbfdnlpnllaaGreatDoor.XAllDiffFixed
open Go.RowKit Go.Proofs.YtckfbfdnlpnllaaGreatDoor.Sq Go.Proofs.YtckfbfdnlpnllaaGreatDoorW.PrintWords Go.Proofs.YtckfbfdnlpnllaaGreatDoorW.PrintLast Go.Proofs.YtckfbfdnlpnllaaGreatDoorW.PrintMore
attribute [local go_sem] max2_int min2_int max_two min_two max_three min_three max_four min_four   -- for this text's walks alone
set_option linter.unusedVariables false
set_option linter.unusedSimpArgs false

/-! ### dom_Dom_Next: function 100 -/
mutual
def dom_Dom_Next.j0 : Nat → Int → Bool → Int → List Int → Int → Int → Int → Option (Int × Bool)
 | 0, _, _, _, _, _, _, _ => none
 | k + 1, f, g, b, c, a, d, e => if g = true then (some (0, false)) else (if f < a then (some (a, true)) else (dom_Dom_Next.l0 k (wrap64 (f + 1)) b c a d e))
def dom_Dom_Next.l0 : Nat → Int → Int → List Int → Int → Int → Int → Option (Int × Bool)
 | 0, _, _, _, _, _, _ => none
 | k + 1, g, a, b, c, d, e => (dom_Dom_Has.f a b c d e g).bind fun l => (if l = true then (some (g, true)) else ((dom_place.f g).bind fun m => ((dom_Dom_word.f a b c d e m).bind fun n => (if n = 0 then ((dom_place.f g).bind fun o => (dom_Dom_Next.l0 k (wrap64 ((wrap64 ((wrap64 (o + 64)) - 1)) + 1)) a b c d e)) else (dom_Dom_Next.l0 k (wrap64 (g + 1)) a b c d e)))))
end
def dom_Dom_Next.f (k : Nat) (c : Int) (d : List Int) (e : Int) (a : Int) (b : Int) (g : Int) : Option (Int × Bool) := if b = 0 then (dom_Dom_Next.j0 k g true c d e a b) else (dom_Dom_Next.j0 k g (decide (g ≥ a)) c d e a b)
theorem dom_Dom_Next.mono_l : ∀ k, (∀ a b c d e f g, LeO (dom_Dom_Next.j0 k a b c d e f g) (dom_Dom_Next.j0 (k + 1) a b c d e f g)) ∧ (∀ a b c d e f, LeO (dom_Dom_Next.l0 k a b c d e f) (dom_Dom_Next.l0 (k + 1) a b c d e f))
 | 0 => by refine ⟨?_, ?_⟩ <;> (intros; exact LeO.none _)
 | k + 1 => by
  obtain ⟨ih0, ih1⟩ := dom_Dom_Next.mono_l k
  refine ⟨?_, ?_⟩ <;> intros
  all_goals first | unfold dom_Dom_Next.j0 | unfold dom_Dom_Next.l0
  all_goals exact leo_
theorem dom_Dom_Next.mono : ∀ a b c d e g k, LeO (dom_Dom_Next.f k a b c d e g) (dom_Dom_Next.f (k + 1) a b c d e g) := by
 intro a b c d e g k
 obtain ⟨ih0, ih1⟩ := dom_Dom_Next.mono_l k
 unfold dom_Dom_Next.f
 exact leo_
set_option maxHeartbeats 8000000 in
set_option maxRecDepth 100000 in
theorem dom_Dom_Next.calls (k : Nat) (l : Int) (p : Option Addr) (c0_1 : Nat) (d : List Int) (b : Int) (g : Int) (c : Int) (v : Int) (F : Int) (G : Bool) (w : World) (z : Kd.C (Kd.int .u64) w p d.length d) (A : d.length ≤ c0_1) (h : dom_Dom_Next.f k l d b g c v = some (F, G)) :
  Calls Tryz.prog 100 #[.agg #[.int .i64 l, .slice p d.length c0_1, .int .i64 b, .int .i64 g, .int .i64 c], .int .i64 v] w fun e w' => e = .returned (.tuple #[.int .i64 F, .bool G]) ∧ Below w.heap.size w w' := by
 have hu57 := Tryz.underlying57
 have s := a_ z
 have u := a_ A
 clear z A
 have HB := a_ (Below.refl w.heap.size w)
 unfold dom_Dom_Next.f at h
 have H := h
 clear h
 have I := a_ H
 clear H
 go_enter Tryz.func100, Tryz.ntmps100
 go_upto_region 1 with (first | ((with_reducible refine gate_dst (N := 2) rfl ?_); refine bxe_ (N := 2) (cs := #[.int .i64 l, .slice p d.length c0_1, .int .i64 b, .int .i64 g, .int .i64 c]) (t := 57) ?_; intro o hg w4 hbox hb; have a := a_ (hbox); have M := a_ (by rw [hg]; exact (bz_ bel_) : w.heap.size ≤ o); have V := M; replace HB := hq_ hb; clear hb hbox hg))
 (try simp only [Act.put, List.setIfInBounds_toArray, List.set_cons_zero, List.set_cons_succ])
 go_cut [6] (fun W wc => ∃ (kq : Nat) (x : Bool), W = .bool x ∧ Aside0 (dom_Dom_Next.j0 kq v x l d b g c = some (F, G)) ∧ Aside0 (kq ≤ k) ∧ Aside0 (wc.heap[o]? = some (.cells #[.int .i64 l, (.slice p d.length c0_1), .int .i64 b, .int .i64 g, .int .i64 c] 57 (0, 0))) ∧ Aside0 (Below w.heap.size w wc))
 case first =>
  have H := I.out
  clear I
  by_cases c5 : c = 0
  ·
   rw [ip_ c5] at H
   have c5b0 : (c == 0) = true := beq_iff_eq.mpr c5
   have c5b1 : (c != 0) = false := bn_.mpr c5
   clear c5
   (first | rw [c5b0] | (simp only [i64_w, i32_w]; rw [c5b0]) | skip)
   have H' := a_ H
   clear H
   obtain ⟨_, _, _, _, _, _, _, _, _, _⟩ := cel5_ a.out
   go_wp2
   go_meet
   exact ⟨_, (true), eq_, H', ⟨by first | omega | exact lr_ _⟩, ⟨bk_ a.out⟩, ⟨bel_⟩⟩
  rw [ig_ c5] at H
  have c5b0 : (c == 0) = false := be_.mpr c5
  have c5b1 : (c != 0) = true := ni_.mpr c5
  (first | rw [c5b0] | (simp only [i64_w, i32_w]; rw [c5b0]) | skip)
  have H' := a_ H
  clear H
  obtain ⟨_, _, _, _, _, _, _, _, _, _⟩ := cel5_ a.out
  go_wp2
  go_meet
  exact ⟨_, (decide (v ≥ g)), eq_, H', ⟨by first | omega | exact lr_ _⟩, ⟨bk_ a.out⟩, ⟨bel_⟩⟩
 clear I
 try clear c1
 try clear p2
 try clear c5
 try clear c5b0
 try clear c5b1
 obtain ⟨kq, x, rfl, HA, B, a, HB⟩ := hcut
 cases kq with
 | zero => exact absurd HA.out (by simp [dom_Dom_Next.j0])
 | succ kj2 =>
  have H := HA.out
  clear HA
  simp only [dom_Dom_Next.j0] at H
  by_cases c8 : x = true
  ·
   subst c8
   rw [ip_ rfl] at H
   simp only [Option.some.injEq, Prod.mk.injEq] at H
   obtain ⟨rfl, rfl⟩ := H
   go_wp2
   go_ret2
   exact ⟨er_, bel_⟩
  replace c8 := bf_.mpr c8
  subst c8
  have H1 : (if v < b then (some (b, true)) else (dom_Dom_Next.l0 kj2 (wrap64 (v + 1)) l d b g c)) = some (F, G) := by rw [ig_ (show ¬ (false = true) by decide)] at H; exact H
  clear H
  have H := H1
  clear H1
  by_cases c9 : v < b
  ·
   rw [ip_ c9] at H
   have c9b0 : decide (v < b) = true := dt_ c9
   clear c9
   simp only [Option.some.injEq, Prod.mk.injEq] at H
   obtain ⟨rfl, rfl⟩ := H
   obtain ⟨_, _, _, _, _, _, _, _, _, _⟩ := cel5_ a.out
   go_wp2
   go_ret2
   exact ⟨er_, bel_⟩
  rw [ig_ c9] at H
  have c9b0 : decide (v < b) = false := df_ c9
  clear c9
  have H' := a_ H
  clear H
  obtain ⟨_, _, _, _, _, _, _, _, _, _⟩ := cel5_ a.out
  go_wp2
  go_loopg [1] kj2 (fun kq X w' => ∃ (m : Int), X = .int .i64 m ∧ Aside0 (dom_Dom_Next.l0 kq m l d b g c = some (F, G)) ∧ Aside0 (kq ≤ kj2) ∧ Aside0 (w'.heap[o]? = some (.cells #[.int .i64 l, (.slice p d.length c0_1), .int .i64 b, .int .i64 g, .int .i64 c] 57 (0, 0))) ∧ Aside0 (Below w.heap.size w w'))
  case atStart => exact ⟨(wrap64 (v + 1)), eq_, H', ⟨lr_ _⟩, ⟨bk_ a.out⟩, ⟨bel_⟩⟩
  clear H'
  try clear c1
  try clear p2
  try clear c5
  try clear c5b0
  try clear c5b1
  try clear p6
  try clear c8
  try clear c9
  try clear c9b0
  try clear c10
  try clear p2
  obtain ⟨m, rfl, HA, E, a, HB⟩ := hrel
  cases gk with
  | zero => exact absurd HA.out (by simp [dom_Dom_Next.l0])
  | succ k2 =>
   have H := HA.out
   clear HA
   simp only [dom_Dom_Next.l0] at H
   replace H := bo_ H
   obtain ⟨Q, J, H⟩ := H
   try dsimp only at H
   by_cases c13 : Q = true
   ·
    subst c13
    rw [ip_ rfl] at H
    simp only [Option.some.injEq, Prod.mk.injEq] at H
    obtain ⟨rfl, rfl⟩ := H
    obtain ⟨_, _, _, _, _, _, _, _, _, _⟩ := cel5_ a.out
    go_wp2_with (first | ((with_reducible refine gate_callee (f := 23) rfl ?_); refine goesL_ (some 27) rfl rfl Tryz.func23 kr_ rfl #[.agg #[.int .i64 l, .slice p d.length c0_1, .int .i64 b, .int .i64 g, .int .i64 c], .int .i64 m] rfl ar_ ?_; (with_reducible refine (dom_Dom_Has.calls l _ _ d b g c m true _ ?_ ?_ J.out).mono ?_); exact ca_ ((cb_ s.out HB.out)); exact u.out; rintro e w15 ⟨rfl, hb⟩; refine ⟨_, rfl, ?_⟩; replace a := a_ (bq_ a.out hb); replace HB := hq_ hb; clear hb))
    go_ret2
    exact ⟨er_, bel_⟩
   replace c13 := bf_.mpr c13
   subst c13
   have H1 : ((dom_place.f m).bind fun r => ((dom_Dom_word.f l d b g c r).bind fun q => (if q = 0 then ((dom_place.f m).bind fun y => (dom_Dom_Next.l0 k2 (wrap64 ((wrap64 ((wrap64 (y + 64)) - 1)) + 1)) l d b g c)) else (dom_Dom_Next.l0 k2 (wrap64 (m + 1)) l d b g c)))) = some (F, G) := by rw [ig_ (show ¬ (false = true) by decide)] at H; exact H
   clear H
   have H := H1
   clear H1
   replace H := bo_ H
   obtain ⟨r, O, H⟩ := H
   try dsimp only at H
   replace H := bo_ H
   obtain ⟨q, P, H⟩ := H
   try dsimp only at H
   by_cases c18 : q = 0
   rotate_left
   ·
    rw [ig_ c18] at H
    have c18b0 : (q == 0) = false := be_.mpr c18
    have c18b1 : (q != 0) = true := ni_.mpr c18
    have H' := a_ H
    clear H
    obtain ⟨_, _, _, _, _, _, _, _, _, _⟩ := cel5_ a.out
    try go_wp2_with (first | ((with_reducible refine gate_callee (f := 23) rfl ?_); refine goesL_ (some 27) rfl rfl Tryz.func23 kr_ rfl #[.agg #[.int .i64 l, .slice p d.length c0_1, .int .i64 b, .int .i64 g, .int .i64 c], .int .i64 m] rfl ar_ ?_; (with_reducible refine (dom_Dom_Has.calls l _ _ d b g c m false _ ?_ ?_ J.out).mono ?_); exact ca_ ((cb_ s.out HB.out)); exact u.out; rintro e w25 ⟨rfl, hb⟩; refine ⟨_, rfl, ?_⟩; replace a := a_ (bq_ a.out hb); replace HB := hq_ hb; clear hb))
    replace a := a_ (blk_drew a.out)
    replace HB := a_ (below_drew1 HB.out)
    refine start_ (n := 5) (S := fun w' => w'.cell? ⟨o, 0, none⟩ = some (.int .i64 l) ∧ w'.cell? ⟨o, 1, none⟩ = some (.slice p d.length c0_1) ∧ w'.cell? ⟨o, 2, none⟩ = some (.int .i64 b) ∧ w'.cell? ⟨o, 3, none⟩ = some (.int .i64 g) ∧ w'.cell? ⟨o, 4, none⟩ = some (.int .i64 c)) (ds := []) #[false, false, false, false, false] kr_ rfl rfl (ca5_ a.out) (fun hHeld => ?_)
    generalize w25.drew = w26 at a HB hHeld ⊢
    refine pn_ 1 32 kr_ ?_
    refine tn_ 0 31 kr_ hHeld ?_
    refine onn_ 2 33 #[true, true, true, false, false] rfl rfl kr_ (by decide) (fun K hK => ?_)
    refine goes_ Tryz.func51 kr_ rfl #[.int .i64 m] (by rfl) rfl rfl ar_ ?_
    with_reducible refine (dom_place.calls m r _ O.out).mono ?_
    rintro e w' ⟨rfl, ⟨nd, rfl⟩⟩
    refine ⟨_, rfl, ?_⟩
    refine hK.out _ _ (ca5_ a.out) (fun hHeld => ?_)
    clear hK K
    refine nor_ (N := some 33) ?_
    refine onn_ 3 34 #[true, true, true, true, false] rfl rfl kr_ (by decide) (fun K hK => ?_)
    refine goes_ Tryz.func50 kr_ rfl #[.agg #[.int .i64 l, .slice p d.length c0_1, .int .i64 b, .int .i64 g, .int .i64 c], .int .i64 r] (by rfl) rfl rfl ar_ ?_
    with_reducible refine (dom_Dom_word.calls l _ _ d b g c r q _ ?_ ?_ P.out).mono ?_
    focus repeat (first | exact (cb_ s.out bel_) | (with_reducible refine Kd.C_alloc ?_ _) | (with_reducible refine Kd.C_drewN ?_ _) | (with_reducible refine Kd.C_drew ?_))
    exact u.out
    rintro e w27 ⟨rfl, hb⟩
    refine ⟨_, rfl, ?_⟩
    replace a := a_ (bq_ a.out hb)
    replace HB := hq_ hb
    clear hb
    refine hK.out _ _ (ca5_ a.out) (fun hHeld => ?_)
    clear hK K
    refine nor_ (N := some 34) ?_
    refine pn_ 4 35 kr_ ?_
    refine done_ kr_ ?_
    try go_wp2
    go_roundg k2
    case measure => have := B.out; have := E.out; omega
    exact ⟨(wrap64 (m + 1)), eq_, H', ⟨by have := B.out; have := E.out; omega⟩, ⟨bk_ a.out⟩, ⟨bel_⟩⟩
   rw [ip_ c18] at H
   have c18b0 : (q == 0) = true := beq_iff_eq.mpr c18
   have c18b1 : (q != 0) = false := bn_.mpr c18
   clear c18
   replace H := bo_ H
   obtain ⟨y, U, H⟩ := H
   try dsimp only at H
   have H' := a_ H
   clear H
   obtain ⟨_, _, _, _, _, _, _, _, _, _⟩ := cel5_ a.out
   try go_wp2_with (first | ((with_reducible refine gate_callee (f := 23) rfl ?_); refine goesL_ (some 27) rfl rfl Tryz.func23 kr_ rfl #[.agg #[.int .i64 l, .slice p d.length c0_1, .int .i64 b, .int .i64 g, .int .i64 c], .int .i64 m] rfl ar_ ?_; (with_reducible refine (dom_Dom_Has.calls l _ _ d b g c m false _ ?_ ?_ J.out).mono ?_); exact ca_ ((cb_ s.out HB.out)); exact u.out; rintro e w21 ⟨rfl, hb⟩; refine ⟨_, rfl, ?_⟩; replace a := a_ (bq_ a.out hb); replace HB := hq_ hb; clear hb))
   replace a := a_ (blk_drew a.out)
   replace HB := a_ (below_drew1 HB.out)
   refine start_ (n := 5) (S := fun w' => w'.cell? ⟨o, 0, none⟩ = some (.int .i64 l) ∧ w'.cell? ⟨o, 1, none⟩ = some (.slice p d.length c0_1) ∧ w'.cell? ⟨o, 2, none⟩ = some (.int .i64 b) ∧ w'.cell? ⟨o, 3, none⟩ = some (.int .i64 g) ∧ w'.cell? ⟨o, 4, none⟩ = some (.int .i64 c)) (ds := []) #[false, false, false, false, false] kr_ rfl rfl (ca5_ a.out) (fun hHeld => ?_)
   generalize w21.drew = w22 at a HB hHeld ⊢
   refine pn_ 1 32 kr_ ?_
   refine tn_ 0 31 kr_ hHeld ?_
   refine onn_ 2 33 #[true, true, true, false, false] rfl rfl kr_ (by decide) (fun K hK => ?_)
   refine goes_ Tryz.func51 kr_ rfl #[.int .i64 m] (by rfl) rfl rfl ar_ ?_
   with_reducible refine (dom_place.calls m r _ O.out).mono ?_
   rintro e w' ⟨rfl, ⟨nd, rfl⟩⟩
   refine ⟨_, rfl, ?_⟩
   refine hK.out _ _ (ca5_ a.out) (fun hHeld => ?_)
   clear hK K
   refine nor_ (N := some 33) ?_
   refine onn_ 3 34 #[true, true, true, true, false] rfl rfl kr_ (by decide) (fun K hK => ?_)
   refine goes_ Tryz.func50 kr_ rfl #[.agg #[.int .i64 l, .slice p d.length c0_1, .int .i64 b, .int .i64 g, .int .i64 c], .int .i64 r] (by rfl) rfl rfl ar_ ?_
   with_reducible refine (dom_Dom_word.calls l _ _ d b g c r q _ ?_ ?_ P.out).mono ?_
   focus repeat (first | exact (cb_ s.out bel_) | (with_reducible refine Kd.C_alloc ?_ _) | (with_reducible refine Kd.C_drewN ?_ _) | (with_reducible refine Kd.C_drew ?_))
   exact u.out
   rintro e w23 ⟨rfl, hb⟩
   refine ⟨_, rfl, ?_⟩
   replace a := a_ (bq_ a.out hb)
   replace HB := hq_ hb
   clear hb
   refine hK.out _ _ (ca5_ a.out) (fun hHeld => ?_)
   clear hK K
   refine nor_ (N := some 34) ?_
   refine pn_ 4 35 kr_ ?_
   refine done_ kr_ ?_
   try go_wp2_with (first | ((with_reducible refine gate_callee (f := 51) rfl ?_); refine goesL_ (some 37) rfl rfl Tryz.func51 kr_ rfl #[.int .i64 m] rfl ar_ ?_; (with_reducible refine (dom_place.calls m y _ U.out).mono ?_); rintro e w' ⟨rfl, ⟨nd, rfl⟩⟩; refine ⟨_, rfl, ?_⟩))
   go_roundg k2
   case measure => have := B.out; have := E.out; omega
   exact ⟨(wrap64 ((wrap64 ((wrap64 (y + 64)) - 1)) + 1)), eq_, H', ⟨by have := B.out; have := E.out; omega⟩, ⟨bk_ a.out⟩, ⟨bel_⟩⟩

/-! ### dom_room: function 53 -/
def dom_room.f (d : Int) (e : Int) : Option (Int × List Int × Int × Int × Int) := (dom_place.f d).bind fun c => ((dom_place.f e).bind fun a => ((dom_place.f d).bind fun b => (if 0 ≤ (wrap64 ((wrap64 (Int.tdiv (wrap64 (a - b)) 64)) + 1)) then (if (wrap64 ((wrap64 (Int.tdiv (wrap64 (a - b)) 64)) + 1) : Int).toNat ≤ 35184372088832 then (some (c, (List.replicate (wrap64 ((wrap64 (Int.tdiv (wrap64 (a - b)) 64)) + 1) : Int).toNat 0), 0, 0, 0)) else (none)) else (none))))
set_option maxHeartbeats 8000000 in
set_option maxRecDepth 100000 in
theorem dom_room.calls (v : Int) (x : Int) (y : Int) (z : List Int) (A : Int) (B : Int) (C : Int) (w : World) (h : dom_room.f v x = some (y, z, A, B, C)) :
  Calls Tryz.prog 53 #[.int .i64 v, .int .i64 x] w fun e w' => ∃ F : Value, e = .returned (.agg #[.int .i64 y, F, .int .i64 A, .int .i64 B, .int .i64 C]) ∧ Kd.R (Kd.int .u64) 81 w' w.heap.size (fun _ => True) F z ∧ Below w.heap.size w w' := by
 have hu57 := Tryz.underlying57
 have HB := a_ (Below.refl w.heap.size w)
 unfold dom_room.f at h
 have H := h
 clear h
 replace H := bo_ H
 obtain ⟨b, I, H⟩ := H
 try dsimp only at H
 replace H := bo_ H
 obtain ⟨q, J, H⟩ := H
 try dsimp only at H
 replace H := bo_ H
 obtain ⟨r, K, H⟩ := H
 try dsimp only at H
 obtain ⟨c, d⟩ : ∃ j_ : Int, (wrap64 ((wrap64 (Int.tdiv (wrap64 (q - r)) 64)) + 1)) = j_ := ⟨_, rfl⟩
 replace H : (if 0 ≤ (c) then (if (c : Int).toNat ≤ 35184372088832 then (some (b, (List.replicate (c : Int).toNat 0), 0, 0, 0)) else (none)) else (none)) = some (y, z, A, B, C) := by first | (rw [d] at H; exact H) | (simp only [d] at H ⊢; exact H)
 (try rw [d] at I)
 (try rw [d] at J)
 (try rw [d] at K)
 have hji6w : (IntKind.i64.wrap ((wrap64 (Int.tdiv (wrap64 (q - r)) 64)) + 1)) = c := (i64_w _).trans d
 by_cases c7 : 0 ≤ (c)
 rotate_left
 ·
  rw [ig_ c7] at H
  exact ab_ H
 rw [ip_ c7] at H
 have c7b0 := et_ c7
 have c7b1 : decide (0 ≤ (c)) = true := dt_ c7
 clear c7
 by_cases c8 : (c : Int).toNat ≤ 35184372088832
 rotate_left
 ·
  rw [ig_ c8] at H
  exact ab_ H
 rw [ip_ c8] at H
 have c8b0 := et_ c8
 have c8b1 : decide ((c : Int).toNat ≤ 35184372088832) = true := dt_ c8
 clear c8
 obtain ⟨m, g⟩ : ∃ y_ : List Int, y_ = (List.replicate (c : Int).toNat 0) := ⟨_, rfl⟩
 replace H : (some (b, m, 0, 0, 0)) = some (y, z, A, B, C) := h2_ H g
 have s := a_ g
 clear g
 simp only [Option.some.injEq, Prod.mk.injEq] at H
 obtain ⟨rfl, rfl, rfl, rfl, rfl⟩ := H
 go_enter Tryz.func53, Tryz.ntmps53
 go_wp2_with (first | ((with_reducible refine gate_dst (N := 4) rfl ?_); refine bxe_ (N := 4) (cs := #[.int .i64 0, .slice none 0 0, .int .i64 0, .int .i64 0, .int .i64 0]) (t := 57) ?_; intro l hg w9 hbox hb; have a := a_ (hbox); have E := a_ (by rw [hg]; exact (bz_ bel_) : w.heap.size ≤ l); have M := E; replace HB := hq_ hb; clear hb hbox hg) | ((with_reducible refine gate_callee (f := 51) rfl ?_); refine goesL_ (some 6) rfl rfl Tryz.func51 kr_ rfl #[.int .i64 v] rfl ar_ ?_; (with_reducible refine (dom_place.calls v b _ I.out).mono ?_); rintro e w' ⟨rfl, ⟨nd, rfl⟩⟩; refine ⟨_, rfl, ?_⟩; (try (rw [drewN_self w9]; generalize hq_ : World.drewN w9 _ = w9; replace a : Aside0 (w9.heap[l]? = some (.cells #[.int .i64 0, .slice none 0 0, .int .i64 0, .int .i64 0, .int .i64 0] 57 (0, 0))) := ⟨by rw [← hq_]; exact (bk_ a.out)⟩; replace HB : Aside0 (Below w.heap.size w w9) := ⟨by rw [← hq_]; exact bel_⟩; clear hq_)); (try (obtain ⟨_, _, _, _, _, _, _, _, _, _⟩ := cel5_ a.out))) | ((with_reducible refine gate_callee (f := 51) rfl ?_); refine goesL_ (some 8) rfl rfl Tryz.func51 kr_ rfl #[.int .i64 x] rfl ar_ ?_; (with_reducible refine (dom_place.calls x q _ J.out).mono ?_); rintro e w' ⟨rfl, ⟨nd, rfl⟩⟩; refine ⟨_, rfl, ?_⟩; (try (rw [drewN_self w9]; generalize hq_ : World.drewN w9 _ = w9; replace a : Aside0 (w9.heap[l]? = some (.cells #[.int .i64 0, .slice none 0 0, .int .i64 0, .int .i64 0, .int .i64 0] 57 (0, 0))) := ⟨by rw [← hq_]; exact (bk_ a.out)⟩; replace HB : Aside0 (Below w.heap.size w w9) := ⟨by rw [← hq_]; exact bel_⟩; clear hq_)); (try (obtain ⟨_, _, _, _, _, _, _, _, _, _⟩ := cel5_ a.out))) | ((with_reducible refine gate_callee (f := 51) rfl ?_); refine goesL_ (some 10) rfl rfl Tryz.func51 kr_ rfl #[.int .i64 v] rfl ar_ ?_; (with_reducible refine (dom_place.calls v r _ K.out).mono ?_); rintro e w' ⟨rfl, ⟨nd, rfl⟩⟩; refine ⟨_, rfl, ?_⟩; (try (rw [drewN_self w9]; generalize hq_ : World.drewN w9 _ = w9; replace a : Aside0 (w9.heap[l]? = some (.cells #[.int .i64 0, .slice none 0 0, .int .i64 0, .int .i64 0, .int .i64 0] 57 (0, 0))) := ⟨by rw [← hq_]; exact (bk_ a.out)⟩; replace HB : Aside0 (Below w.heap.size w w9) := ⟨by rw [← hq_]; exact bel_⟩; clear hq_)); (try (obtain ⟨_, _, _, _, _, _, _, _, _, _⟩ := cel5_ a.out))) | ((with_reducible refine gate_dst (N := 14) rfl ?_); refine Kd.R_make (Kd.int .u64) _ 81 rfl (N := 14) rfl 55 _ _ rfl c rfl rfl Tryz.underlying55 (.int .u64 0) 8 info81 rfl (by decide) (by omega) 0 (ok := fun _ => True) (okp := fun _ => True) rfl (fun _ hk => hk) trivial (dq_) (Nat.le_trans (Nat.mul_le_mul_right _ (dq_ : c.toNat ≤ 35184372088832)) (by omega)) (Below.refl _ _) (lr_ _) ?_; intro O w13 n hb hg_ hnew_; clear hg_ hnew_; (first | rw [← s.out] at n | (simp only [Int.reduceToNat] at n; rw [← s.out] at n)); have u := a_ (Kd.R_lower n (bz_ bel_)); replace a := a_ (bq_ a.out hb); replace HB := hq_ hb; clear hb n; obtain ⟨o, p, G⟩ := Kd.R_slice u.out; subst G; obtain ⟨_, _, _, _, _, _, _, _, _, _⟩ := cel5_ a.out))
 refine bodyPost_ret (results_cell_row rfl _ _ l 57 #[.int .i64 b, .slice o m.length p, .int .i64 0, .int .i64 0, .int .i64 0] (0, 0) _ rfl (by refine bk_ ?_; refine bu_ (cs := #[.int .i64 b, .slice o m.length p, .int .i64 0, .int .i64 0, .int .i64 0]) ?_ 4 _ rfl; refine bk_ ?_; refine bu_ (cs := #[.int .i64 b, .slice o m.length p, .int .i64 0, .int .i64 0, .int .i64 0]) ?_ 3 _ rfl; refine bk_ ?_; refine bu_ (cs := #[.int .i64 b, .slice o m.length p, .int .i64 0, .int .i64 0, .int .i64 0]) ?_ 2 _ rfl; refine bk_ ?_; refine bu_ (cs := #[.int .i64 b, .slice none 0 0, .int .i64 0, .int .i64 0, .int .i64 0]) ?_ 1 _ rfl; refine bk_ ?_; refine bu_ (cs := #[.int .i64 0, .slice none 0 0, .int .i64 0, .int .i64 0, .int .i64 0]) ?_ 0 _ rfl; refine bk_ ?_; exact a.out) Tryz.underlying57 rfl kr_) rfl ?_
 exact ⟨_, by first | rfl | (simp [errW_none, errW_some] <;> rfl) | (simp only [← d]; first | rfl | (simp [errW_none, errW_some] <;> rfl)) | (simp [*, errW_none, errW_some] <;> rfl), by refine vR_ ?_; exact rm_ (fR_ (fR_ (fR_ (fR_ (fR_ (rt_ u.out a.out (by decide))))))) (fun _ hk => trivial), bel_⟩

/-! ### bits_LeadingZeros64: function 71 -/
def bits_LeadingZeros64.f (a : Int) : Option Int := if 0 ≤ a ∧ a < 18446744073709551616 then some (64 - (Lib.bitLen a.toNat : Int)) else none
theorem bits_LeadingZeros64.calls (a : Int) (r : Int) (w : World) (h : bits_LeadingZeros64.f a = some r) :
  Calls Tryz.prog 71 #[.int .u64 a] w fun e w' => e = .returned (.int .i64 r) ∧ Below w.heap.size w w' := by
 unfold bits_LeadingZeros64.f at h
 by_cases hb : 0 ≤ a ∧ a < 18446744073709551616
 rotate_left
 · rw [if_neg hb] at h; cases h
 rw [if_pos hb] at h
 obtain rfl := Option.some.inj h
 exact (Tryz.bits_LeadingZeros64 a w hb.1 (by omega)).mono (fun e w' ⟨he, hw⟩ => ⟨he, by subst hw; exact Below.refl _ _⟩)

/-! ### bits_OnesCount64: function 72 -/
def bits_OnesCount64.f (a : Int) : Option (Int) := some (Go.bits .and .i64 (wrap64 (IntKind.u64.wrap ((IntKind.u64.wrap ((IntKind.u64.wrap ((Go.bits .and .u64 (IntKind.u64.wrap (((IntKind.u64.wrap ((Go.bits .and .u64 ((IntKind.u64.wrap ((Go.bits .and .u64 (a / 2) 6148914691236517205) + (Go.bits .and .u64 a 6148914691236517205))) / 4) 3689348814741910323) + (Go.bits .and .u64 (IntKind.u64.wrap ((Go.bits .and .u64 (a / 2) 6148914691236517205) + (Go.bits .and .u64 a 6148914691236517205))) 3689348814741910323))) / 16) + (IntKind.u64.wrap ((Go.bits .and .u64 ((IntKind.u64.wrap ((Go.bits .and .u64 (a / 2) 6148914691236517205) + (Go.bits .and .u64 a 6148914691236517205))) / 4) 3689348814741910323) + (Go.bits .and .u64 (IntKind.u64.wrap ((Go.bits .and .u64 (a / 2) 6148914691236517205) + (Go.bits .and .u64 a 6148914691236517205))) 3689348814741910323))))) 1085102592571150095) + ((Go.bits .and .u64 (IntKind.u64.wrap (((IntKind.u64.wrap ((Go.bits .and .u64 ((IntKind.u64.wrap ((Go.bits .and .u64 (a / 2) 6148914691236517205) + (Go.bits .and .u64 a 6148914691236517205))) / 4) 3689348814741910323) + (Go.bits .and .u64 (IntKind.u64.wrap ((Go.bits .and .u64 (a / 2) 6148914691236517205) + (Go.bits .and .u64 a 6148914691236517205))) 3689348814741910323))) / 16) + (IntKind.u64.wrap ((Go.bits .and .u64 ((IntKind.u64.wrap ((Go.bits .and .u64 (a / 2) 6148914691236517205) + (Go.bits .and .u64 a 6148914691236517205))) / 4) 3689348814741910323) + (Go.bits .and .u64 (IntKind.u64.wrap ((Go.bits .and .u64 (a / 2) 6148914691236517205) + (Go.bits .and .u64 a 6148914691236517205))) 3689348814741910323))))) 1085102592571150095) / 256))) + ((IntKind.u64.wrap ((Go.bits .and .u64 (IntKind.u64.wrap (((IntKind.u64.wrap ((Go.bits .and .u64 ((IntKind.u64.wrap ((Go.bits .and .u64 (a / 2) 6148914691236517205) + (Go.bits .and .u64 a 6148914691236517205))) / 4) 3689348814741910323) + (Go.bits .and .u64 (IntKind.u64.wrap ((Go.bits .and .u64 (a / 2) 6148914691236517205) + (Go.bits .and .u64 a 6148914691236517205))) 3689348814741910323))) / 16) + (IntKind.u64.wrap ((Go.bits .and .u64 ((IntKind.u64.wrap ((Go.bits .and .u64 (a / 2) 6148914691236517205) + (Go.bits .and .u64 a 6148914691236517205))) / 4) 3689348814741910323) + (Go.bits .and .u64 (IntKind.u64.wrap ((Go.bits .and .u64 (a / 2) 6148914691236517205) + (Go.bits .and .u64 a 6148914691236517205))) 3689348814741910323))))) 1085102592571150095) + ((Go.bits .and .u64 (IntKind.u64.wrap (((IntKind.u64.wrap ((Go.bits .and .u64 ((IntKind.u64.wrap ((Go.bits .and .u64 (a / 2) 6148914691236517205) + (Go.bits .and .u64 a 6148914691236517205))) / 4) 3689348814741910323) + (Go.bits .and .u64 (IntKind.u64.wrap ((Go.bits .and .u64 (a / 2) 6148914691236517205) + (Go.bits .and .u64 a 6148914691236517205))) 3689348814741910323))) / 16) + (IntKind.u64.wrap ((Go.bits .and .u64 ((IntKind.u64.wrap ((Go.bits .and .u64 (a / 2) 6148914691236517205) + (Go.bits .and .u64 a 6148914691236517205))) / 4) 3689348814741910323) + (Go.bits .and .u64 (IntKind.u64.wrap ((Go.bits .and .u64 (a / 2) 6148914691236517205) + (Go.bits .and .u64 a 6148914691236517205))) 3689348814741910323))))) 1085102592571150095) / 256))) / 65536))) + ((IntKind.u64.wrap ((IntKind.u64.wrap ((Go.bits .and .u64 (IntKind.u64.wrap (((IntKind.u64.wrap ((Go.bits .and .u64 ((IntKind.u64.wrap ((Go.bits .and .u64 (a / 2) 6148914691236517205) + (Go.bits .and .u64 a 6148914691236517205))) / 4) 3689348814741910323) + (Go.bits .and .u64 (IntKind.u64.wrap ((Go.bits .and .u64 (a / 2) 6148914691236517205) + (Go.bits .and .u64 a 6148914691236517205))) 3689348814741910323))) / 16) + (IntKind.u64.wrap ((Go.bits .and .u64 ((IntKind.u64.wrap ((Go.bits .and .u64 (a / 2) 6148914691236517205) + (Go.bits .and .u64 a 6148914691236517205))) / 4) 3689348814741910323) + (Go.bits .and .u64 (IntKind.u64.wrap ((Go.bits .and .u64 (a / 2) 6148914691236517205) + (Go.bits .and .u64 a 6148914691236517205))) 3689348814741910323))))) 1085102592571150095) + ((Go.bits .and .u64 (IntKind.u64.wrap (((IntKind.u64.wrap ((Go.bits .and .u64 ((IntKind.u64.wrap ((Go.bits .and .u64 (a / 2) 6148914691236517205) + (Go.bits .and .u64 a 6148914691236517205))) / 4) 3689348814741910323) + (Go.bits .and .u64 (IntKind.u64.wrap ((Go.bits .and .u64 (a / 2) 6148914691236517205) + (Go.bits .and .u64 a 6148914691236517205))) 3689348814741910323))) / 16) + (IntKind.u64.wrap ((Go.bits .and .u64 ((IntKind.u64.wrap ((Go.bits .and .u64 (a / 2) 6148914691236517205) + (Go.bits .and .u64 a 6148914691236517205))) / 4) 3689348814741910323) + (Go.bits .and .u64 (IntKind.u64.wrap ((Go.bits .and .u64 (a / 2) 6148914691236517205) + (Go.bits .and .u64 a 6148914691236517205))) 3689348814741910323))))) 1085102592571150095) / 256))) + ((IntKind.u64.wrap ((Go.bits .and .u64 (IntKind.u64.wrap (((IntKind.u64.wrap ((Go.bits .and .u64 ((IntKind.u64.wrap ((Go.bits .and .u64 (a / 2) 6148914691236517205) + (Go.bits .and .u64 a 6148914691236517205))) / 4) 3689348814741910323) + (Go.bits .and .u64 (IntKind.u64.wrap ((Go.bits .and .u64 (a / 2) 6148914691236517205) + (Go.bits .and .u64 a 6148914691236517205))) 3689348814741910323))) / 16) + (IntKind.u64.wrap ((Go.bits .and .u64 ((IntKind.u64.wrap ((Go.bits .and .u64 (a / 2) 6148914691236517205) + (Go.bits .and .u64 a 6148914691236517205))) / 4) 3689348814741910323) + (Go.bits .and .u64 (IntKind.u64.wrap ((Go.bits .and .u64 (a / 2) 6148914691236517205) + (Go.bits .and .u64 a 6148914691236517205))) 3689348814741910323))))) 1085102592571150095) + ((Go.bits .and .u64 (IntKind.u64.wrap (((IntKind.u64.wrap ((Go.bits .and .u64 ((IntKind.u64.wrap ((Go.bits .and .u64 (a / 2) 6148914691236517205) + (Go.bits .and .u64 a 6148914691236517205))) / 4) 3689348814741910323) + (Go.bits .and .u64 (IntKind.u64.wrap ((Go.bits .and .u64 (a / 2) 6148914691236517205) + (Go.bits .and .u64 a 6148914691236517205))) 3689348814741910323))) / 16) + (IntKind.u64.wrap ((Go.bits .and .u64 ((IntKind.u64.wrap ((Go.bits .and .u64 (a / 2) 6148914691236517205) + (Go.bits .and .u64 a 6148914691236517205))) / 4) 3689348814741910323) + (Go.bits .and .u64 (IntKind.u64.wrap ((Go.bits .and .u64 (a / 2) 6148914691236517205) + (Go.bits .and .u64 a 6148914691236517205))) 3689348814741910323))))) 1085102592571150095) / 256))) / 65536))) / 4294967296)))) 127)
set_option maxHeartbeats 8000000 in
set_option maxRecDepth 100000 in
theorem bits_OnesCount64.calls (a : Int) (r : Int) (w : World) (h : bits_OnesCount64.f a = some r) :
  Calls Tryz.prog 72 #[.int .u64 a] w fun e w' => e = .returned (.int .i64 r) ∧ Drawn0 w w' := by
 unfold bits_OnesCount64.f at h
 have H := h
 clear h
 obtain rfl := si_ H
 go_enter Tryz.func72, Tryz.ntmps72
 go_wp2
 go_ret
 exact ⟨by first | rfl | (simp; done) | (simp [*]; done), by repeat (first | exact d0_ _ | apply Drawn0.step)⟩

end Go.Proofs.YtckfbfdnlpnllaaGreatDoor.XAllDiffFixed
